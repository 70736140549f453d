/- AssembleComplete: for anything drawn the law returns true and leaves its arguments as they were. No other condition. Part 2 of 8: what the later parts need -/
import Derived.Test.YtokaoegjfpjjnaaGreatTa
import Derived.KernelRfl
import Derived.Laws.StructEq
import Derived.Test.YtokaoegjfpjjnaaGreatProg
import Derived.Eval
import Derived.RangeFuncIn
import Derived.Carry
import Derived.ChangeArms
import Derived.DataReads
import Derived.ChangeShapes
import Derived.RowKit
import Derived.ProofKit
import Derived.OpenShut
import Derived.Handed
import Derived.SizedLaws
set_option linter.unusedVariables false
open List (all_cons nil_append append_nil map_nil drop_drop)
open List renaming mem_of_getElem? → ank, mem_cons_of_mem → aom, mem_append → anz, map_cons → aow, mem_cons → an9, length_cons → an0, mem_cons_self → aok, length_append → aoe, length_nil → aoa, getD_eq_getElem?_getD → anm, getElem?_append_left → an8, getElem?_eq_none → an2, all_eq_true → anx, getElem?_take → aof, getElem?_drop → aop, getElem?_map → anr, append_assoc → aor, getElem?_append_right → an7, getElem?_eq_getElem → ano, drop_eq_nil_of_le → aoi, map_append → aoc, length_take → an6, take_of_length_le → an1, drop_zero → aov, take_length → an3, not_mem_nil → aob, length_map → anl, mem_of_mem_take → aot, dropLast_concat_getLast → ak2, mem_replicate → ak4, cons_append → ak5, mem_or_eq_of_mem_set → ala, eq_nil_of_length_eq_zero → alb, take_append_drop → alg, getElem_mem → ali, getElem?_eq_some_iff → alj, getElem?_toArray → alk, drop_eq_getElem_cons → alq, mem_singleton → alr, replicate → als, getElem?_of_mem → alt, size_toArray → alu, mem_iff_getElem → alx, getLast?_cons_cons → alz, mem_map → al0
open Nat (le_of_lt)
open Nat renaming eq_of_beq_eq_true → anw, le_refl → anp, lt_of_lt_of_le → an5, lt_or_ge → anu, le_trans → an4, mul_le_mul_right → aod, mul_le_mul_left → ant, zero_le → ans, pow_add → aoo, lt_of_le_of_lt → aog, pow_succ → ajq, add_assoc → ajs, mul_comm → ajt, add_comm → ajw, beq → ajx, div_lt_iff_lt_mul → ajz, min_eq_left → aj1, mod_eq_of_lt → aj4, blt_eq → aj6, div_div_eq_div_mul → aj7, succ_mul → aj9, pow_mul → akb, mul_add → akc, div_le_self → akd, ne_of_beq_eq_false → ake, ble_eq_true_of_le → akg, pow_pos → aki, beq_refl → akj, add_mul → akk, pow_le_pow_right → akl, add_zero → akn, add_mul_div_left → ako, ble_eq → akp, div_add_mod → akq, mul_lt_mul'' → akr, blt → aks, zero_add → akv, mul_le_mul → akw, eq_zero_or_pos → akx, mod_lt → akz
open Option renaming map_eq_some_iff → ann, map_some → anh
open Bool renaming and_eq_true → anq, or_eq_true → aos, false_and → amq, false_eq_true → ams
open Array renaming getD_eq_getD_getElem? → anv, getElem?_eq_getElem → amz, toList_inj → am1, size_append → am3, getElem?_extract → am5, length_toList → am8, getElem?_toList → ana, getElem?_append → anb, getElem?_push → ang
open Int renaming toNat_natCast → aol, natAbs_mul → al3, fdiv_eq_ediv_of_nonneg → al4
open Go renaming Operand → ao8, Value → ao9, TypeId → apa, Program → apb, World → apc
open Go.Proofs.Tryz
namespace Go.Lw
variable{P:apb}{N:Nat}{s:AS}
theorem Sub.refl(x:AV):Sub x x:=fun _ _ _ _ h=>h
inductive SlW(sl:c9):c9->Prop
  |nil:SlW sl []
  |cons {t:Nat} {x y:AV} {l:c9} (h:lk sl t=some y) (hs:Sub y x) (hl:SlW sl l):SlW sl ((t,some x)::l)
theorem SlW.get{sl l:c9}(h:SlW sl l){t:Nat}{x:AV}(hx:lk l t=some x):∃y,lk sl t=some y/\Sub y x:=by
 induction h with
 |nil=>cases hx
 | @cons t' x' y l h1 h2 _ ih =>
  rw[a5]at hx;split at hx
  ·cases hx;subst_vars;exact⟨y,h1,h2⟩
  ·exact ih hx
theorem SlW.same{sl l:c9}{t:Nat}{x:AV}(h:lk sl t=some x)(hl:SlW sl l):SlW sl ((t,some x)::l):=.cons h (.refl x) hl
def oi(e e':AV):Prop:=e.cells.length=e'.cells.length/\∀(j:Nat)(x y:AV),e.cells[j]?=some x->e'.cells[j]?=some y->y.one=true/\Sub x y
inductive BlkSub:Blk->Blk->Prop
  |refl (x:Blk):BlkSub x x
  |row {sz:Nat} {es es':List AV} (hn:es.length=es'.length) (h:∀(i:Nat)(e e':AV),es[i]?=some e->es'[i]?=some e'->oi e e'):BlkSub (.row sz es) (.row sz es')
  |box {cs cs':List AV} (hn:cs.length=cs'.length) (h1:∀(j:Nat)(x:AV),cs'[j]?=some x->x.one=true)
      (h:∀(j:Nat)(x y:AV),cs[j]?=some x->cs'[j]?=some y->Sub x y):BlkSub (.box cs) (.box cs')
  |vecRow {vs:List ao9} (hl:vs.length<=bb):BlkSub (.vec vs) (.row 1 (vs.map .v))
inductive HpW(hp:Hp):Hp->Prop
  |nil:HpW hp []
  |cons {k:Nat} {x y:Blk} {l:Hp} (h:lk hp k=some y) (hs:BlkSub y x) (hl:HpW hp l):HpW hp ((k,some x)::l)
theorem HpW.k{hp l:Hp}{k:Nat}{x:Blk}(hl:HpW hp l)(h:lk hp k=some x:=by exact rfl):HpW hp ((k,some x)::l):=.cons h (.refl x) hl
theorem HpW.same{hp l:Hp}{k:Nat}{x:Blk}(h:lk hp k=some x)(hl:HpW hp l):HpW hp ((k,some x)::l):=.cons h (.refl x) hl
theorem HpW.get{hp l:Hp}(h:HpW hp l){k:Nat}{x:Blk}(hx:lk l k=some x):∃y,lk hp k=some y/\BlkSub y x:=by
 induction h with
 |nil=>cases hx
 | @cons t' x' y l h1 h2 _ ih =>
  rw[a5]at hx;split at hx
  ·cases hx;subst_vars;exact⟨y,h1,h2⟩
  ·exact ih hx
theorem l6{α β:Type}{l:List α}{l':List β}(hn:l.length=l'.length){j:Nat}{x:α}(hx:l[j]?=some x):∃y,l'[j]?=some y:=by
 have hj:j<l.length:=by
  rcases anu j l.length with h |h
  ·exact h
  ·rw[an2 h]at hx;cases hx
 exact⟨_,ano oz⟩
theorem BlkSub.rep{g:Nat->Array ao9->Prop}{S:Nat->Nat->Prop}{m:Nat->Option Nat}{w:apc}{o:Option Nat}{x y:Blk}(h:BlkSub x y)(hr:BlkRep g S m w o x):BlkRep g S m w o y:=by
 cases h with
 |refl=>exact hr
 | @row sz es es' hn h =>
  cases hr with
  |none =>
   have:es'=[]:=alb hn.symm;subst this;exact .none _
  |row hw hn' hl hs h1 bA =>
   refine .row hw (by rw[<- hn];exact hn') oz ?_ ?_ ?_
   ·intro i e' he';obtain⟨e,he⟩:=l6 hn.symm he';rw[<- (h i e e' he he').1];exact hs i e he
   ·intro i j e' x' he' hx';obtain⟨e,he⟩:=l6 hn.symm he';obtain⟨x,hx⟩:=l6 (h i e e' he he').1.symm hx';exact((h i e e' he he').2 j x x' hx hx').1
   ·intro i j e' u x' he' hx' hu;obtain⟨e,he⟩:=l6 hn.symm he';obtain⟨x,hx⟩:=l6 (h i e e' he he').1.symm hx';exact((h i e e' he he').2 j x x' hx hx').2 _ _ _ _ (bA i j e u x he hx hu)
 |box hn h1 h =>
  cases hr with
  |box hw hn' h1' bA =>
   refine .box hw oz h1 (fun j u y hu hy=>?_);obtain⟨z,hz⟩:=l6 hn.symm hy;exact h j z y hz hy _ _ _ _ (bA j u z hu hz)
 | @vecRow vs hl =>
  cases hr with
  | @vec _ _ c t hw hc h1 =>
   have fX:c.size=vs.length:=by rw[<- hc];simp
   refine .row hw (by simp;omega) (by simpa using hl) ?_ ?_ ?_
   ·intro i e he;obtain⟨v,hv,rfl⟩:=al0.1 (ank he);rfl
   ·intro i j e x he hx;obtain⟨v,hv,rfl⟩:=al0.1 (ank he);cases j with
    |zero=>cases hx;exact h1 v hv
    |succ j=>cases hx
   ·intro i j e u x he hx hu;rw[anr,ann]at he;obtain⟨v,hv,rfl⟩:=he;cases j with
    |zero =>
     cases hx;have:c[i]?=some v:=by rw[<- ana,hc];exact hv
     have hu':c[i]?=some u:=by simpa using hu
     rw[this]at hu';cases hu';exact .v _
    |succ j=>cases hx
theorem RelM.weak{C:Ctx}{m:Nat->Option Nat}{a:Act}{w:apc}(h:RelM C s m a w){s':AS}(h1:∀t x,s'.get t=some x->∃y,s.get t=some y/\Sub y x)
  (h2:∀k x,lk s'.hp k=some x->∃y,lk s.hp k=some y/\BlkSub y x):RelM C s' m a w:=by
 have hf:=Frame.refl (bj s.hp m) w
 have bQ:∀k' z b,lk s'.hp k'=some z->m k'=some b->bj s.hp m b\/w.heap.size<=b:=fun k' z b hz hb=>by
  obtain⟨y,hy,_⟩:=h2 k' z hz;exact .inl ⟨k',y,hy,hb⟩
 have hu:=h.update hf (hp':=s'.hp) (fun _ _ _ _ _ _ hb=>hb) bQ (fun k' z _ hz=>by obtain⟨y,hy,_⟩:=h2 k' z hz;exact⟨⟨y,hy⟩,rfl⟩) ⟨?_,?_,?_⟩
 ·refine⟨?_,hu.heap,hu.frame,hu.new,hu.keep,hu.defers,hu.nt⟩;intro t x hx;obtain⟨y,hy,hs⟩:=h1 t x hx;obtain⟨g1,g2⟩:=hu.slots t y hy;exact⟨g1,hs _ _ _ _ g2⟩
 ·intro k' z hz;obtain⟨y,hy,hs⟩:=h2 k' z hz;exact hs.rep (BlkRep.mono (w:=w) (gQ hf bQ) hf.sz (fun _ _ _ h=>h) rfl (fun _ _=>rfl) (h.heap.blk k' y hy))
 ·intro k1 k2 z1 z2 b g1 g2;obtain⟨y1,uH,_⟩:=h2 k1 z1 g1;obtain⟨y2,ri,_⟩:=h2 k2 z2 g2;exact h.heap.inj k1 k2 y1 y2 b uH ri
 ·intro k' z b hz hb;obtain⟨y,hy,_⟩:=h2 k' z hz;exact h.heap.sep k' y b hy hb
theorem Wk.of{sl:c9}{hp:Hp}(h1:SlW s.sl sl)(h2:HpW s.hp hp):Wk s ⟨sl,hp⟩ :=
 fun C m a w hr=>⟨m,hr.weak (fun t x hx=>h1.get hx) (fun k x hx=>h2.get hx)⟩
mutual
def AV.fz(k sz:Nat)(es:List AV):AV->AV
  | .ms k' sz' off len=>match ajx k' k&&ajx sz' sz&&Nat.ble (off+len) es.length with
    |true=>.lst sz ((es.drop off).take len)
    |false=>.ms k' sz' off len
  | .agg cs=>.agg (AV.fzs k sz es cs)
  | .tup cs=>.tup (AV.fzs k sz es cs)
  | .fn f cs=>.fn f (AV.fzs k sz es cs)
  | .opt b x=>.opt b (AV.fz k sz es x)
  | .v x=>.v x
  | .lst sz l=>.lst sz l
  | .iptr l=>.iptr l
  | .ptr k off=>.ptr k off
  | .eptr k sz i off=>.eptr k sz i off
  | .yl k=>.yl k
  | .cl f cs ds=>.cl f cs ds
def AV.fzs(k sz:Nat)(es:List AV):List AV->List AV
  |[]=>[]
  |x::l=>AV.fz k sz es x::AV.fzs k sz es l
end
theorem AV.fzs_eq(k sz:Nat)(es:List AV):∀l,AV.fzs k sz es l=l.map (AV.fz k sz es)
 |[]=>rfl
 |x::l=>by simp only[AV.fzs,aow,AV.fzs_eq k sz es l]
theorem AV.fz_one(k sz:Nat)(es:List AV)(x:AV)(h:x.one=true):(x.fz k sz es).one=true:=by
 cases x <;> simp only[AV.fz] <;> first |exact h |(split <;> rfl)
theorem xG{g:Nat->Array ao9->Prop}{S:Nat->Nat->Prop}{k sz:Nat}{es:List AV}{m:Nat->Option Nat}{v:ao9}{x:AV}(h:Rep g S m v x)
  (hb:∀b,m k=some b->∃c:Array ao9,g b c/\es.length*sz<=c.size/\es.length<=bb/\(∀(i:Nat)(e:AV),es[i]?=some e->e.cells.length=sz) /\
   (∀(i j:Nat)(e x:AV),es[i]?=some e->e.cells[j]?=some x->x.one=true) /\
   ∀(i j:Nat)(e:AV)(u:ao9)(x:AV),es[i]?=some e->e.cells[j]?=some x->c[i*sz+j]?=some u->Rep g S eQ u x):Rep g S m v (x.fz k sz es):=by
 induction h with
 |v x=>exact .v x
 |lst0 a cap sz'=>exact .lst0 a cap sz'
 |lst u hb' hc hl hs h1 hu hr _=>exact .lst u hb' hc hl hs h1 hu hr
 |iptr u hb' h1 hu hr _=>exact .iptr u hb' h1 hu hr
 |ptr h=>exact .ptr h
 |eptr h=>exact .eptr h
 |yl h=>exact .yl h
 |opt h h' ih=>exact .opt (fun s9=>ih s9 hb) h'
 |agg hn h1 hr ih =>
  simp only[AV.fz,AV.fzs_eq];refine .agg (by simpa using hn) ?_ ?_
  ·intro j c hc;simp only[anr,ann]at hc;obtain⟨y,hy,rfl⟩:=hc;exact AV.fz_one _ _ _ _ (h1 j y hy)
  ·intro j u c hu hc;simp only[anr,ann]at hc;obtain⟨y,hy,rfl⟩:=hc;exact ih j u y hu hy hb
 |tup hn hr ih =>
  simp only[AV.fz,AV.fzs_eq];refine .tup (by simpa using hn) ?_;intro j u c hu hc;simp only[anr,ann]at hc;obtain⟨y,hy,rfl⟩:=hc;exact ih j u y hu hy hb
 |fn hn hr ih =>
  simp only[AV.fz,AV.fzs_eq];refine .fn (by simpa using hn) ?_;intro j u c hu hc;simp only[anr,ann]at hc;obtain⟨y,hy,rfl⟩:=hc;exact ih j u y hu hy hb
 |cl hn hr hn' hr' _ _=>exact .cl hn hr hn' hr'
 |ms0 a k' sz' off =>
  simp only[AV.fz];split
  ·simp;exact .lst0 _ _ _
  ·exact .ms0 _ _ _ _
 | @ms mm k' sz' off len cap b hm hc hS =>
  simp only[AV.fz];split
  ·rename_i QV;simp only [anq,akp] at QV;obtain⟨⟨h1,h2⟩,h3⟩:=QV;obtain rfl:=anw h1;obtain rfl:=anw h2;obtain⟨c,HO,bG,fP,hs,ho,hr⟩:=hb b hm;have bK:((es.drop off).take len).length=len:=by simp; omega
   have gj:∀(i:Nat)(e:AV),((es.drop off).take len)[i]?=some e->es[off+i]?=some e:=by
    intro i e he;rw[aof]at he;split at he
    ·rwa [aop]at he
    ·cases he
   have iT:∀(i j:Nat)(e x:AV),es[i]?=some e->e.cells[j]?=some x->∃u,c[i*sz'+j]?=some u:=by
    intro i j e x he hx
    have hi:i<es.length:=by
     rcases anu i es.length with h |h
     ·exact h
     ·rw[an2 h]at he;cases he
    have hj:j<e.cells.length:=by
     rcases anu j e.cells.length with h |h
     ·exact h
     ·rw[an2 h]at hx;cases hx
    rw[hs i e he]at hj;have:=qI (sz:=sz') hi;exact⟨_,amz oz⟩
   have:=Rep.lst (g:=g) (S:=S) (m:=mm) (b:=b) (off:=off*sz') (cap:=cap) (sz:=sz') (es:=(es.drop off).take len) (cs:=c)
    (fun i j=>c.getD ((off+i)*sz'+j) undef) HO oz oz (fun i e he=>hs _ e (gj i e he)) (fun i j e x he hx=>ho _ j e x (gj i e he) hx)
    (fun i j e x he hx=>by
     obtain⟨u,hu⟩:=iT _ j e x (gj i e he) hx;rw[anv,hu,<- akk,hu];rfl)
    (fun i j e x he hx=>by
     obtain⟨u,hu⟩:=iT _ j e x (gj i e he) hx;rw[anv,hu];exact hr _ j e u x (gj i e he) hx hu)
   rwa [bK]at this
  ·exact .ms hm hc hS
def m8(f:AV->AV):c9->c9
  |[]=>[]
  |(t,x)::l=>(t,match x with |some x=>some (f x) |none=>none)::m8 f l
theorem vH(f:AV->AV):∀(l:c9)(t:Nat),lk (m8 f l) t=(lk l t).map f
 |[],t=>rfl
 |(t',x)::l,t=>by
  simp only[m8,a5,vH f l t];split
  ·cases x <;> rfl
  ·rfl
def Blk.map(f:AV->AV):Blk->Blk
  | .box cs=>.box (cs.map f)
  | .row sz es=>.row sz es
  | .loop d st pe sl=>.loop d st pe (m8 f sl)
  | .vec vs=>.vec vs
theorem BlkRep.mapLoop{g g':Nat->Array ao9->Prop}{S S':Nat->Nat->Prop}{m m':Nat->Option Nat}{w:apc}{o:Option Nat}{d:LpD}{st:LoopState}{pe:Option Code}{sl:c9}(f:AV->AV)
  (h:BlkRep g S m w o (.loop d st pe sl)) (hf:∀t x v,lk sl t=some x->Rep g S m v x->Rep g' S' m' v (f x)):BlkRep g' S' m' w o (.loop d st pe (m8 f sl)):=by
 cases h with
 |loop h h1 h2 h3 h4 h5 hn hr =>
  refine .loop h h1 h2 h3 h4 h5 hn (fun t x hx=>?_);rw[vH,ann]at hx;obtain⟨y,hy,rfl⟩:=hx;exact⟨(hr t y hy).1,hf t y _ hy (hr t y hy).2⟩
def jT(f:AV->AV)(k:Nat):Hp->Hp
  |[]=>[]
  |(k',x)::l=>(k',match ajx k' k with |true=>none |false=>match x with |some x=>some (x.map f) |none=>none)::jT f k l
theorem rW(f:AV->AV)(k:Nat):∀(l:Hp)(t:Nat),lk (jT f k l) t=if t=k then none else(lk l t).map (Blk.map f)
 |[],t=>by simp[jT,lk]
 |(k',x)::l,t=>by
  simp only[jT,a5,rW f k l t]
  by_cases h1:t=k'
  ·subst h1;rw[aoz rfl,aoz rfl];cases hb:ajx t k with
   |true=>rw[aoz (anw hb)]
   |false=>rw[aoy (ake hb)];cases x <;> rfl
  ·rw[aoy h1,aoy h1]
theorem Wk.freeze{k sz:Nat}{es:List AV}(hk:s.blk k=some (.row sz es)):Wk s ⟨m8 (AV.fz k sz es) s.sl,jT (AV.fz k sz es) k s.hp⟩:=by
 intro C m a w hr;refine⟨m,?_⟩
 have uI:∀k' z,lk ((k,none)::s.hp) k'=some z->lk s.hp k'=some z:=by
  intro k' z hz;rw[a5]at hz;split at hz
  ·cases hz
  ·exact hz
 have br:=hr.fewer uI
 have hb:∀b,m k=some b->∃c:Array ao9,Im C.ext ((k,none)::s.hp) m w b c/\es.length*sz<=c.size/\es.length<=bb/\(∀(i:Nat)(e:AV),es[i]?=some e->e.cells.length=sz) /\
   (∀(i j:Nat)(e x:AV),es[i]?=some e->e.cells[j]?=some x->x.one=true) /\
   ∀(i j:Nat)(e:AV)(u:ao9)(x:AV),es[i]?=some e->e.cells[j]?=some x->c[i*sz+j]?=some u->Rep (Im C.ext ((k,none)::s.hp) m w) (Sz w) eQ u x:=by
  intro b hm;obtain⟨c,t,hw,hn,hl,hs,ho,bA⟩:=yG hr.heap hk hm;have ef:=gQ (ext:=C.ext) (Frame.refl (bj s.hp m) w) (hp':=(k,none)::s.hp) (m':=m) (fun k' z b' hz hb'=>.inl ⟨k',z,uI k' z hz,hb'⟩);refine⟨c,⟨(hr.heap.sep k _ b hk hm).1,?_,t,(0,0),hw⟩,hn,hl,hs,ho,fun i j e u x he hx hu=>(bA i j e u x he hx hu).mono ef (fun _ _ h=>h) (fun _ _ _ h=>h)⟩;rintro⟨k',z,hz,hb'⟩;have:=hr.heap.inj k k' _ z b hk (uI k' z hz) hm hb';subst this;rw[a5,aoz rfl]at hz;cases hz
 have eJ:∀k' z,lk (jT (AV.fz k sz es) k s.hp) k'=some z->∃y,lk ((k,none)::s.hp) k'=some y/\z=y.map (AV.fz k sz es):=by
  intro k' z hz;rw[rW]at hz;split at hz
  ·cases hz
  ·rename_i bV;simp only[ann]at hz;obtain⟨y,hy,rfl⟩:=hz;exact⟨y,by rw[a5,aoy bV];exact hy,rfl⟩
 have uE:∀k' y,lk ((k,none)::s.hp) k'=some y->lk (jT (AV.fz k sz es) k s.hp) k'=some (y.map (AV.fz k sz es)):=by
  intro k' y hy;rw[a5]at hy;split at hy
  ·cases hy
  ·rename_i bV;rw[rW,aoy bV,hy];rfl
 have e1:bj (jT (AV.fz k sz es) k s.hp) m=bj ((k,none)::s.hp) m:=by
  funext b;apply propext;constructor
  ·rintro⟨k',z,hz,hb⟩;obtain⟨y,hy,_⟩:=eJ k' z hz;exact⟨k',y,hy,hb⟩
  ·rintro⟨k',y,hy,hb⟩;exact⟨k',_,uE k' y hy,hb⟩
 have e2:Im C.ext (jT (AV.fz k sz es) k s.hp) m w=Im C.ext ((k,none)::s.hp) m w:=by funext b cs;simp only[Im,e1]
 refine⟨?_,⟨?_,?_,?_⟩,br.frame,?_,?_,br.defers,br.nt⟩
 ·intro t x hx;simp only[AS.get,vH,ann]at hx;obtain⟨y,hy,rfl⟩:=hx;obtain⟨g1,g2⟩:=br.slots t y hy;refine⟨g1,?_⟩;show Rep (Im C.ext (jT (AV.fz k sz es) k s.hp) m w) _ _ _ _;rw[e2];exact xG g2 hb
 ·intro k' z hz;obtain⟨y,hy,rfl⟩:=eJ k' z hz;rw[e2];have:=br.heap.blk k' y hy;cases y with
  |row sz' es'=>exact this
  |vec vs =>
   simp only[Blk.map];generalize m k'=o at this;cases this with
   |vec hw hc h1=>exact .vec hw hc h1
  |loop=>exact this.mapLoop _ (fun _ _ _ _ h=>xG h hb)
  |box cs =>
   simp only[Blk.map];generalize m k'=o at this;cases this with
   |box hw hn h1 bA =>
    refine .box hw (by simpa using hn) ?_ ?_
    ·intro j x hx;simp only[anr,ann]at hx;obtain⟨y,hy,rfl⟩:=hx;exact AV.fz_one _ _ _ _ (h1 j y hy)
    ·intro j u x hu hx;simp only[anr,ann]at hx;obtain⟨y,hy,rfl⟩:=hx;exact xG (bA j u y hu hy) hb
 ·intro k1 k2 z1 z2 b g1 g2;obtain⟨y1,uH,_⟩:=eJ k1 z1 g1;obtain⟨y2,ri,_⟩:=eJ k2 z2 g2;exact br.heap.inj k1 k2 y1 y2 b uH ri
 ·intro k' z b hz hb;obtain⟨y,hy,_⟩:=eJ k' z hz;exact br.heap.sep k' y b hy hb
 ·intro k' z b hz hb;obtain⟨y,hy,_⟩:=eJ k' z hz;exact br.new k' y b hy hb
 ·intro k' z rg hz;obtain⟨y,hy,_⟩:=eJ k' z hz;exact br.keep k' y rg hy
mutual
def AV.rn(k d:Nat):AV->AV
  | .ms k' sz off len=>match ajx k' k with
    |true=>.ms d sz off len
    |false=>.ms k' sz off len
  | .ptr k' off=>match ajx k' k with
    |true=>.ptr d off
    |false=>.ptr k' off
  | .eptr k' sz i off=>match ajx k' k with
    |true=>.eptr d sz i off
    |false=>.eptr k' sz i off
  | .agg cs=>.agg (AV.rns k d cs)
  | .tup cs=>.tup (AV.rns k d cs)
  | .fn f cs=>.fn f (AV.rns k d cs)
  | .opt b x=>.opt b (AV.rn k d x)
  | .yl k'=>match ajx k' k with
    |true=>.yl d
    |false=>.yl k'
  | .cl f cs ds=>.cl f cs ds
  | .v x=>.v x
  | .lst sz l=>.lst sz l
  | .iptr l=>.iptr l
def AV.rns(k d:Nat):List AV->List AV
  |[]=>[]
  |x::l=>AV.rn k d x::AV.rns k d l
end
theorem AV.rns_eq(k d:Nat):∀l,AV.rns k d l=l.map (AV.rn k d)
 |[]=>rfl
 |x::l=>by simp only[AV.rns,aow,AV.rns_eq k d l]
theorem AV.rn_one(k d:Nat)(x:AV)(h:x.one=true):(x.rn k d).one=true:=by
 cases x <;> simp only[AV.rn] <;> first |exact h |(split <;> rfl)
theorem VY{g:Nat->Array ao9->Prop}{S:Nat->Nat->Prop}{k d:Nat}{m m':Nat->Option Nat}{v:ao9}{x:AV}(h:Rep g S m v x)(hd:¬x.Names d)
  (h1:m' d=m k) (h2:∀k',k'≠d->m' k'=m k'):Rep g S m' v (x.rn k d):=by
 induction h with
 |v x=>exact .v x
 |lst0 a cap sz'=>exact .lst0 a cap sz'
 |lst u hb hc hl hs ho hu hr _=>exact .lst u hb hc hl hs ho hu hr
 |iptr u hb ho hu hr _=>exact .iptr u hb ho hu hr
 | @ptr _ k' off b hm =>
  simp only[AV.rn];split
  ·rename_i hk;obtain rfl:=anw hk;exact .ptr (h1.trans hm)
  ·exact .ptr ((h2 _ (fun e=>hd (e▸.ptr _ _))).trans hm)
 | @eptr _ k' sz i off b hm =>
  simp only[AV.rn];split
  ·rename_i hk;obtain rfl:=anw hk;exact .eptr (h1.trans hm)
  ·exact .eptr ((h2 _ (fun e=>hd (e▸.eptr _ _ _ _))).trans hm)
 |ms0 a k' sz' off =>
  simp only[AV.rn];split <;> exact .ms0 _ _ _ _
 |cl hn hr hn' hr' _ _=>exact .cl hn hr hn' hr'
 | @yl _ k' b hm =>
  simp only[AV.rn];split
  ·rename_i hk;obtain rfl:=anw hk;exact .yl (h1.trans hm)
  ·exact .yl ((h2 _ (fun e=>hd (e▸.yl _))).trans hm)
 | @ms _ k' sz' off len cap b hm hc hS =>
  simp only[AV.rn];split
  ·rename_i hk;obtain rfl:=anw hk;exact .ms (h1.trans hm) hc hS
  ·exact .ms ((h2 _ (fun e=>hd (e▸.ms _ _ _ _))).trans hm) hc hS
 |opt h h' ih=>exact .opt (fun hb=>ih hb (fun hn=>hd (.opt hn)) h1 h2) h'
 |agg hn h1' hr ih =>
  simp only[AV.rn,AV.rns_eq];refine .agg (by simpa using hn) ?_ ?_
  ·intro j c hc;simp only[anr,ann]at hc;obtain⟨y,hy,rfl⟩:=hc;exact AV.rn_one _ _ _ (h1' j y hy)
  ·intro j u c hu hc;simp only[anr,ann]at hc;obtain⟨y,hy,rfl⟩:=hc;exact ih j u y hu hy (fun hn=>hd (.agg (ank hy) hn)) h1 h2
 |tup hn hr ih =>
  simp only[AV.rn,AV.rns_eq];refine .tup (by simpa using hn) ?_;intro j u c hu hc;simp only[anr,ann]at hc;obtain⟨y,hy,rfl⟩:=hc;exact ih j u y hu hy (fun hn=>hd (.tup (ank hy) hn)) h1 h2
 |fn hn hr ih =>
  simp only[AV.rn,AV.rns_eq];refine .fn (by simpa using hn) ?_;intro j u c hu hc;simp only[anr,ann]at hc;obtain⟨y,hy,rfl⟩:=hc;exact ih j u y hu hy (fun hn=>hd (.fn (ank hy) hn)) h1 h2
def sQ(k d:Nat)(y:Blk)(hp:Hp):Hp:=(d,some (y.map (AV.rn k d)))::jT (AV.rn k d) k hp
theorem uv{k d:Nat}{y:Blk}{hp:Hp}{k':Nat}{z:Blk}(h:lk (sQ k d y hp) k'=some z) :
  ∃y',lk ((d,some y)::(k,none)::hp) k'=some y'/\z=y'.map (AV.rn k d):=by
 unfold sQ at h;rw[a5]at h ⊢;split at h
 ·rename_i he;rw[aoz he];cases h;exact⟨y,rfl,rfl⟩
 ·rename_i he;rw[aoy he,a5];rw[rW]at h;split at h
  ·cases h
  ·rename_i hk;rw[aoy hk];simp only[ann]at h;obtain⟨y',hy',rfl⟩:=h;exact⟨y',hy',rfl⟩
theorem Wk.rk{k d:Nat}{y:Blk}(hk:s.blk k=some y)(hd:s.freshB d=true):Wk s ⟨m8 (AV.rn k d) s.sl,sQ k d y s.hp⟩:=by
 intro C m a w hr;have hfr:=AS.fresh_of hd;have br:=hr.rk hk hfr;refine⟨fun k'=>if k'=d then m k else m k',?_⟩
 have uE:∀k' y',lk ((d,some y)::(k,none)::s.hp) k'=some y'->lk (sQ k d y s.hp) k'=some (y'.map (AV.rn k d)):=by
  intro k' y' h;unfold sQ;rw[a5]at h ⊢;split at h
  ·rename_i he;rw[aoz he];cases h;rfl
  ·rename_i he;rw[aoy he,rW];rw[a5]at h;split at h
   ·cases h
   ·rename_i hk';rw[aoy hk',h];rfl
 have e1:bj (sQ k d y s.hp) (fun k'=>if k'=d then m k else m k')=bj ((d,some y)::(k,none)::s.hp) (fun k'=>if k'=d then m k else m k'):=by
  funext b;apply propext;constructor
  ·rintro⟨k',z,hz,hb⟩;obtain⟨y',hy',_⟩:=uv hz;exact⟨k',y',hy',hb⟩
  ·rintro⟨k',y',hy',hb⟩;exact⟨k',_,uE k' y' hy',hb⟩
 have e2:Im C.ext (sQ k d y s.hp) (fun k'=>if k'=d then m k else m k') w=Im C.ext ((d,some y)::(k,none)::s.hp) (fun k'=>if k'=d then m k else m k') w:=by
  funext b cs;simp only[Im,e1]
 have ef:=gQ (ext:=C.ext) (Frame.refl (bj s.hp m) w) (hp':=(d,some y)::(k,none)::s.hp) (m':=fun k'=>if k'=d then m k else m k') (by
  intro k' z b hz hb;rw[a5]at hz;split at hz
  ·rename_i he;rw[aoz he]at hb;exact .inl ⟨k,y,hk,hb⟩
  ·rename_i he;rw[aoy he]at hb
   rw[a5]at hz;split at hz
   ·cases hz
   ·exact .inl ⟨k',z,hz,hb⟩)
 have HP:∀v x,¬AV.Names x d->Rep (Im C.ext s.hp m w) (Sz w) m v x->Rep (Im C.ext ((d,some y)::(k,none)::s.hp) (fun k'=>if k'=d then m k else m k') w) (Sz w) (fun k'=>if k'=d then m k else m k') v (x.rn k d):=by
  intro v x hx h;exact VY (h.mono ef (fun _ _ h=>h) (fun _ _ _ h=>h)) hx (aoz rfl) (fun k' bV=>aoy bV)
 refine⟨?_,⟨?_,?_,?_⟩,br.frame,?_,?_,br.defers,br.nt⟩
 ·intro t x hx;simp only[AS.get,vH,ann]at hx;obtain⟨z,hz,rfl⟩:=hx;obtain⟨g1,g2⟩:=hr.slots t z hz;refine⟨g1,?_⟩;show Rep (Im C.ext (sQ k d y s.hp) _ w) _ _ _ _;rw[e2];exact HP _ _ (hfr.2.2.1 t z hz) g2
 ·intro k' z hz;obtain⟨y',hy',rfl⟩:=uv hz;rw[e2]
  have HQ:∃k0,lk s.hp k0=some y'/\(if k'=d then m k else m k')=m k0:=by
   rw[a5]at hy';split at hy'
   ·rename_i he;cases hy';exact⟨k,hk,aoz he⟩
   ·rename_i he;rw[a5]at hy';split at hy'
    ·cases hy'
    ·exact⟨k',hy',aoy he⟩
  obtain⟨k0,j6,HR⟩:=HQ;rw[HR];have hb:=hr.heap.blk k0 y' j6;have dA:=hfr.2.2.2 k0 y' j6;cases y' with
  |row sz es=>exact BlkRep.mono (w:=w) ef (fun _ _ h=>h) (fun _ _ h=>h.elim) rfl (fun _ _=>rfl) hb
  |vec vs=>exact BlkRep.mono (w:=w) ef (fun _ _ h=>h) (fun _ _ h=>h.elim) rfl (fun _ _=>rfl) hb
  |loop=>exact hb.mapLoop _ (fun t x v hx h=>HP v x (fun hn=>dA ⟨t,x,rA hx,hn⟩) h)
  |box cs =>
   simp only[Blk.map];generalize m k0=o at hb;cases hb with
   |box hw hn h1 bA =>
    refine .box hw (by simpa using hn) ?_ ?_
    ·intro j x hx;simp only[anr,ann]at hx;obtain⟨z,hz,rfl⟩:=hx;exact AV.rn_one _ _ _ (h1 j z hz)
    ·intro j u x hu hx;simp only[anr,ann]at hx;obtain⟨z,hz,rfl⟩:=hx;exact HP u z (fun hn=>dA ⟨z,ank hz,hn⟩) (bA j u z hu hz)
 ·intro k1 k2 z1 z2 b g1 g2;obtain⟨y1,uH,_⟩:=uv g1;obtain⟨y2,ri,_⟩:=uv g2;exact br.heap.inj k1 k2 y1 y2 b uH ri
 ·intro k' z b hz hb;obtain⟨y',hy',_⟩:=uv hz;exact br.heap.sep k' y' b hy' hb
 ·intro k' z b hz hb;obtain⟨y',hy',_⟩:=uv hz;exact br.new k' y' b hy' hb
 ·intro k' z rg hz;obtain⟨y',hy',_⟩:=uv hz;exact br.keep k' y' rg hy'
theorem Wk.virt(d sz:Nat)(hd:s.freshB d=true):Wk s ⟨s.sl,(d,some (.row sz []))::s.hp⟩ :=
 fun C m a w hr=>⟨_,hr.virt sz (AS.fresh_of hd)⟩
theorem Sub.nM(a:Option Addr)(d sz:Nat):Sub (.v (.slice a 0 0)) (.ms d sz 0 0):=fun g S m v h=>by cases h;exact .ms0 _ _ _ _
theorem Sub.trans{x y z:AV}(h:Sub x y)(h':Sub y z):Sub x z:=fun g S m v hr=>h' g S m v (h g S m v hr)
theorem aD.keep{x:AV}{H':Hp}(h:∀k z,lk H' k=some z->lk s.hp k=some z):aD s x x H':=by
 intro ext m w v hh hext hx;have ef:=gQ (ext:=ext) (Frame.refl (bj s.hp m) w) (hp':=H') (m':=m) (fun k' z b hz hb=>.inl ⟨k',z,h k' z hz,hb⟩);refine⟨m,⟨?_,?_,?_⟩,fun k z b hz hb=>⟨k,z,h k z hz,hb⟩,fun k z _ hz=>⟨⟨z,h k z hz⟩,rfl⟩,hx.mono ef (fun _ _ h=>h) (fun _ _ _ h=>h)⟩
 ·intro k z hz;exact BlkRep.mono (w:=w) ef (fun _ _ h=>h) (fun _ _ _ h=>h) rfl (fun _ _=>rfl) (hh.blk k z (h k z hz))
 ·intro k k' z z' b h1 h2;exact hh.inj k k' z z' b (h _ _ h1) (h _ _ h2)
 ·intro k z b hz hb;exact hh.sep k z b (h k z hz) hb
theorem aD.sub{x r r':AV}{H':Hp}(h:aD s x r H')(hs:Sub r r'):aD s x r' H':=by
 intro ext m w v hh hext hx;obtain⟨m',h1,h2,h3,h4⟩:=h ext m w v hh hext hx;exact⟨m',h1,h2,h3,hs _ _ _ _ h4⟩
theorem aD.pure{x:AV}:aD s x x []:=.keep (fun k z h=>by cases h)
end Go.Lw
namespace Go.Lw
abbrev B:Nat:=4294967296
def val:List Nat->Nat
  |[]=>0
  |x::l=>x+4294967296*val l
def Ws(l:List Nat):Prop:=∀x∈l,x<4294967296
def nc:Nat->Nat->List Nat
  |0,_=>[]
  |f+1,n=>match n with
    |0=>[]
    |n+1=>((n+1)%4294967296)::nc f ((n+1)/4294967296)
def ofNat(n:Nat):List Nat:=nc (n.log2/32+1) n
def Nz(l:List Nat):Prop:=∀x,l.getLast?=some x->x≠0
theorem vN(a b:List Nat):val (a++b)=val a+4294967296^a.length*val b:=by
 induction a with
 |nil=>simp[val]
 |cons x a ih=>simp only[ak5,val,ih,an0,ajq];grind
theorem cR(l:List Nat)(h:Ws l):val l<4294967296^l.length:=by
 induction l with
 |nil=>simp[val]
 |cons x l ih =>
  have h1:=h x (by simp);have h2:=ih (fun y hy=>h y (by simp[hy]));simp only[val,an0,ajq];omega
theorem Bm(n:Nat):val (als n 0)=0:=by
 induction n with
 |zero=>rfl
 |succ n ih=>simp[List.replicate_succ,val,ih]
theorem afo(f:Nat):nc f 0=[]:=by cases f <;> rfl
theorem DK(f n:Nat)(h:n≠0):nc (f+1) n=(n%4294967296)::nc f (n/4294967296):=by
 cases n with
 |zero=>exact ao5 rfl h
 |succ n=>rfl
theorem ME:∀(f n:Nat),n<4294967296^f->val (nc f n)=n:=by
 intro f
 induction f with
 |zero=>intro n h;simp at h;subst h;rfl
 |succ f ih =>
  intro n h
  by_cases h0:n=0
  ·subst h0;rfl
  ·rw[DK f n h0];simp only[val];rw[ih _ (by rw[ajq]at h;exact Nat.div_lt_of_lt_mul (by rw[ajt];exact h))];omega
theorem Xs:∀(f n:Nat),Ws (nc f n):=by
 intro f
 induction f with
 |zero=>intro n x h;simp[nc]at h
 |succ f ih =>
  intro n
  by_cases h0:n=0
  ·subst h0;intro x h;simp[nc]at h
  ·rw[DK f n h0];intro x h;rcases an9.1 h with rfl |h
   ·omega
   ·exact ih _ x h
theorem XP:∀(f n:Nat),n<4294967296^f->Nz (nc f n):=by
 intro f
 induction f with
 |zero=>intro n h x hx;simp[nc]at hx
 |succ f ih =>
  intro n h
  by_cases h0:n=0
  ·subst h0;intro x hx;simp[nc]at hx
  ·rw[DK f n h0];have hd:n / 4294967296<4294967296 ^ f:=by rw[ajq] at h; exact Nat.div_lt_of_lt_mul (by rw[ajt]; exact h)
   intro x hx
   by_cases h1:n/4294967296=0
   ·rw[h1,afo]at hx;simp at hx;omega
   ·have h2:=ih _ hd x;cases hq:nc f (n/4294967296)with
    |nil =>
     have:=ME f _ hd;rw[hq]at this;simp[val]at this;omega
    |cons y ys =>
     rw[hq]at hx h2;rw[alz]at hx;exact h2 hx
theorem Ji(n:Nat):n<4294967296^(n.log2/32+1):=by
 have h1:n<2^(n.log2+1):=Nat.lt_log2_self;have h2:(4294967296:Nat)=2^32:=by decide
 rw[h2,<- akb];exact an5 h1 (akl (by decide) oz)
theorem cT(n:Nat):val (ofNat n)=n:=ME _ _ (Ji n)
theorem eI(n:Nat):Ws (ofNat n):=Xs _ _
theorem wK(n:Nat):Nz (ofNat n):=XP _ _ (Ji n)
theorem BB{x:Nat}{l:List Nat}(h:Nz (x::l)):Nz l:=by
 intro y hy;cases l with
 |nil=>simp at hy
 |cons z l=>exact h y (by rw[alz];exact hy)
theorem X9:∀(a b:List Nat),Ws a->Ws b->Nz a->Nz b->val a=val b->a=b:=by
 have key:∀(l:List Nat),Nz l->val l=0->l=[]:=by
  intro l
  induction l with
  |nil=>intro _ _;rfl
  |cons x l ih =>
   intro hn hv;simp only[val]at hv;have:=ih (BB hn) oz;subst this;exact ao5 (by omega:x=0) (hn x rfl)
 intro a
 induction a with
 |nil=>intro b _ _ _ hb hv;exact(key b hb hv.symm).symm
 |cons x a ih =>
  intro b ha hb Dg uD hv;cases b with
  |nil=>exact key _ Dg hv
  |cons y b =>
   have h1:=ha x (by simp);have h2:=hb y (by simp);simp only[val]at hv;have:=ih b (fun z hz=>ha z (by simp[hz])) (fun z hz=>hb z (by simp[hz])) (BB Dg) (BB uD) oz;subst this;rw[show x=y by omega]
theorem vW{l:List Nat}(h:Ws l)(hn:Nz l):ofNat (val l)=l :=
 X9 _ _ (eI _) h (wK _) hn (cT _)
theorem M3{l:List Nat}{n:Nat}(h:Ws l)(hn:Nz l)(hv:val l=n):l=ofNat n:=by subst hv;exact(vW h hn).symm
theorem Ym:ofNat 0=[]:=rfl
theorem tL{l:List Nat}(hn:Nz l)(h:l≠[]):0<val l:=by
 rcases akx (val l)with h0 |h0
 ·exfalso
  induction l with
  |nil=>exact h rfl
  |cons x l ih =>
   simp only[val]at h0
   by_cases hl:l=[]
   ·subst hl;exact hn x rfl oz
   ·exact ih (BB hn) hl oz
 ·exact h0
theorem ir{n k:Nat}(h:n<4294967296^k):(ofNat n).length<=k:=by
 have hv:=cT n;rcases anu k (ofNat n).length with hlt |hge
 ·exfalso;have bV:ofNat n≠[]:=by intro e; rw[e] at hlt; simp at hlt
  have z9:ofNat n=(ofNat n).dropLast++[(ofNat n).getLast bV]:=(ak2 bV).symm;have ajg:(ofNat n).getLast bV≠0:=wK n _ (List.getLast?_eq_some_getLast bV)
  have mh:val (ofNat n)=val (ofNat n).dropLast+4294967296^(ofNat n).dropLast.length*(ofNat n).getLast bV:=by
   conv=>lhs;rw[z9]
   rw[vN];simp[val]
  have bK:(ofNat n).dropLast.length=(ofNat n).length-1:=List.length_dropLast;have h1:4294967296^k<=4294967296^(ofNat n).dropLast.length:=akl (by decide) oz;have h2:4294967296^(ofNat n).dropLast.length*1<=4294967296^(ofNat n).dropLast.length*(ofNat n).getLast bV:=ant _ oz;omega
 ·exact hge
theorem Kh{l:List Nat}{i x:Nat}(h:l[i]?=some x):val (l.take (i+1))=val (l.take i)+4294967296^i*x:=by
 have hi:i<l.length:=by
  rcases anu i l.length with h' |h'
  ·exact h'
  ·rw[an2 h']at h;cases h
 rw[List.take_add_one,h,vN];simp[val,an6];rw[aj1 oz]
theorem gX{l:List Nat}{i:Nat}(h:l.length<=i):val (l.take i)=val l:=by rw[an1 h]
variable{P:apb}{N:Nat}{R:Array Oper}{s:AS}{pos:String}{after:Array Edge}
def J6(s:AS)(u:Out):Bool:=u.upd.all fun p=>u.rd.contains p.1||s.freshB p.1
theorem BP{u:Out}(h:J6 s u=true):mU s u:=by
 intro k hk;obtain⟨p,hp,rfl⟩:=al0.1 hk;have:=anx.1 h p hp;simp only[aos]at this;rcases this with h |h
 ·exact .inl (by simpa using h)
 ·exact .inr (AS.fresh_of h)
theorem Y4{f:FuncId}{fn:Func}{c:Code}{rs:List ResultVar}{args:List AV}{r:AV}(hf:P.funcs[f]?=some fn)(hb:fn.body=some c)
  (hn : (fn.name == "runtime.NumGoroutine") = false) (o8 : fn.results = rs.toArray) (hN : fn.ntmps = N)
  (h:cg P N c (qU P rs r []) ⟨qL 0 args,[]⟩):lR P f args r :=
 Pg hf hb hn o8 hN (fun k z h=>by cases h) h
theorem Mj{x r:AV}(h:x=r):aD s (fu [x]) r []:=h▸aD.pure
theorem kX{x r:AV}(h:Sub x r):aD s (fu [x]) r []:=aD.pure.sub h
theorem q6{x y r:AV}(h:AV.tup [x,y]=r):aD s (fu [x,y]) r []:=h▸aD.pure
theorem x7{x y z r:AV}(h:AV.tup [x,y,z]=r):aD s (fu [x,y,z]) r []:=h▸aD.pure
theorem fa{x r:AV}(h:Sub x r):aD s x r []:=aD.pure.sub h
theorem gP{d:Nat}{x y:ao8}{k k':IntKind}{a b c:Int}{S T t:apa}
  (hx:Ev s x (.v (.int k a))) (hy:Ev s y (.v (.int k' b))) (hb:0<=b) (hc:a.fdiv (2^(min b.toNat k.bits))=c) (hN:aks d N=true) :
  Step P N R s ⟨some d,.binOp .shr S x y T,t,pos,after,none⟩ ⟨some (.v (.int k c)),[],aA x++aA y,[]⟩:=hc▸agl hx hy hb hN
theorem jD{d:Nat}{x y:ao8}{k k':IntKind}{a b c:Int}{S T t:apa}
  (hx:Ev s x (.v (.int k a))) (hy:Ev s y (.v (.int k' b))) (hb:0<=b) (hc:k.wrap (a*2^(min b.toNat k.bits))=c) (hN:aks d N=true) :
  Step P N R s ⟨some d,.binOp .shl S x y T,t,pos,after,none⟩ ⟨some (.v (.int k c)),[],aA x++aA y,[]⟩:=hc▸Vp hx hy hb hN
theorem gU{d:Nat}{x y:ao8}{k:IntKind}{a b c:Int}{S T t:apa}
  (hx:Ev s x (.v (.int k a))) (hy:Ev s y (.v (.int k b))) (hb:b≠0) (hc:k.wrap (a.tdiv b)=c) (hN:aks d N=true) :
  Step P N R s ⟨some d,.binOp .quo S x y T,t,pos,after,none⟩ ⟨some (.v (.int k c)),[],aA x++aA y,[]⟩:=hc▸WC hx hy hb hN
theorem Bh{d:Nat}{x y:ao8}{k:IntKind}{a b c:Int}{S T t:apa}
  (hx:Ev s x (.v (.int k a))) (hy:Ev s y (.v (.int k b))) (hb:b≠0) (hc:a.tmod b=c) (hN:aks d N=true) :
  Step P N R s ⟨some d,.binOp .rem S x y T,t,pos,after,none⟩ ⟨some (.v (.int k c)),[],aA x++aA y,[]⟩:=hc▸adk hx hy hb hN
theorem mZ{d:Nat}{op:BinOp}{x y:ao8}{k:IntKind}{a b c:Int}{S T t:apa}
  (hx:Ev s x (.v (.int k a))) (hy:Ev s y (.v (.int k b))) (fO:(match op with | .and | .or | .xor | .andNot=>true |_=>false)=true) (hc:tE op k a b=c) (hN:aks d N=true) :
  Step P N R s ⟨some d,.binOp op S x y T,t,pos,after,none⟩ ⟨some (.v (.int k c)),[],aA x++aA y,[]⟩:=hc▸ae1 hx hy fO hN
theorem eY{x y:ao8}{k sz i:Nat}{es:List AV}{e v:AV}{T t:apa}{ti:TI}
  (hx:Ev s x (.eptr k sz i 0)) (hk:s.blk k=some (.row sz es)) (he:es[i]?=some e) (mi:e.cells.length=sz) (hy:Ev s y v) (hv:v.ok=true) (hnm:v.nm=[]) (hT:aI P T=some ti)
  (bG:ajx v.cells.length ti.size=true) (hs:ajx ti.size sz=true) :
  Step P N R s ⟨none,.store T x y,t,pos,after,none⟩ ⟨none,[(k,some (.row sz (es.set i v)))],aA x++aA y,[k]⟩:=by
 have h1:=anw bG;have h2:=anw hs;refine Mv hx hk he hy hv hnm hT bG (by rw[akp];omega) ?_;unfold over;rw[List.take_zero,nil_append,aoi oz,append_nil]
theorem Sub.int{k:IntKind}{a b:Int}(h:a=b):Sub (.v (.int k a)) (.v (.int k b)):=h▸.refl _
theorem BlkSub.of{x y:Blk}(h:x=y):BlkSub x y:=h▸.refl _
theorem Sub.of{x y:AV}(h:x=y):Sub x y:=h▸.refl _
theorem aB{α:Type}{l:List α}{i:Nat}(h:i<l.length):∃x,l[i]?=some x:=⟨_,ano h⟩
theorem aL{α:Type}{f:α->AV}{l:List α}{i:Nat}{x:α}(h:l[i]?=some x):(l.map f)[i]?=some (f x):=by simp[h]
theorem Tu{c:Code}{Q:Exit->AS->Prop}{t sz:Nat}{es:List AV}(ht:s.get t=some (.lst sz es))(h:es.length<=bb->cg P N c Q s):cg P N c Q s:=by
 refine ad6 (p:=es.length<=bb) ?_ h;intro C m a w hr;obtain⟨_,h2⟩:=hr.slots t _ ht;generalize a.tmps.getD t undef=u at h2;cases h2 with
 |lst0=>exact ans _
 |lst u hb hc hl=>exact hl
theorem l8{x y:Nat}(h:x+y<18446744073709551616):IntKind.u64.wrap (i7 .add (x:Int) (y:Int))=((x+y:Nat):Int):=by
 show IntKind.u64.wrap ((x:Int)+y)=_;rw[IntWalk.u64_in _ oz];simp
theorem C0{x y:Nat}(h:x*y<18446744073709551616):IntKind.u64.wrap (i7 .mul (x:Int) (y:Int))=((x*y:Nat):Int):=by
 show IntKind.u64.wrap ((x:Int)*y)=_;rw[<- Int.natCast_mul,IntWalk.u64_in _ oz]
theorem oA{x y:Nat}(hx:x<18446744073709551616)(hy:y<18446744073709551616) :
  IntKind.u64.wrap (i7 .sub (x:Int) (y:Int))=((if y<=x then x-y else x+18446744073709551616-y:Nat):Int):=by
 show IntKind.u64.wrap ((x:Int)-y)=_;simp only[IntKind.wrap,IntKind.signed,IntKind.bits,amq,if_false,ams];split <;> omega
theorem ff(x:Nat):IntKind.u32.wrap (x:Int)=((x%4294967296:Nat):Int):=by
 simp only[IntKind.wrap,IntKind.signed,IntKind.bits,amq,if_false,ams];omega
theorem u64_in{x:Nat}(h:x<18446744073709551616):IntKind.u64.wrap (x:Int)=(x:Int):=IntWalk.u64_in _ oz
theorem u32_in{x:Nat}(h:x<4294967296):IntKind.u32.wrap (x:Int)=(x:Int):=IntWalk.u32_in _ oz
theorem i64_in{x:Int}(h:-9223372036854775808<=x/\x<=9223372036854775807):IntKind.i64.wrap x=x:=IntWalk.i64_in _ h
theorem jV(x n:Nat)(hn:n<=64):(x:Int).fdiv (2^(min (n:Int).toNat IntKind.u64.bits))=((x/2^n:Nat):Int):=by
 have:min (n:Int).toNat IntKind.u64.bits=n:=by simp[IntKind.bits];omega
 rw[this,al4 _ (Int.le_of_lt (Int.pow_pos (by decide)))];simp
theorem mL{x:Nat}(h:0<x)(hx:x<=bb):IntKind.i64.wrap (i7 .sub (x:Int) 1)=((x-1:Nat):Int):=by
 show IntKind.i64.wrap ((x:Int)-1)=_;unfold bb at hx;rw[IntWalk.i64_in _ oz];omega
theorem K6{x:Nat}(hx:x<=bb):IntKind.i64.wrap (i7 .add (x:Int) 1)=((x+1:Nat):Int):=by
 show IntKind.i64.wrap ((x:Int)+1)=_;unfold bb at hx;rw[IntWalk.i64_in _ oz];omega
theorem aU{x:Nat}(hx:x<=bb:=by unfold bb;omega):IntKind.i64.wrap (i7 .add (x:Int) 1)=((x+1:Nat):Int):=K6 hx
theorem mN{x y:Nat}(hx:x<=bb)(hy:y<=bb):IntKind.i64.wrap (i7 .add (x:Int) (y:Int))=((x+y:Nat):Int):=by
 show IntKind.i64.wrap ((x:Int)+y)=_;unfold bb at hx hy;rw[IntWalk.i64_in _ oz];omega
abbrev aJ:Nat:=1099511627776
def i64(n:Int):AV:=.v (.int .i64 n)
def u32(n:Nat):AV:=.v (.int .u32 n)
def u64(n:Nat):AV:=.v (.int .u64 n)
def bl(b:Bool):AV:=.v (.bool b)
def ws(l:List Nat):AV:=.lst 1 (l.map u32)
def an(m:List Nat)(i:Nat):Nat:=m.getD i 0
theorem cC{m:List Nat}(h:Ws m)(i:Nat):an m i<4294967296:=by
 unfold an;rw[anm];cases hi:m[i]? with
 |none=>simp
 |some x=>exact h x (ank hi)
theorem ni{m:List Nat}{i:Nat}(h:i<m.length):m[i]?=some (an m i):=by
 rw[ano h,an,anm,ano h];rfl
theorem vM{m:List Nat}{i:Nat}(h:m.length<=i):an m i=0:=by
 rw[an,anm,an2 h];rfl
theorem cU{m:List Nat}{i:Nat}(h:i<m.length):(m.map u32)[i]?=some (u32 (an m i)):=aL (ni h)
theorem eD{l:List Nat}{i:Nat}:val (l.take (i+1))=val (l.take i)+4294967296^i*an l i:=by
 rcases anu i l.length with h |h
 ·exact Kh (ni h)
 ·rw[vM h,gX h,gX oz];simp
theorem Ut{c:Code}{Q:Exit->AS->Prop}{α:Type}{f:α->AV}{l:List α}{t sz:Nat}(ht:s.get t=some (.lst sz (l.map f)))(h:l.length<=bb->cg P N c Q s):cg P N c Q s :=
 Tu ht (fun hl=>h (by simpa using hl))
theorem BZ{k sz off len:Nat}{es:List AV}(h:off+len<=es.length):AV.fz k sz es (.ms k sz off len)=.lst sz ((es.drop off).take len):=by
 have h1:Nat.ble (off+len) es.length=true:=akg h;have h2:∀n,ajx n n=true:=fun n=>akj n
 simp only[AV.fz,h1,h2,Bool.and_self]
theorem cz{k sz len:Nat}{es:List AV}(h:len=es.length):AV.fz k sz es (.ms k sz 0 len)=.lst sz es:=by
 subst h;rw[BZ oz,aov,an3]
theorem j4{m:List Nat}{i:Int}{n:Nat}(h:i=n)(hn:n<m.length):(m.map u32)[i.toNat]?=some (u32 (an m n)):=by
 subst h;exact cU hn
theorem lc{α:Type}{f:α->AV}{l:List α}{i:Int}{n:Nat}{x:α}(h:i=n)(hx:l[n]?=some x):(l.map f)[i.toNat]?=some (f x):=by
 subst h;exact aL hx
theorem rV{d:Nat}{x ix:ao8}{kk:IntKind}{i:Int}{k sz off len n:Nat}{T E t:apa}{ti te:TI}
  (hx:Ev s x (.ms k sz off len)) (hi:Ev s ix (.v (.int kk i))) (hT:aI P T=some ti) (hk:ti.k=.slice E) (hE:aI P E=some te) (bG:te.size=sz)
  (h0:i=(n:Int)) (he:n<len) (hN:aks d N=true) :
  Step P N R s ⟨some d,.indexAddr T x ix,t,pos,after,none⟩ ⟨some (.eptr k sz (off+n) 0),[],aA x++aA ix,[]⟩:=by
 subst h0;have:=qY (R:=R) (t:=t) (pos:=pos) (after:=after) hx hi hT hk hE bG oz oz hN
 rwa [aol]at this
theorem Tz{a b:List Nat}{i:Nat}(ha:i<a.length)(hb:i<b.length)(h:an a i=an b i):a[i]=b[i]:=by
 have h1:=ni ha;have h2:=ni hb;rw[ano ha]at h1;rw[ano hb]at h2;rw[Option.some.inj h1,Option.some.inj h2,h]
theorem d5{x y:Int}(h:-9223372036854775808<=x+y/\x+y<=9223372036854775807):IntKind.i64.wrap (i7 .add x y)=x+y:=i64_in h
theorem fc{x y:Int}(h:-9223372036854775808<=x-y/\x-y<=9223372036854775807):IntKind.i64.wrap (i7 .sub x y)=x-y:=i64_in h
theorem Fu{x y:Int}(h:-9223372036854775808<=x*y/\x*y<=9223372036854775807):IntKind.i64.wrap (i7 .mul x y)=x*y:=i64_in h
theorem cG{d:Nat}{x ix:ao8}{kk:IntKind}{i:Int}{k sz len n:Nat}{T E t:apa}{ti te:TI}
  (hx:Ev s x (.ms k sz 0 len)) (hi:Ev s ix (.v (.int kk i))) (hT:aI P T=some ti) (hk:ti.k=.slice E) (hE:aI P E=some te) (bG:te.size=sz)
  (h0:i=(n:Int)) (he:n<len) (hN:aks d N=true) :
  Step P N R s ⟨some d,.indexAddr T x ix,t,pos,after,none⟩ ⟨some (.eptr k sz n 0),[],aA x++aA ix,[]⟩:=by
 have:=rV (R:=R) (t:=t) (pos:=pos) (after:=after) hx hi hT hk hE bG h0 he hN
 rwa [akv]at this
theorem o1{x w:Bool}(h:x=w):(x==w)=true:=by subst h;exact beq_self_eq_true x
theorem o2{c x w:Bool}(hc:c=true)(h:x=w):(c&&x==w)=true:=by subst h;subst hc;simp
theorem o3{c x w:Bool}(h:(c&&x==w)=true):c=true:=by cases c <;> simp_all
mutual
theorem AV.fz_id(k sz:Nat)(es:List AV):∀x:AV,¬x.Names k->x.fz k sz es=x
 | .ms k' sz' off len,h=>by
  have:ajx k' k=false:=by
   cases hb:ajx k' k
   ·rfl
   ·obtain rfl:=anw hb;exact ao5 (AV.Names.ms _ _ _ _) h
  simp only[AV.fz,this,amq]
 | .agg cs,h=>by simp only[AV.fz];rw[AV.fzs_id k sz es cs (fun c hc hn=>h (.agg hc hn))]
 | .tup cs,h=>by simp only[AV.fz];rw[AV.fzs_id k sz es cs (fun c hc hn=>h (.tup hc hn))]
 | .fn f cs,h=>by simp only[AV.fz];rw[AV.fzs_id k sz es cs (fun c hc hn=>h (.fn hc hn))]
 | .cl f cs ds,_=>by simp only[AV.fz]
 | .opt b x,h=>by simp only[AV.fz];rw[AV.fz_id k sz es x (fun hn=>h (.opt hn))]
 | .v x,_=>by simp only[AV.fz]
 | .lst sz l,_=>by simp only[AV.fz]
 | .iptr l,_=>by simp only[AV.fz]
 | .ptr k off,_=>by simp only[AV.fz]
 | .eptr k sz i off,_=>by simp only[AV.fz]
 | .yl k,_=>by simp only[AV.fz]
theorem AV.fzs_id(k sz:Nat)(es:List AV):∀l:List AV,(∀c∈l,¬c.Names k)->AV.fzs k sz es l=l
 |[],_=>by simp only[AV.fzs]
 |x::l,h=>by simp only[AV.fzs];rw[AV.fz_id k sz es x (h x (by simp)),AV.fzs_id k sz es l (fun c hc=>h c (by simp[hc]))]
end
theorem UA{k sz:Nat}{es:List AV}{x:Blk}(h:¬x.Names k):x.map (AV.fz k sz es)=x:=by
 cases x with
 |row=>rfl
 |vec=>rfl
 |box cs =>
  simp only[Blk.map];congr 1;rw[<- AV.fzs_eq];exact AV.fzs_id k sz es cs (fun c hc hn=>h ⟨c,hc,hn⟩)
 |loop d st pe sl =>
  simp only[Blk.map];congr 1
  induction sl with
  |nil=>rfl
  |cons p sl ih =>
   obtain⟨t,x⟩:=p;simp only[m8];rw[ih (fun⟨t',x',h1,h2⟩=>h ⟨t',x',aom _ h1,h2⟩)];cases x with
   |none=>rfl
   |some x=>simp only[AV.fz_id k sz es x (fun hn=>h ⟨t,x,aok ..,hn⟩)]
theorem VT{o:Oper}{d k sz n:Nat}{es:List AV}{rt rd:List Nat}(hd:o.dst=some d)(hn:n=es.length)(HS:d∉rd)(o7:d≠k)
  (h:Step P N R s o ⟨some (.ms d sz 0 n),[(d,some (.row sz es)),(k,none)],rt,rd⟩):Step P N R s o ⟨some (.lst sz es),[(d,none),(k,none)],rt,rd⟩:=by
 refine⟨fun s' aK ee C m a w Q next hC hr hnext=>?_⟩
 have hfr:s'.Fresh d:=by
  rcases ee d (by simp)with h |h
  ·exact ao5 h HS
  ·exact h
 refine h.run s' aK ee C m a w Q next hC hr (fun m' a' w' hr'=>?_);rw[hd]at hr'
 have hk:(s'.app (some d) ⟨some (.ms d sz 0 n),[(d,some (.row sz es)),(k,none)],rt,rd⟩).blk d=some (.row sz es):=by
  simp[AS.blk,AS.app,a5]
 obtain⟨m2,gG⟩:=Wk.freeze hk C m' a' w' hr';refine hnext m2 a' w' ?_;rw[hd];refine gG.congr ?_ ?_
 ·intro t;simp only[AS.get,vH,AS.app,a5];split
  ·subst hn;have e1:ajx d d=true:=akj d;have e2:ajx sz sz=true:=akj sz;have e3:Nat.ble (0+es.length) es.length=true:=akg oz;simp only[anh,AV.fz,e1,e2,e3,Bool.and_self,aov,an3]
  ·cases hx:lk s'.sl t with
   |none=>rfl
   |some x=>simp only[anh];rw[AV.fz_id _ _ _ _ (hfr.2.2.1 t x hx)]
 ·intro k';simp only[AS.blk,rW,AS.app,ak5,nil_append,a5]
  by_cases h1:k'=d
  ·rw[aoz h1,aoz h1]
  ·rw[aoy h1,aoy h1,aoy h1];split
   ·rfl
   ·cases hx:lk s'.hp k' with
    |none=>rfl
    |some x=>simp only[anh];rw[UA (hfr.2.2.2 k' x hx)]
theorem tR{d k sz len:Nat}{es xs:List AV}{x y:ao8}{T E t:apa}{ti te:TI}
  (hx:Ev s x (.ms k sz 0 len)) (hk:s.blk k=some (.row sz es)) (bK:len=es.length) (hy:Ev s y (.lst sz xs)) (hT:aI P T=some ti) (nC:ti.k=.slice E) (hE:aI P E=some te)
  (bG:te.size=sz) (da:(ajx te.zero.length te.size&&aks 0 te.size&&aks 0 te.bytes)=true) (hb:(len+xs.length)*te.bytes<=140737488355328) (o7:ajx d k=false)
  (hN:aks d N=true) :
  Step P N R s ⟨some d,.call ⟨.builtin .append,#[x,y],#[T,T]⟩,t,pos,after,none⟩
   ⟨some (.lst sz (es++xs)),[(d,none),(k,none)],aA x++aA y,[k]⟩ :=
 VT rfl (by rw[aoe,bK]) (by simpa using ake o7) (ake o7) (cZ hx hk bK hy hT nC hE bG da hb o7 hN)
theorem Mb{ρ:ao8->ao9}{d:Option Tmp}{x y:ao8}{T t:apa}{w w':apc}{v:ao9}
  (h:(Builtin.copy_ #[T,T] t #[ρ x,ρ y]).run P w=.ok v w') :
  (execOp ρ ⟨d,.call ⟨.builtin .copy,#[x,y],#[T,T]⟩,t,pos,after,none⟩).run P w=.ok (.value v) w':=by
 simp[execOp,resolve,invoke,builtin,h]
set_option maxHeartbeats 1000000 in
theorem Z9{d k sz len:Nat}{es xs:List AV}{x y:ao8}{T E t:apa}{ti te:TI}
  (hx:Ev s x (.ms k sz 0 len)) (hk:s.blk k=some (.row sz es)) (bK:len=es.length) (hy:Ev s y (.lst sz xs)) (hT:aI P T=some ti) (nC:ti.k=.slice E) (hE:aI P E=some te)
  (bG:te.size=sz) (jb:aks 0 te.size=true) (hb:xs.length<=len) (hN:aks d N=true) :
  Step P N R s ⟨some d,.call ⟨.builtin .copy,#[x,y],#[T,T]⟩,t,pos,after,none⟩
   ⟨some (.v (.int .i64 xs.length)),[(k,some (.row sz (xs++es.drop xs.length)))],aA x++aA y,[k]⟩:=by
 refine Ei rfl ?_;intro s' aK ee C m a w next hC hr hnext;subst bG;subst bK
 rw[aj6]at hN jb;have eV:lk s'.hp k=some (.row te.size es):=(aK.2 k (by simp)).trans hk;have hd:d<C.nt:=by omega
 have iS:=(hx.agree aK (fun _ h=>anz.2 (.inl h))).rep hr;have qu:=(hy.agree aK (fun _ h=>anz.2 (.inr h))).rep hr;obtain⟨dd2,h3,h4,-,hu⟩:=fK hT w;obtain rfl:=lN (h4.trans nC);obtain⟨ll,kI⟩:∃ll,ll=es.length:=⟨_,rfl⟩
 rw[<- kI]at iS
 have QW:∀(w':apc),RelM C ⟨s'.sl,(k,some (.row te.size (xs++es.drop xs.length)))::s'.hp⟩ m a w'->next (a.put (some d) (goInt xs.length)) w':=by
  intro w' hr';refine hnext m _ _ ?_;have:=hr'.put d (.int .i64 xs.length) (some (.v (.int .i64 xs.length))) (fun z hz=>by cases hz;exact⟨an5 hd hr'.nt,.v _⟩);simpa[AS.app,Act.put,goInt]using this
 have QX:∀(b1 a1:Option Addr)(c1 c2 l1:Nat),a.eval x=.slice b1 l1 c1->a.eval y=.slice a1 0 c2->xs=[] ->
   (⟨some d,.call ⟨.builtin .copy,#[x,y],#[T,T]⟩,t,pos,after,none⟩:Oper).upon P a next (fun _ _ _=>False) ((execOp a.eval ⟨some d,.call ⟨.builtin .copy,#[x,y],#[T,T]⟩,t,pos,after,none⟩).run P w):=by
  intro b1 a1 c1 c2 l1 e1 e2 e3;subst e3
  have qw:(Builtin.firstCells te.size 0 (.slice a1 0 c2)).run P w=.ok #[] w:=by
   cases a1 with
   |none=>rfl
   |some a1=>exact run_firstCells_some w _ _ a1 _ _ [] (by simp) (by simp)
  have gH:(Builtin.copy_ #[T,T] t #[.slice b1 l1 c1,.slice a1 0 c2]).run P w=.ok (goInt 0) w:=by
   have e0:Nat.min 0 l1=0:=Nat.zero_min _;cases b1 with
   |none=>simp[Builtin.copy_,h3,jW hE,Builtin.lenOf,e0,qw]
   |some b1=>simp[Builtin.copy_,h3,jW hE,Builtin.lenOf,e0,qw,storeCells]
  rw[Mb (ρ:=a.eval) (by rw[e1,e2];exact gH)];refine QW w ?_;refine RelM.congr (s:=s') (fun t=>rfl) ?_ hr;intro k';simp only[AS.blk,a5];split
  ·subst_vars;rw[eV];rfl
  ·rfl
 rcases KU qu jb with⟨rfl,a1,cap1,mn⟩ |⟨b1,off1,cap1,cs,mn,gI,ef,ail,s6,gK,iG,br⟩
 ·generalize gY:a.eval x=u at iS;cases iS with
  |ms0 a0=>exact QX _ _ _ _ _ gY mn rfl
  |ms hm hc hS=>exact QX _ _ _ _ _ gY mn rfl
 ·obtain⟨aim,ain,t1,f1,qv⟩:=ef;have fA:(cs.extract off1 (off1+xs.length*te.size)).toList.length=xs.length*te.size:=by simp; omega
  have sY:∀(j:Nat) v,(cs.extract off1 (off1+xs.length*te.size)).toList[j]?=some v->w.cell? ((⟨b1,off1,none⟩:Addr).add j)=some v:=by
   intro j v hj;rw[mG,vZ qv];rw[ana,am5]at hj;split at hj
   ·exact hj
   ·cases hj
  have ot:∀u∈(cs.extract off1 (off1+xs.length*te.size)).toList,u.oneCell'=true:=by
   intro u hu;obtain⟨p,hp,rfl⟩:=alx.1 hu;rw[fA]at hp;have hi':p/te.size<xs.length:=by rw[ajz jb];exact hp
   have he:=ano hi';have mi:=gK _ _ he;have nB:p%te.size<te.size:=akz _ jb;have o6:=ano (show p%te.size<(xs[p/te.size]).cells.length by omega);have wX:p/te.size*te.size+p%te.size=p:=by rw[ajt];exact akq _ _
   have qz:cs[off1+p/te.size*te.size+p%te.size]?=some ((cs.extract off1 (off1+xs.length*te.size)).toList[p]'oz):=by
    rw[ajs,wX];simp only[Array.getElem_toList,Array.getElem_extract];exact amz oz
   exact(br _ _ _ _ _ he o6 qz).one (iG _ _ _ _ he o6)
  generalize gY:a.eval x=u at iS;cases iS with
  |ms0 a0=>omega
  | @ms _ _ _ _ _ cap b hm hc hS =>
   subst kI;obtain⟨c,t2,hw,hn,hl,iw,w7,nD⟩:=yG hr.heap eV hm;have HK:xs.length*te.size<=es.length*te.size:=aod _ hb;have qw:=run_firstCells_some (P:=P) w te.size xs.length ⟨b1,off1,none⟩ xs.length cap1 _ fA sY;have dD:=GW (P:=P) (cs.extract off1 (off1+xs.length*te.size)).toList c w 0 0 hw (by rw[fA];omega) ot;simp only[akn]at dD;have ais:Nat.min xs.length es.length=xs.length:=aj1 hb
   have gH:(Builtin.copy_ #[T,T] t #[.slice (some ⟨b,0*te.size,none⟩) es.length cap,.slice (some ⟨b1,off1,none⟩) xs.length cap1]).run P w =
     .ok (goInt xs.length) { w with heap:=w.heap.setIfInBounds b (.cells (over c.toList 0 (cs.extract off1 (off1+xs.length*te.size)).toList).toArray t2 (0,0)) }:=by
    rw[Nat.zero_mul];generalize(cs.extract off1 (off1+xs.length*te.size)).toList=news at qw dD ⊢;simp[Builtin.copy_,h3,jW hE,Builtin.lenOf,ais,qw,dD]
   rw[Mb (ρ:=a.eval) (by rw[gY,mn];exact gH)];refine QW _ ?_
   have co:(over c.toList 0 (cs.extract off1 (off1+xs.length*te.size)).toList).toArray.size=c.size:=by
    simp only[alu];rw[zw _ _ _ (by rw[fA];simp;omega)];simp
   refine hr.write (x':=.row te.size (xs++es.drop xs.length)) eV hm hw co rfl (fun g S hg hS hw'=>?_)
   have z9:∀(i:Nat)(e:AV),(xs++es.drop xs.length)[i]?=some e->(i<xs.length/\xs[i]?=some e)\/(xs.length<=i/\es[i]?=some e):=by
    intro i e he;rcases anu i xs.length with h |h
    ·rw[an8 h]at he;exact .inl ⟨h,he⟩
    ·rw[an7 h,aop,show xs.length+(i-xs.length)=i by omega]at he;exact .inr ⟨h,he⟩
   refine .row hw' ?_ (by simp;omega) ?_ ?_ ?_
   ·rw[co];have:(xs++es.drop xs.length).length=es.length:=by simp; omega
    rw[this];exact hn
   ·intro i e he;rcases z9 i e he with⟨_,h⟩ |⟨_,h⟩
    ·exact gK i e h
    ·exact iw i e h
   ·intro i j e z he hz;rcases z9 i e he with⟨_,h⟩ |⟨_,h⟩
    ·exact iG i j e z h hz
    ·exact w7 i j e z h hz
   ·intro i j e u z he hz hu;refine Rep.mono hg hS ?_ (fun _ _ _ h=>h);rw[alk,m7 _ _ _ (by rw[fA]; simp; omega),aoy oz,fA] at hu;rcases z9 i e he with ⟨hi,h⟩ | ⟨hi,h⟩
    ·have hj:j<te.size:=by
      rw[<- gK i e h];rcases anu j e.cells.length with h |h
      ·exact h
      ·rw[an2 h]at hz;cases hz
     have:=qI (sz:=te.size) hi;rw[aoz oz,ana,am5,aoz oz]at hu;exact br i j e z u h hz (by rw[<- hu];congr 1;omega)
    ·have h9:xs.length*te.size<=i*te.size:=aod _ hi;rw[aoy oz,ana]at hu;exact nD i j e u z h hz hu
theorem Sub.lst{sz:Nat}{es es':List AV}(hn:es.length=es'.length)(h:∀(i:Nat)(e e':AV),es[i]?=some e->es'[i]?=some e'->oi e e'):Sub (.lst sz es) (.lst sz es'):=by
 intro g S m v hv;cases hv with
 |lst0 a cap =>
  have:es'=[]:=alb (by rw[<- hn];rfl);subst this;exact .lst0 _ _ _
 | @lst _ b off cap _ _ cs u hb hc hl hs h1 hu hr =>
  have hg:∀(i:Nat)(e':AV),es'[i]?=some e'->∃e,es[i]?=some e/\oi e e':=by
   intro i e' he';obtain⟨e,he⟩:=l6 hn.symm he';exact⟨e,he,h i e e' he he'⟩
  have:=Rep.lst (g:=g) (S:=S) (m:=m) (b:=b) (off:=off) (cap:=cap) (sz:=sz) (es:=es') u hb oz oz
   (fun i e' he'=>by obtain⟨e,he,hc⟩:=hg i e' he';rw[<- hc.1];exact hs i e he)
   (fun i j e' x' he' hx'=>by
    obtain⟨e,he,hc⟩:=hg i e' he';obtain⟨x,hx⟩:=l6 hc.1.symm hx';exact(hc.2 j x x' hx hx').1)
   (fun i j e' x' he' hx'=>by
    obtain⟨e,he,hc⟩:=hg i e' he';obtain⟨x,hx⟩:=l6 hc.1.symm hx';exact hu i j e x he hx)
   (fun i j e' x' he' hx'=>by
    obtain⟨e,he,hc⟩:=hg i e' he';obtain⟨x,hx⟩:=l6 hc.1.symm hx';exact(hc.2 j x x' hx hx').2 _ _ _ _ (hr i j e x he hx))
  rwa [<- hn]at this
mutual
def AV.fb(k:Nat)(xs:List AV):AV->AV
  | .ptr k' off=>match ajx k' k with
    |true=>.iptr (xs.drop off)
    |false=>.ptr k' off
  | .agg cs=>.agg (AV.fbs k xs cs)
  | .tup cs=>.tup (AV.fbs k xs cs)
  | .fn f cs=>.fn f (AV.fbs k xs cs)
  | .opt b x=>.opt b (AV.fb k xs x)
  | .v x=>.v x
  | .lst sz l=>.lst sz l
  | .iptr l=>.iptr l
  | .ms k sz off len=>.ms k sz off len
  | .eptr k sz i off=>.eptr k sz i off
  | .yl k=>.yl k
  | .cl f cs ds=>.cl f cs ds
def AV.fbs(k:Nat)(xs:List AV):List AV->List AV
  |[]=>[]
  |x::l=>AV.fb k xs x::AV.fbs k xs l
end
theorem AV.fbs_eq(k:Nat)(xs:List AV):∀l,AV.fbs k xs l=l.map (AV.fb k xs)
 |[]=>rfl
 |x::l=>by simp only[AV.fbs,aow,AV.fbs_eq k xs l]
theorem AV.fb_one(k:Nat)(xs:List AV)(x:AV)(h:x.one=true):(x.fb k xs).one=true:=by
 cases x <;> simp only[AV.fb] <;> first |exact h |(split <;> rfl)
theorem Gn{g:Nat->Array ao9->Prop}{S:Nat->Nat->Prop}{k:Nat}{xs:List AV}{m:Nat->Option Nat}{v:ao9}{x:AV}(h:Rep g S m v x)
  (hb:∀b,m k=some b->∃c:Array ao9,g b c/\c.size=xs.length/\(∀(j:Nat)(x:AV),xs[j]?=some x->x.one=true) /\
   ∀(j:Nat)(u:ao9)(x:AV),c[j]?=some u->xs[j]?=some x->Rep g S eQ u x):Rep g S m v (x.fb k xs):=by
 induction h with
 |v x=>exact .v x
 |lst0 a cap sz'=>exact .lst0 a cap sz'
 |lst u hb' hc hl hs h1 hu hr _=>exact .lst u hb' hc hl hs h1 hu hr
 |iptr u hb' h1 hu hr _=>exact .iptr u hb' h1 hu hr
 |ms0 a k' sz' off=>exact .ms0 _ _ _ _
 |ms hm hc hS=>exact .ms hm hc hS
 |eptr h=>exact .eptr h
 |yl h=>exact .yl h
 |opt h h' ih=>exact .opt (fun s9=>ih s9 hb) h'
 |agg hn h1 hr ih =>
  simp only[AV.fb,AV.fbs_eq];refine .agg (by simpa using hn) ?_ ?_
  ·intro j c hc;simp only[anr,ann]at hc;obtain⟨y,hy,rfl⟩:=hc;exact AV.fb_one _ _ _ (h1 j y hy)
  ·intro j u c hu hc;simp only[anr,ann]at hc;obtain⟨y,hy,rfl⟩:=hc;exact ih j u y hu hy hb
 |tup hn hr ih =>
  simp only[AV.fb,AV.fbs_eq];refine .tup (by simpa using hn) ?_;intro j u c hu hc;simp only[anr,ann]at hc;obtain⟨y,hy,rfl⟩:=hc;exact ih j u y hu hy hb
 |fn hn hr ih =>
  simp only[AV.fb,AV.fbs_eq];refine .fn (by simpa using hn) ?_;intro j u c hu hc;simp only[anr,ann]at hc;obtain⟨y,hy,rfl⟩:=hc;exact ih j u y hu hy hb
 |cl hn hr hn' hr' _ _=>exact .cl hn hr hn' hr'
 | @ptr mm k' off b hm =>
  simp only[AV.fb];split
  ·rename_i h1;obtain rfl:=anw h1;obtain⟨c,HO,bG,ho,hr⟩:=hb b hm
   have iT:∀(j:Nat)(x:AV),(xs.drop off)[j]?=some x->∃u,c[off+j]?=some u:=by
    intro j x hx;rw[aop]at hx
    have hi:off+j<xs.length:=by
     rcases anu (off+j) xs.length with h |h
     ·exact h
     ·rw[an2 h]at hx;cases hx
    exact⟨_,amz oz⟩
   refine .iptr (fun j=>c.getD (off+j) undef) HO (fun j x hx=>?_) (fun j x hx=>?_) (fun j x hx=>?_)
   ·rw[aop]at hx;exact ho _ x hx
   ·obtain⟨u,hu⟩:=iT j x hx;rw[anv,hu];rfl
   ·obtain⟨u,hu⟩:=iT j x hx;rw[aop]at hx;rw[anv,hu];exact hr _ u x hu hx
  ·exact .ptr hm
theorem Wk.freezeB{k:Nat}{xs:List AV}(hk:s.blk k=some (.box xs))(hnm:(xs.all fun x=>x.nm.isEmpty)=true):Wk s ⟨m8 (AV.fb k xs) s.sl,jT (AV.fb k xs) k s.hp⟩:=by
 intro C m a w hr;refine⟨m,?_⟩
 have uI:∀k' z,lk ((k,none)::s.hp) k'=some z->lk s.hp k'=some z:=by
  intro k' z hz;rw[a5]at hz;split at hz
  ·cases hz
  ·exact hz
 have br:=hr.fewer uI
 have hb:∀b,m k=some b->∃c:Array ao9,Im C.ext ((k,none)::s.hp) m w b c/\c.size=xs.length/\(∀(j:Nat)(x:AV),xs[j]?=some x->x.one=true) /\
   ∀(j:Nat)(u:ao9)(x:AV),c[j]?=some u->xs[j]?=some x->Rep (Im C.ext ((k,none)::s.hp) m w) (Sz w) eQ u x:=by
  intro b hm;obtain⟨c,t,hw,hn,ho,bA⟩:=Cl hr.heap hk hm;have ef:=gQ (ext:=C.ext) (Frame.refl (bj s.hp m) w) (hp':=(k,none)::s.hp) (m':=m) (fun k' z b' hz hb'=>.inl ⟨k',z,uI k' z hz,hb'⟩);refine⟨c,⟨(hr.heap.sep k _ b hk hm).1,?_,t,(0,0),hw⟩,hn,ho,fun j u x hu hx=>(bA j u x hu hx).mono ef (fun _ _ h=>h) (fun k' _ hn _=>?_)⟩
  ·rintro⟨k',z,hz,hb'⟩;have:=hr.heap.inj k k' _ z b hk (uI k' z hz) hm hb';subst this;rw[a5,aoz rfl]at hz;cases hz
  ·have h9:=anx.1 hnm x (ank hx);have h8:=AV.Names.mem hn;rw[List.isEmpty_iff.1 h9]at h8;cases h8
 have eJ:∀k' z,lk (jT (AV.fb k xs) k s.hp) k'=some z->∃y,lk ((k,none)::s.hp) k'=some y/\z=y.map (AV.fb k xs):=by
  intro k' z hz;rw[rW]at hz;split at hz
  ·cases hz
  ·rename_i bV;simp only[ann]at hz;obtain⟨y,hy,rfl⟩:=hz;exact⟨y,by rw[a5,aoy bV];exact hy,rfl⟩
 have uE:∀k' y,lk ((k,none)::s.hp) k'=some y->lk (jT (AV.fb k xs) k s.hp) k'=some (y.map (AV.fb k xs)):=by
  intro k' y hy;rw[a5]at hy;split at hy
  ·cases hy
  ·rename_i bV;rw[rW,aoy bV,hy];rfl
 have e1:bj (jT (AV.fb k xs) k s.hp) m=bj ((k,none)::s.hp) m:=by
  funext b;apply propext;constructor
  ·rintro⟨k',z,hz,hb⟩;obtain⟨y,hy,_⟩:=eJ k' z hz;exact⟨k',y,hy,hb⟩
  ·rintro⟨k',y,hy,hb⟩;exact⟨k',_,uE k' y hy,hb⟩
 have e2:Im C.ext (jT (AV.fb k xs) k s.hp) m w=Im C.ext ((k,none)::s.hp) m w:=by funext b cs;simp only[Im,e1]
 refine⟨?_,⟨?_,?_,?_⟩,br.frame,?_,?_,br.defers,br.nt⟩
 ·intro t x hx;simp only[AS.get,vH,ann]at hx;obtain⟨y,hy,rfl⟩:=hx;obtain⟨g1,g2⟩:=br.slots t y hy;refine⟨g1,?_⟩;show Rep (Im C.ext (jT (AV.fb k xs) k s.hp) m w) _ _ _ _;rw[e2];exact Gn g2 hb
 ·intro k' z hz;obtain⟨y,hy,rfl⟩:=eJ k' z hz;rw[e2];have:=br.heap.blk k' y hy;cases y with
  |row sz' es'=>exact this
  |vec vs =>
   simp only[Blk.map];generalize m k'=o at this;cases this with
   |vec hw hc h1=>exact .vec hw hc h1
  |loop=>exact this.mapLoop _ (fun _ _ _ _ h=>Gn h hb)
  |box cs =>
   simp only[Blk.map];generalize m k'=o at this;cases this with
   |box hw hn h1 bA =>
    refine .box hw (by simpa using hn) ?_ ?_
    ·intro j x hx;simp only[anr,ann]at hx;obtain⟨y,hy,rfl⟩:=hx;exact AV.fb_one _ _ _ (h1 j y hy)
    ·intro j u x hu hx;simp only[anr,ann]at hx;obtain⟨y,hy,rfl⟩:=hx;exact Gn (bA j u y hu hy) hb
 ·intro k1 k2 z1 z2 b g1 g2;obtain⟨y1,uH,_⟩:=eJ k1 z1 g1;obtain⟨y2,ri,_⟩:=eJ k2 z2 g2;exact br.heap.inj k1 k2 y1 y2 b uH ri
 ·intro k' z b hz hb;obtain⟨y,hy,_⟩:=eJ k' z hz;exact br.heap.sep k' y b hy hb
 ·intro k' z b hz hb;obtain⟨y,hy,_⟩:=eJ k' z hz;exact br.new k' y b hy hb
 ·intro k' z rg hz;obtain⟨y,hy,_⟩:=eJ k' z hz;exact br.keep k' y rg hy
theorem afg{d:Nat}{x:ao8}{u:ao9}{T S t:apa}{ti:TI}{k:IntKind}(hx:Ev s x (.v (.iface T u)))
  (hT:aI P T=some ti) (hk:ti.k=.int k) (hN:aks d N=true) :
  Step P N R s ⟨some d,.typeAssert x S T true,t,pos,after,none⟩ ⟨some (.tup [.v u,.v (.bool true)]),[],aA x,[]⟩ :=
 fp rfl rfl hN fun s' aK C m a w hr=>by
  have h:=(hx.agree aK (fun _ h=>h)).rep hr;generalize hu:a.eval x=y at h;cases h;obtain⟨d2,h3,h4,-,-⟩:=fK hT w;obtain rfl:=NH (h4.trans hk);refine⟨.tuple #[u,.bool true],by simp[execOp,hu,Instr.typeAssert,h3],.tup rfl ?_⟩;intro j v c hv hc
  match j,hv,hc with
  |0,hv,hc=>cases hv;cases hc;exact .v _
  |1,hv,hc=>cases hv;cases hc;exact .v _
end Go.Lw
namespace Go.Lw
theorem SlW.k {sl l:c9} {x y:AV} {t:Nat} (hl:SlW sl l) (h:lk sl t=some y:=by exact rfl)
  (hs:Sub y x:=by first |exact Sub.refl _ |exact Sub.nil _ _ _ |exact Sub.nM _ _ _ |exact Sub.int oz):SlW sl ((t,some x)::l):=.cons h hs hl
open Go.Proofs
abbrev FP(f:FuncId)(a:List AV)(r:AV):Prop:=lR prog f a r
theorem X0:prog.follows .mixedOrders=true:=by kernel_rfl
theorem T3:aI prog 3=some ⟨1,8,[.int .i64 0],.int .i64,[]⟩:=by kernel_rfl
theorem T4:aI prog 4=some ⟨1,1,[.bool false],.bool,[]⟩:=by kernel_rfl
theorem T5:aI prog 5=some ⟨1,1,[.int .u8 0],.int .u8,[]⟩:=by kernel_rfl
theorem T9:aI prog 9=some ⟨1,16,[.string ⟨#[]⟩],.string,[]⟩:=by kernel_rfl
theorem T22:aI prog 22=some ⟨1,24,[.slice none 0 0],.slice 139,[]⟩:=by kernel_rfl
theorem T23:aI prog 23=some ⟨1,24,[.slice none 0 0],.slice 135,[]⟩:=by kernel_rfl
theorem T24:aI prog 24=some ⟨1,24,[.slice none 0 0],.slice 151,[]⟩:=by kernel_rfl
theorem T26:aI prog 26=some ⟨4,88,[.string ⟨#[]⟩,.slice none 0 0,.slice none 0 0,.slice none 0 0],.struct,[(0,1),(1,1),(2,1),(3,1)]⟩:=by kernel_rfl
theorem T27:aI prog 27=some ⟨1,24,[.slice none 0 0],.slice 126,[]⟩:=by kernel_rfl
theorem T29:aI prog 29=some ⟨5,112,[.string ⟨#[]⟩,.slice none 0 0,.slice none 0 0,.slice none 0 0,.slice none 0 0],.struct,[(0,4),(4,1)]⟩:=by kernel_rfl
theorem T33:aI prog 33=some ⟨1,24,[.slice none 0 0],.slice 48,[]⟩:=by kernel_rfl
theorem T35:aI prog 35=some ⟨1,16,[.nilIface],.iface 1,[]⟩:=by kernel_rfl
theorem T38:aI prog 38=some ⟨1,24,[.slice none 0 0],.slice 115,[]⟩:=by kernel_rfl
theorem T41:aI prog 41=some ⟨1,8,[.int .i64 0],.int .i64,[]⟩:=by kernel_rfl
theorem T42:aI prog 42=some ⟨1,24,[.slice none 0 0],.slice 53,[]⟩:=by kernel_rfl
theorem T44:aI prog 44=some ⟨1,24,[.slice none 0 0],.struct,[(0,1)]⟩:=by kernel_rfl
theorem T45:aI prog 45=some ⟨1,24,[.slice none 0 0],.slice 55,[]⟩:=by kernel_rfl
theorem T46:aI prog 46=some ⟨1,24,[.slice none 0 0],.slice 3,[]⟩:=by kernel_rfl
theorem T48:aI prog 48=some ⟨3,72,[.slice none 0 0,.slice none 0 0,.slice none 0 0],.struct,[(0,1),(1,1),(2,1)]⟩:=by kernel_rfl
theorem T52:aI prog 52=some ⟨1,24,[.slice none 0 0],.slice 106,[]⟩:=by kernel_rfl
theorem T53:aI prog 53=some ⟨1,24,[.slice none 0 0],.slice 106,[]⟩:=by kernel_rfl
theorem T55:aI prog 55=some ⟨4,96,[.slice none 0 0,.slice none 0 0,.slice none 0 0,.slice none 0 0],.struct,[(0,1),(1,1),(2,1),(3,1)]⟩:=by kernel_rfl
theorem T104:aI prog 104=some ⟨1,24,[.slice none 0 0],.slice 354,[]⟩:=by kernel_rfl
theorem T106:aI prog 106=some ⟨3,56,[.bool false,.slice none 0 0,.slice none 0 0],.struct,[(0,1),(1,1),(2,1)]⟩:=by kernel_rfl
theorem T115:aI prog 115=some ⟨4,64,[.bool false,.slice none 0 0,.slice none 0 0,.bool false],.struct,[(0,3),(3,1)]⟩:=by kernel_rfl
theorem T117:aI prog 117=some ⟨2,48,[.slice none 0 0,.slice none 0 0],.struct,[(0,1),(1,1)]⟩:=by kernel_rfl
theorem T124:aI prog 124=some ⟨6,112,[.bool false,.slice none 0 0,.slice none 0 0,.bool false,.slice none 0 0,.slice none 0 0],.struct,[(0,3),(3,3)]⟩:=by kernel_rfl
theorem T126:aI prog 126=some ⟨10,176,[.bool false,.slice none 0 0,.slice none 0 0,.bool false,.bool false,.slice none 0 0,.slice none 0 0,.bool false,.slice none 0 0,.slice none 0 0],.struct,[(0,4),(4,6)]⟩:=by kernel_rfl
theorem T130:aI prog 130=some ⟨1,24,[.slice none 0 0],.slice 169,[]⟩:=by kernel_rfl
theorem T135:aI prog 135=some ⟨7,64,[.string ⟨#[]⟩,.int .i64 0,.int .i64 0,.int .i64 0,.int .i64 0,.int .i64 0,.int .i64 0],.struct,[(0,1),(1,1),(2,1),(3,1),(4,1),(5,1),(6,1)]⟩:=by kernel_rfl
theorem T137:aI prog 137=some ⟨1,24,[.slice none 0 0],.slice 141,[]⟩:=by kernel_rfl
theorem T139:aI prog 139=some ⟨2,40,[.string ⟨#[]⟩,.slice none 0 0],.struct,[(0,1),(1,1)]⟩:=by kernel_rfl
theorem T141:aI prog 141=some ⟨7,128,[.string ⟨#[]⟩,.bool false,.slice none 0 0,.slice none 0 0,.bool false,.slice none 0 0,.slice none 0 0],.struct,[(0,1),(1,3),(4,3)]⟩:=by kernel_rfl
theorem T147:aI prog 147=some ⟨1,8,[.nilFunc],.other,[]⟩:=by kernel_rfl
theorem T149:aI prog 149=some ⟨9,176,[.string ⟨#[]⟩,.slice none 0 0,.slice none 0 0,.slice none 0 0,.slice none 0 0,.slice none 0 0,.nilFunc,.bool false,.slice none 0 0],.struct,[(0,4),(4,1),(5,1),(6,1),(7,1),(8,1)]⟩:=by kernel_rfl
theorem T151:aI prog 151=some ⟨2,24,[.string ⟨#[]⟩,.int .i64 0],.struct,[(0,1),(1,1)]⟩:=by kernel_rfl
theorem T169:aI prog 169=some ⟨4,64,[.int .i64 0,.slice none 0 0,.slice none 0 0,.int .i64 0],.struct,[(0,1),(1,1),(2,1),(3,1)]⟩:=by kernel_rfl
theorem T180:aI prog 180=some ⟨2,40,[.slice none 0 0,.nilIface],.struct,[(0,1),(1,1)]⟩:=by kernel_rfl
theorem T182:aI prog 182=some ⟨12,240,[.string ⟨#[]⟩,.slice none 0 0,.slice none 0 0,.slice none 0 0,.int .i64 0,.slice none 0 0,.slice none 0 0,.int .i64 0,.slice none 0 0,.slice none 0 0,.slice none 0 0,.nilIface],.struct,[(0,4),(4,4),(8,3),(11,1)]⟩:=by kernel_rfl
theorem T185:aI prog 185=some ⟨14,272,[.bool false,.slice none 0 0,.slice none 0 0,.bool false,.slice none 0 0,.slice none 0 0,.slice none 0 0,.slice none 0 0,.bool false,.slice none 0 0,.slice none 0 0,.bool false,.slice none 0 0,.slice none 0 0],.struct,[(0,6),(6,2),(8,6)]⟩:=by kernel_rfl
theorem T191:aI prog 191=some ⟨3,72,[.slice none 0 0,.slice none 0 0,.slice none 0 0],.struct,[(0,2),(2,1)]⟩:=by kernel_rfl
theorem T200:aI prog 200=some ⟨19,392,[.bool false,.slice none 0 0,.slice none 0 0,.bool false,.slice none 0 0,.slice none 0 0,.slice none 0 0,.slice none 0 0,.bool false,.slice none 0 0,.slice none 0 0,.bool false,.slice none 0 0,.slice none 0 0,.slice none 0 0,.slice none 0 0,.slice none 0 0,.slice none 0 0,.slice none 0 0],.struct,[(0,6),(6,2),(8,6),(14,1),(15,1),(16,1),(17,2)]⟩:=by kernel_rfl
theorem T239:aI prog 239=some ⟨2,32,[.bool false,.slice none 0 0],.struct,[(0,1),(1,1)]⟩:=by kernel_rfl
theorem T252:aI prog 252=some ⟨1,24,[.slice none 0 0],.slice 257,[]⟩:=by kernel_rfl
theorem T257:aI prog 257=some ⟨3,56,[.slice none 0 0,.slice none 0 0,.int .i64 0],.struct,[(0,1),(1,1),(2,1)]⟩:=by kernel_rfl
theorem T292:aI prog 292=some ⟨2,40,[.slice none 0 0,.nilIface],.struct,[(0,1),(1,1)]⟩:=by kernel_rfl
theorem T301:aI prog 301=some ⟨2,40,[.slice none 0 0,.nilIface],.struct,[(0,1),(1,1)]⟩:=by kernel_rfl
theorem T316:aI prog 316=some ⟨1,8,[.pointer none],.pointer 322,[]⟩:=by kernel_rfl
theorem T320:aI prog 320=some ⟨1,24,[.slice none 0 0],.slice 4,[]⟩:=by kernel_rfl
theorem T322:aI prog 322=some ⟨8,184,[.string ⟨#[]⟩,.slice none 0 0,.slice none 0 0,.slice none 0 0,.slice none 0 0,.slice none 0 0,.slice none 0 0,.slice none 0 0],.struct,[(0,4),(4,1),(5,1),(6,1),(7,1)]⟩:=by kernel_rfl
theorem T352:aI prog 352=some ⟨1,8,[.int .u64 0],.int .u64,[]⟩:=by kernel_rfl
theorem T354:aI prog 354=some ⟨1,4,[.int .u32 0],.int .u32,[]⟩:=by kernel_rfl
theorem T355:aI prog 355=some ⟨1,8,[.int .u64 0],.int .u64,[]⟩:=by kernel_rfl
theorem T387:aI prog 387=some ⟨1,24,[.slice none 0 0],.slice 191,[]⟩:=by kernel_rfl
theorem T390:aI prog 390=some ⟨1,24,[.slice none 0 0],.slice 117,[]⟩:=by kernel_rfl
theorem T429:aI prog 429=some ⟨2,48,[.slice none 0 0,.slice none 0 0],.struct,[(0,1),(1,1)]⟩:=by kernel_rfl
theorem T446:aI prog 446=some ⟨1,8,[.int .i64 0],.int .i64,[]⟩:=by kernel_rfl
theorem T460:aI prog 460=some ⟨1,24,[.slice none 0 0],.slice 124,[]⟩:=by kernel_rfl
theorem T465:aI prog 465=some ⟨1,24,[.slice none 0 0],.slice 185,[]⟩:=by kernel_rfl
theorem T470:aI prog 470=some ⟨1,8,[.int .u64 0],.int .u64,[]⟩:=by kernel_rfl
theorem T476:aI prog 476=some ⟨1,8,[.nilFunc],.other,[]⟩:=by kernel_rfl
theorem nO{k:Nat}{x:Blk}{m:Nat->Option Nat}{b:Nat}:bj [(k,some x)] m b↔m k=some b:=by
 constructor
 ·rintro⟨k',y,hy,hb⟩;rw[a5]at hy;split at hy
  ·rename_i e;rw[<- e]at *;exact hb
  ·cases hy
 ·intro h;exact⟨k,x,by rw[a5,aoz rfl],h⟩
theorem iQ{k k':Nat}{x:Option Blk}{z:Blk}(h:lk [(k,x)] k'=some z):k'=k/\x=some z:=by
 rw[a5]at h;split at h
 ·rename_i e;exact⟨e,h⟩
 ·cases h
theorem nU{ext:Nat->Prop}{k d:Nat}{x y:Blk}{m m2:Nat->Option Nat}{w:apc}(h:m2 d=m k):Im ext [(d,some y)] m2 w=Im ext [(k,some x)] m w:=by
 funext b cs;apply propext;have:bj [(d,some y)] m2 b↔bj [(k,some x)] m b:=by rw[nO,nO,h]
 simp only[Im,this]
theorem wn{ext:Nat->Prop}{k d sz:Nat}{es:List AV}{m m2:Nat->Option Nat}{w:apc}(h:m2 d=m k)(hr:HeapRel ext [(k,some (.row sz es))] m w):HeapRel ext [(d,some (.row sz es))] m2 w:=by
 refine⟨?_,?_,?_⟩
 ·intro k' z hz;obtain⟨rfl,h9⟩:=iQ hz;cases h9;have h1:=hr.blk k _ (by rw[a5,aoz rfl]);rw[nU h (y:=.row sz es) (x:=.row sz es)];exact BlkRep.mono (w:=w) (fun _ _ h=>h) (fun _ _ h=>h) (fun _ _ hn=>hn.elim) h (fun _ _=>rfl) h1
 ·intro k1 k2 z z' b h1 h2 _ _;rw[(iQ h1).1,(iQ h2).1]
 ·intro k' z b hz hb;obtain⟨rfl,h9⟩:=iQ hz;cases h9;exact hr.sep k _ b (by rw[a5,aoz rfl]) (h▸hb)
mutual
def AV.sc:AV->Bool
  | .v _=>true
  | .agg cs=>AV.scs cs
  | .tup cs=>AV.scs cs
  |_=>false
def AV.scs:List AV->Bool
  |[]=>true
  |x::l=>x.sc&&AV.scs l
end
theorem AV.scs_mem:∀{l:List AV}{c:AV},AV.scs l=true->c∈l->c.sc=true
 |x::l,c,h,hc=>by
  simp only[AV.scs,anq]at h;rcases an9.1 hc with rfl |hc
  ·exact h.1
  ·exact AV.scs_mem h.2 hc
theorem FL{g g':Nat->Array ao9->Prop}{S S':Nat->Nat->Prop}{m m':Nat->Option Nat}{v:ao9}{x:AV}(hx:x.sc=true)(h:Rep g S m v x):Rep g' S' m' v x:=by
 induction h with
 |v=>exact .v _
 |agg hn h1 hr ih=>exact .agg hn h1 (fun j u c hu hc=>ih j u c hu hc (AV.scs_mem hx (ank hc)))
 |tup hn hr ih=>exact .tup hn (fun j u c hu hc=>ih j u c hu hc (AV.scs_mem hx (ank hc)))
 |_=>cases hx
def Blk.sc:Blk->Bool
  | .row _ es=>es.all fun e=>e.cells.all AV.sc
  | .box cs=>cs.all AV.sc
  | .loop _ _ _ _=>false
  | .vec _=>true
theorem aec{g g':Nat->Array ao9->Prop}{S S':Nat->Nat->Prop}{m m':Nat->Option Nat}{w:apc}{o:Option Nat}{x:Blk}(hx:x.sc=true)(h:BlkRep g S m w o x):BlkRep g' S' m' w o x:=by
 cases h with
 |none=>exact .none _
 |box hw hn h1 hr =>
  refine .box hw hn h1 (fun j u x hu hc=>FL ?_ (hr j u x hu hc));exact anx.1 hx x (ank hc)
 |row hw hn hl hs h1 hr =>
  refine .row hw hn hl hs h1 (fun i j e u x he hc hu=>FL ?_ (hr i j e u x he hc hu));exact anx.1 (anx.1 hx e (ank he)) x (ank hc)
 |loop=>cases hx
 |vec hw hc h1=>exact .vec hw hc h1
theorem lU{g:Nat->Array ao9->Prop}{S:Nat->Nat->Prop}{m m':Nat->Option Nat}{v:ao9}{x:AV}(hx:x.nm=[])(h:Rep g S m v x):Rep g S m' v x :=
 h.mono (fun _ _ h=>h) (fun _ _ h=>h) (fun k b hk=>by have:=hk.mem;rw[hx]at this;cases this)
theorem Con.rk{P:apb}{f:FuncId}{k sz off len:Nat}{xs es es':List AV}{r:AV}(d:Nat)(iV:(xs.all fun x=>x.nm.isEmpty)=true)(hr:r.nm=[])
  (h:Con P f (.ms k sz off len::xs) [(k,some (.row sz es))] r [(k,some (.row sz es'))]):Con P f (.ms d sz off len::xs) [(d,some (.row sz es))] r [(d,some (.row sz es'))]:=by
 refine⟨h.ok,?_⟩;intro ext m w vs hext cI dG dm
 have h1:=h.ret ext (fun _=>m d) w vs hext (wn (k:=d) rfl cI) (by simpa using dG) (by
  intro j v x hv hx;rw[nU (d:=k) (k:=d) (y:=.row sz es) (x:=.row sz es) (m2:=fun _=>m d) (m:=m) rfl]
  match j,hx with
  |0,hx =>
   cases hx;have h2:=dm 0 v _ hv rfl;cases h2 with
   |ms0 a=>exact .ms0 a _ _ _
   |ms hm hc hS=>exact .ms hm hc hS
  |j+1,hx =>
   have h2:=dm (j+1) v x hv hx;refine lU ?_ h2;have:=anx.1 iV x (ank hx);simpa using this)
 refine Calls.mono h1 ?_;rintro e w' ⟨v,m',rfl,hf,hh,hn,hk,bA⟩
 have ho:bj [(k,some (Blk.row sz es))] (fun _=>m d)=bj [(d,some (Blk.row sz es))] m:=by
  funext b;apply propext;rw[nO,nO]
 refine⟨v,fun _=>m' k,rfl,ho▸hf,wn (k:=k) rfl hh,?_,?_,?_⟩
 ·intro k' x b hx hb;rw[<- ho];exact hn k _ b (by rw[a5,aoz rfl]) hb
 ·intro k' x y hx hy;obtain⟨rfl,_⟩:=iQ hx;exact hk k _ _ (by rw[a5,aoz rfl]) (by rw[a5,aoz rfl])
 ·rw[nU (d:=d) (k:=k) (y:=.row sz es') (x:=.row sz es') (m2:=fun _=>m' k) (m:=m') rfl];exact lU hr bA
theorem Con.borrowF{P:apb}{f:FuncId}{args args':List AV}{H H':Hp}{r:AV}(k sz:Nat)(es:List AV)(hk:lk H k=none)(hk':lk H' k=none)(hl:args'.length=args.length)
  (ta:∀(j:Nat)(x':AV),args'[j]?=some x'->args[j]?=some x'\/args[j]?=some (x'.fz k sz es))
  (hr:r.sc=true) (hH':∀k' x,lk H' k'=some x->x.sc=true) (h:Con P f args H r H') :
  Con P f args' ((k,some (.row sz es))::H) r ((k,some (.row sz es))::H'):=by
 refine⟨h.ok,?_⟩;intro ext m w vs hext cI dG dm
 have lB:∀k' z,lk H k'=some z->lk ((k,some (.row sz es))::H) k'=some z:=by
  intro k' z hz;rw[a5];split
  ·rename_i e;rw[e,hk]at hz;cases hz
  ·exact hz
 have HT:∀b,bj H m b->bj ((k,some (.row sz es))::H) m b:=fun b ⟨k',z,h1,h2⟩=>⟨k',z,lB k' z h1,h2⟩
 have ef:∀b cs,Im ext ((k,some (.row sz es))::H) m w b cs->Im ext H m w b cs:=fun b cs ⟨h1,h2,h3⟩=>⟨h1,fun h'=>h2 (HT b h'),h3⟩
 have ait:HeapRel ext H m w:=by
  refine⟨?_,?_,?_⟩
  ·intro k' z hz;exact BlkRep.mono (w:=w) ef (fun _ _ h=>h) (fun _ _ _ h=>h) rfl (fun _ _=>rfl) (cI.blk k' z (lB k' z hz))
  ·intro k1 k2 z z' b h1 h2;exact cI.inj k1 k2 z z' b (lB _ _ h1) (lB _ _ h2)
  ·intro k' z b hz;exact cI.sep k' z b (lB _ _ hz)
 have eV:lk ((k,some (Blk.row sz es))::H) k=some (.row sz es):=by rw[a5,aoz rfl]
 have qr:=cI.blk k _ eV
 have HU:∀b,m k=some b->¬bj H m b:=by
  rintro b hb ⟨k',z,hz,hb'⟩;have:=cI.inj k k' _ _ b eV (lB _ _ hz) hb hb';subst this;rw[hk]at hz;cases hz
 have h1:=h.ret ext m w vs hext ait (by rw[dG,hl]) (by
  intro j v x hv hx
  have hj:j<args'.length:=by
   rw[hl];rcases anu j args.length with h |h
   ·exact h
   ·rw[an2 h]at hx;cases hx
  have hx':=ano hj;have h2:=dm j v _ hv hx';rcases ta j _ hx' with h3 |h5
  ·rw[hx]at h3;cases h3
   exact h2.mono ef (fun _ _ h=>h) (fun _ _ _ h=>h)
  ·rw[hx]at h5;cases h5
   have h6:=xG (g:=Im ext H m w) (k:=k) (sz:=sz) (es:=es) (h2.mono ef (fun _ _ h=>h) (fun _ _ _ h=>h)) (by
    intro b hb;rw[hb]at qr;cases qr with
    | @row _ _ _ c t hw hn hl hs h1 hr =>
     exact⟨c,⟨(cI.sep k _ b eV hb).1,HU b hb,t,_,hw⟩,hn,hl,hs,h1,fun i j e u x he hx hu=>(hr i j e u x he hx hu).mono ef (fun _ _ h=>h) (fun _ _ _ h=>h)⟩)
   exact h6)
 refine Calls.mono h1 ?_;rintro e w' ⟨v,m',rfl,hf,hh,hn,uF,bA⟩
 have w9:∀k' z,lk ((k,some (Blk.row sz es))::H') k'=some z->(k'=k/\z=.row sz es)\/(k'≠k/\lk H' k'=some z):=by
  intro k' z hz;rw[a5]at hz;split at hz
  ·rename_i e;cases hz;exact .inl ⟨e,rfl⟩
  ·rename_i e;exact .inr ⟨e,hz⟩
 have Aa:Frame (bj ((k,some (.row sz es))::H) m) w w':=⟨hf.os,hf.tape,hf.output,hf.size,hf.sz,fun b h1 h2=>hf.keep b h1 (fun h'=>h2 (HT b h'))⟩
 have ee:∀k' x b,lk ((k,some (Blk.row sz es))::H') k'=some x->(if k'=k then m k else m' k')=some b->bj ((k,some (.row sz es))::H) m b\/w.heap.size<=b:=by
  intro k' x b hx hb;rcases w9 k' x hx with⟨rfl,rfl⟩ |⟨h2,h3⟩
  ·rw[aoz rfl]at hb;exact .inl ⟨k',_,eV,hb⟩
  ·rw[aoy h2]at hb;rcases hn k' x b h3 hb with h4 |h4
   ·exact .inl (HT b h4)
   ·exact .inr h4
 have aiu:=gQ (ext:=ext) Aa (hp':=(k,some (.row sz es))::H') (m':=fun k'=>if k'=k then m k else m' k') ee;refine⟨v,fun k'=>if k'=k then m k else m' k',rfl,Aa,⟨?_,?_,?_⟩,ee,?_,FL hr bA⟩
 ·intro k' z hz;rcases w9 k' z hz with⟨rfl,rfl⟩ |⟨h2,h3⟩
  ·rw[aoz rfl];exact BlkRep.mono aiu (fun b n h=>hf.sz b n h) (fun _ _ hn=>hn.elim) rfl (fun b hb=>hf.keep b (cI.sep k' _ b eV hb).2 (HU b hb)) qr
  ·rw[aoy h2];exact aec (hH' k' z h3) (hh.blk k' z h3)
 ·intro k1 k2 z z' b h1 h2 cw bJ
  have key:∀k' z,k'≠k->lk H' k'=some z->m k=some b->m' k'=some b->False:=by
   intro k' z bV hz hb hb';rcases hn k' z b hz hb' with h4 |h4
   ·exact HU b hb h4
   ·have:=(cI.sep k _ b eV hb).2;omega
  rcases w9 k1 z h1 with⟨rfl,rfl⟩ |⟨h3,h4⟩ <;> rcases w9 k2 z' h2 with⟨h5,rfl⟩ |⟨h5,h6⟩
  ·exact h5.symm
  ·rw[aoz rfl]at cw;rw[aoy h5]at bJ
   exact(key k2 z' h5 h6 cw bJ).elim
  ·rw[aoy h3]at cw;rw[aoz h5]at bJ
   exact(key k1 z h3 h4 bJ cw).elim
  ·rw[aoy h3]at cw;rw[aoy h5]at bJ
   exact hh.inj k1 k2 z z' b h4 h6 cw bJ
 ·intro k' z b hz hb;rcases w9 k' z hz with⟨rfl,rfl⟩ |⟨h2,h3⟩
  ·rw[aoz rfl]at hb;have:=cI.sep k' _ b eV hb;exact⟨this.1,an5 this.2 hf.size⟩
  ·rw[aoy h2]at hb;exact hh.sep k' z b h3 hb
 ·intro k' x y hx hy;rcases w9 k' y hy with⟨rfl,rfl⟩ |⟨h2,h3⟩
  ·exact aoz rfl
  ·have hx':lk H k'=some x:=by rw[a5,aoy h2] at hx; exact hx
   exact(aoy h2).trans (uF k' x y hx' h3)
theorem Wp{k sz off len:Nat}{es:List AV}(h:off+len<=es.length):AV.fz k sz es (.ms k sz off len)=.lst sz ((es.drop off).take len):=by
 have e1:Nat.ble (off+len) es.length=true:=akg h;have e2:∀n,ajx n n=true:=fun n=>akj n
 simp only[AV.fz,e1,e2,Bool.and_self]
theorem Con.borrow{P:apb}{f:FuncId}{args args':List AV}{H H':Hp}{r:AV}(k sz:Nat)(es:List AV)(hk:lk H k=none)(hk':lk H' k=none)(hl:args'.length=args.length)
  (ta:∀(j:Nat)(x':AV),args'[j]?=some x'->args[j]?=some x'\/(∃off len,x'=.ms k sz off len/\off+len<=es.length/\args[j]?=some (.lst sz ((es.drop off).take len))))
  (hr:r.sc=true) (hH':∀k' x,lk H' k'=some x->x.sc=true) (h:Con P f args H r H') :
  Con P f args' ((k,some (.row sz es))::H) r ((k,some (.row sz es))::H') :=
 Con.borrowF k sz es hk hk' hl (fun j x' hj=>by
  rcases ta j x' hj with h |⟨off,len,rfl,h1,h2⟩
  ·exact .inl h
  ·exact .inr (by rw[Wp h1];exact h2)) hr hH' h
theorem Con.freeze{P:apb}{f:FuncId}{args:List AV}{k sz off len:Nat}{es:List AV}(hl:off+len<=es.length)
  (h:Con P f args [] (.ms k sz off len) [(k,some (.row sz es))]):lR P f args (.lst sz ((es.drop off).take len)):=by
 refine⟨h.ok,?_⟩;intro ext m w vs hext cI dG dm;refine Calls.mono (h.ret ext m w vs hext cI dG dm) ?_;rintro e w' ⟨v,m',rfl,hf,hh,hn,uF,bA⟩;have eV:lk [(k,some (Blk.row sz es))] k=some (.row sz es):=by rw[a5,aoz rfl]
 have qr:=hh.blk k _ eV;have ef:∀b cs,Im ext [(k,some (.row sz es))] m' w' b cs->Im ext [] m' w' b cs:=fun b cs ⟨h1,h2,h3⟩=>⟨h1,(fun⟨_,_,h',_⟩=>by cases h'),h3⟩
 refine⟨v,m',rfl,hf,⟨(fun k z h=>by cases h),(fun k k' z z' b h=>by cases h),(fun k z b h=>by cases h)⟩,(fun k x b h=>by cases h),(fun k x y h=>by cases h),?_⟩
 have h6:=xG (g:=Im ext [] m' w') (k:=k) (sz:=sz) (es:=es) (bA.mono ef (fun _ _ h=>h) (fun _ _ _ h=>h)) (by
  intro b hb;rw[hb]at qr;cases qr with
  | @row _ _ _ c t hw hn hl hs h1 hr =>
   exact⟨c,⟨(hh.sep k _ b eV hb).1,(fun⟨_,_,h',_⟩=>by cases h'),t,_,hw⟩,hn,hl,hs,h1,fun i j e u x he hx hu=>(hr i j e u x he hx hu).mono ef (fun _ _ h=>h) (fun _ _ _ h=>h)⟩)
 have h7:AV.fz k sz es (.ms k sz off len)=.lst sz ((es.drop off).take len):=by
  have e1:Nat.ble (off+len) es.length=true:=akg hl;have e2:∀n,ajx n n=true:=fun n=>akj n
  simp only[AV.fz,e1,e2,Bool.and_self]
 rwa [h7]at h6
theorem Con.rekeyR{P:apb}{f:FuncId}{k sz off len off' len':Nat}{xs es es':List AV}(d:Nat)(iV:(xs.all fun x=>x.nm.isEmpty)=true)
  (h:Con P f (.ms k sz off len::xs) [(k,some (.row sz es))] (.ms k sz off' len') [(k,some (.row sz es'))]) :
  Con P f (.ms d sz off len::xs) [(d,some (.row sz es))] (.ms d sz off' len') [(d,some (.row sz es'))]:=by
 refine⟨h.ok,?_⟩;intro ext m w vs hext cI dG dm
 have h1:=h.ret ext (fun _=>m d) w vs hext (wn (k:=d) rfl cI) (by simpa using dG) (by
  intro j v x hv hx;rw[nU (d:=k) (k:=d) (y:=.row sz es) (x:=.row sz es) (m2:=fun _=>m d) (m:=m) rfl]
  match j,hx with
  |0,hx =>
   cases hx;have h2:=dm 0 v _ hv rfl;cases h2 with
   |ms0 a=>exact .ms0 a _ _ _
   |ms hm hc hS=>exact .ms hm hc hS
  |j+1,hx =>
   have h2:=dm (j+1) v x hv hx;refine lU ?_ h2;have:=anx.1 iV x (ank hx);simpa using this)
 refine Calls.mono h1 ?_;rintro e w' ⟨v,m',rfl,hf,hh,hn,hk,bA⟩
 have ho:bj [(k,some (Blk.row sz es))] (fun _=>m d)=bj [(d,some (Blk.row sz es))] m:=by
  funext b;apply propext;rw[nO,nO]
 refine⟨v,fun _=>m' k,rfl,ho▸hf,wn (k:=k) rfl hh,?_,?_,?_⟩
 ·intro k' x b hx hb;rw[<- ho];exact hn k _ b (by rw[a5,aoz rfl]) hb
 ·intro k' x y hx hy;obtain⟨rfl,_⟩:=iQ hx;exact hk k _ _ (by rw[a5,aoz rfl]) (by rw[a5,aoz rfl])
 ·rw[nU (d:=d) (k:=k) (y:=.row sz es') (x:=.row sz es') (m2:=fun _=>m' k) (m:=m') rfl];cases bA with
  |ms0 a=>exact .ms0 a _ _ _
  |ms hm hc hS=>exact .ms hm hc hS
variable{P:apb}{N:Nat}{R:Array Oper}{s:AS}{pos:String}{after:Array Edge}
theorem Step.weaken{o:Oper}{u u':Out}(h:Step P N R s o u)(aK:∀s',jx s s' u'->jx s s' u)(nv:∀s',jx s s' u'->mU s' u)
  (hw:∀s',jx s s' u'->Wk (s'.app o.dst u) (s'.app o.dst u')):Step P N R s o u':=by
 refine⟨fun s' ov _ C m a w Q next hC hr hnext=>?_⟩
 exact h.run s' (aK s' ov) (nv s' ov) C m a w Q next hC hr (fun m' a' w' hr'=>by
  obtain⟨m'',hr''⟩:=hw s' ov C m' a' w' hr';exact hnext m'' a' w' hr'')
theorem so{d f k sz:Nat}{es:List AV}{args:Array ao8}{ts:Array apa}{xs:List AV}{r:AV}{t:apa}
  (eW:Con P f xs [(k,some (.row sz es))] r [(k,some (.row sz es))]) (ha:EvL s args.toList xs) (hk:s.blk k=some (.row sz es)) (ci:l0 s [(k,some (.row sz es))] [(k,some (.row sz es))] r=true) (hN:aks d N=true) :
  Step P N R s ⟨some d,.call ⟨.value (.func f),args,ts⟩,t,pos,after,none⟩ ⟨some r,[],gB args.toList,[k]⟩:=by
 refine Step.weaken (aR (d:=d) eW ha (fun k' z h=>by
  obtain⟨rfl,h9⟩:=iQ h;cases h9;exact hk) ci hN) (fun s' h=>h) (fun s' h k' hk'=>?_) (fun s' h=>?_)
 ·left;simp only[aoc,eA,aow,map_nil,anz,an9,aob,or_false]at hk' ⊢;rcases hk' with h9 |h9 <;> exact h9
 ·intro C m a w hr;refine⟨m,hr.weak (fun t x hx=>⟨x,hx,.refl _⟩) (fun k' x hx=>⟨x,?_,.refl _⟩)⟩;have hb:lk s'.hp k=some (.row sz es):=(h.2 k (alr.2 rfl)).trans hk;show lk ([(k,some (.row sz es))]++eA [(k,some (.row sz es))]++s'.hp) k'=some x;have hx':lk s'.hp k'=some x:=hx;simp only[eA,aow,map_nil,ak5,nil_append,a5]
  by_cases e:k'=k
  ·rw[aoz e];rw[e,hb]at hx';exact hx'
  ·rw[aoy e,aoy e];exact hx'
theorem Con.rekey1{P:apb}{f:FuncId}{k sz off len:Nat}{xs es es':List AV}{y r:AV}(d:Nat)(hy:y.nm=[])(iV:(xs.all fun x=>x.nm.isEmpty)=true)(hr:r.nm=[])
  (h:Con P f (y :: .ms k sz off len::xs) [(k,some (.row sz es))] r [(k,some (.row sz es'))]):Con P f (y :: .ms d sz off len::xs) [(d,some (.row sz es))] r [(d,some (.row sz es'))]:=by
 refine⟨h.ok,?_⟩;intro ext m w vs hext cI dG dm
 have h1:=h.ret ext (fun _=>m d) w vs hext (wn (k:=d) rfl cI) (by simpa using dG) (by
  intro j v x hv hx;rw[nU (d:=k) (k:=d) (y:=.row sz es) (x:=.row sz es) (m2:=fun _=>m d) (m:=m) rfl]
  match j,hx with
  |0,hx =>
   cases hx;exact lU hy (dm 0 v _ hv rfl)
  |1,hx =>
   cases hx;have h2:=dm 1 v _ hv rfl;cases h2 with
   |ms0 a=>exact .ms0 a _ _ _
   |ms hm hc hS=>exact .ms hm hc hS
  |j+2,hx =>
   have h2:=dm (j+2) v x hv hx;refine lU ?_ h2;have:=anx.1 iV x (ank hx);simpa using this)
 refine Calls.mono h1 ?_;rintro e w' ⟨v,m',rfl,hf,hh,hn,hk,bA⟩
 have ho:bj [(k,some (Blk.row sz es))] (fun _=>m d)=bj [(d,some (Blk.row sz es))] m:=by
  funext b;apply propext;rw[nO,nO]
 refine⟨v,fun _=>m' k,rfl,ho▸hf,wn (k:=k) rfl hh,?_,?_,?_⟩
 ·intro k' x b hx hb;rw[<- ho];exact hn k _ b (by rw[a5,aoz rfl]) hb
 ·intro k' x y hx hy;obtain⟨rfl,_⟩:=iQ hx;exact hk k _ _ (by rw[a5,aoz rfl]) (by rw[a5,aoz rfl])
 ·rw[nU (d:=d) (k:=k) (y:=.row sz es') (x:=.row sz es') (m2:=fun _=>m' k) (m:=m') rfl];exact lU hr bA
end Go.Lw
namespace Go.Lw
variable{P:apb}{N:Nat}{Q:Exit->AS->Prop}
inductive TyT where
  |lf
  |nd (l:TyT) (k:Nat) (t:TI) (r:TyT)
def TyT.get:TyT->Nat->Option TI
  | .lf,_=>none
  | .nd l k t r,n=>match ajx n k with
    |true=>some t
    |false=>match aks n k with
      |true=>l.get n
      |false=>r.get n
inductive TyT.Ok(P:apb):TyT->Prop
  |lf:TyT.Ok P .lf
  |nd {l r:TyT} {k:Nat} {t:TI} (hl:TyT.Ok P l) (h:aI P k=some t) (hr:TyT.Ok P r):TyT.Ok P (.nd l k t r)
theorem TyT.Ok.get{T:TyT}(h:T.Ok P){n:Nat}{t:TI}(hg:T.get n=some t):aI P n=some t:=by
 induction h with
 |lf=>cases hg
 |nd _ h _ ihl ihr =>
  unfold TyT.get at hg;split at hg
  ·rename_i hb;rw[anw hb,h];exact hg
  ·split at hg
   ·exact ihl hg
   ·exact ihr hg
structure Tys(P:apb) where
  tab:TyT
  ok:tab.Ok P
  mix:P.follows .mixedOrders=true
def jl(P:apb)[Inhabited (Tys P)](n:Nat):Option TI:=(default:Tys P).tab.get n
theorem iW[Inhabited (Tys P)]{n:Nat}{t:TI}(h:jl P n=some t):aI P n=some t:=(default:Tys P).ok.get h
inductive AllP:List Prop->Prop
  |nil:AllP []
  |cons {p:Prop} {l:List Prop} (h:p) (hl:AllP l):AllP (p::l)
theorem AllP.app{a b:List Prop}(h:AllP (a++b)):AllP a/\AllP b:=by
 induction a with
 |nil=>exact⟨.nil,h⟩
 |cons p a ih =>
  cases h with |cons h hl=>exact⟨.cons h (ih hl).1,(ih hl).2⟩
def AV.optB:AV->Option (Bool×AV)
  | .opt b x=>some (b,x)
  |_=>none
theorem AV.optB_some{x y:AV}{b:Bool}(h:x.optB=some (b,y)):x=.opt b y:=by cases x <;> simp_all[AV.optB]
def fv(g:Bool)(G:Prop)(s:AS):ao8->Option (AV×List Prop)
  | .tmp t=>match s.get t with
    |some x=>match g with
      |true=>match x.optB with
        |some (b,y)=>some (y,[G->b=true])
        |none=>some (x,[])
      |false=>some (x,[])
    |none=>none
  | .const c=>some (.v c,[])
  | .func f=>some (.v (.func (.func f) #[] #[]),[])
  | .global _=>none
theorem fH{g:Bool}{G:Prop}{s:AS}{o:ao8}{x:AV}{ob:List Prop}(h:fv g G s o=some (x,ob))(ho:AllP ob)(hG:G):Ev s o x:=by
 cases o with
 |tmp t =>
  simp only[fv]at h;split at h
  ·rename_i y hy;split at h
   ·split at h
    ·rename_i b z hz;cases h;cases ho with
     |cons h1 _=>exact .opt (by rw[hy,AV.optB_some hz]) (h1 hG)
    ·cases h;exact .tmp hy
   ·cases h;exact .tmp hy
  ·cases h
 |const c=>cases h;exact .const c
 |func f=>cases h;exact .func f
 |global n=>cases h
def rX:List AV->Option (List AV)
  |[]=>some []
  |x::l=>match rX l with
    |some r=>some (x::r)
    |none=>none
theorem wO:∀{l r:List AV},rX l=some r->r=l
 |[],r,h=>by cases h;rfl
 |x::l,r,h=>by
  unfold rX at h;split at h
  ·rename_i r' hr;cases h;rw[wO hr]
  ·cases h
def rJ(g:Bool)(G:Prop)(s:AS):List ao8->Option (List AV×List Prop)
  |[]=>some ([],[])
  |o::os=>match fv g G s o with
    |some (x,a)=>match rJ g G s os with
      |some (xs,b)=>some (x::xs,a++b)
      |none=>none
    |none=>none
theorem vl{g:Bool}{G:Prop}{s:AS}(hG:G):∀{os:List ao8}{xs:List AV}{ob:List Prop},rJ g G s os=some (xs,ob)->AllP ob->EvL s os xs
 |[],xs,ob,h,ho=>by cases h;exact .nil
 |o::os,xs,ob,h,ho=>by
  unfold rJ at h;split at h
  ·rename_i x a h1;split at h
   ·rename_i ys b h2;cases h;exact .cons (fH h1 ho.app.1 hG) (vl hG h2 ho.app.2)
   ·cases h
  ·cases h
def BW(g:Bool)(G:Prop)(s:AS):List (Nat×ao8)->Option (List (Nat×AV)×List Prop)
  |[]=>some ([],[])
  |p::os=>match fv g G s p.2 with
    |some (x,a)=>match BW g G s os with
      |some (xs,b)=>some ((p.1,x)::xs,a++b)
      |none=>none
    |none=>none
theorem Nh{g:Bool}{G:Prop}{s:AS}(hG:G):∀{os:List (Nat×ao8)}{xs:List (Nat×AV)}{ob:List Prop},BW g G s os=some (xs,ob)->AllP ob->EvP s os xs
 |[],xs,ob,h,ho=>by cases h;exact .nil
 |p::os,xs,ob,h,ho=>by
  unfold BW at h;split at h
  ·rename_i x a h1;split at h
   ·rename_i ys b h2;cases h;exact .cons (fH h1 ho.app.1 hG) (Nh hG h2 ho.app.2)
   ·cases h
  ·cases h
structure R1 where
  x:AV
  rt:List Nat
  rd:List Nat
  ob:List Prop
def vk:IntKind->Nat
  | .i8=>0 | .i16=>1 | .i32=>2 | .i64=>3 | .u8=>4 | .u16=>5 | .u32=>6 | .u64=>7
theorem NK{a b:IntKind}(h:ajx (vk a) (vk b)=true):a=b:=by cases a <;> cases b <;> first |rfl |(exact ao5 h (by decide))
def J9:BinOp->Bool
  | .eql | .neq | .lss | .leq | .gtr | .geq=>true
  |_=>false
def yH(ti:TI)(l:List AV):Option AV:=match ti.ag with
  |true=>match rX (l.take ti.size)with
    |some r=>some (.agg r)
    |none=>none
  |false=>match ajx ti.size 1,l with
    |true,x::_=>some x
    |_,_=>none
theorem G4{ti:TI}{l:List AV}{x:AV}(h:yH ti l=some x):(ti.ag||ajx ti.size 1)=true/\x=oR ti.ag (l.take ti.size):=by
 unfold yH at h;split at h
 ·rename_i ha;split at h
  ·rename_i r hr;cases h;rw[ha,wO hr];exact⟨rfl,rfl⟩
  ·cases h
 ·rename_i ha;split at h
  ·rename_i h1;cases h
   rw[ha,anw h1];exact⟨rfl,rfl⟩
  ·cases h
section
variable{s:AS}{R:Array Oper}{d:Nat}{t T:apa}{pos:String}{after:Array Edge}{r:R1}
def zI(ti:TI)(x:ao8)(f:Nat)(ob:List Prop)(y:AV):Option R1:=match ti.k with
  | .struct=>match ti.fs[f]? with
    |some (o,n)=>match aks 0 n with
      |true=>match y with
        | .ptr k off=>some ⟨.ptr k (off+o),aA x,[],ob⟩
        | .eptr k sz i off=>some ⟨.eptr k sz i (off+o),aA x,[],ob⟩
        | .iptr xs=>some ⟨.iptr (xs.drop o),aA x,[],ob⟩
        |_=>none
      |false=>none
    |none=>none
  |_=>none
theorem aht{x:ao8}{y:AV}{f:Nat}{ti:TI}{ob:List Prop}(hx:Ev s x y)(hT:aI P T=some ti)(h:zI ti x f ob y=some r)(hN:aks d N=true) :
  Step P N R s ⟨some d,.fieldAddr T x f,t,pos,after,none⟩ ⟨some r.x,[],r.rt,r.rd⟩:=by
 unfold zI at h;split at h
 ·rename_i hk;split at h
  ·rename_i o n hf;split at h
   ·rename_i hn;split at h
    ·cases h;exact Vv hx hT hk hf hn hN
    ·cases h;exact aan hx hT hk hf hn hN
    ·cases h;exact agc hx hT hk hf hn hN
    ·cases h
   ·cases h
  ·cases h
 ·cases h
theorem UW{x:ao8}{y:AV}{f:Nat}{ti:TI}{ob:List Prop}(h:zI ti x f ob y=some r):r.ob=ob:=by
 unfold zI at h
 repeat' split at h
 all_goals first |(cases h;rfl) |cases h
end
variable[Inhabited (Tys P)]
def ye(P:apb)[Inhabited (Tys P)](s:AS)(ti:TI)(x:ao8)(ob:List Prop):AV->Option R1
  | .ptr k off=>match s.blk k with
    |some (.box cs)=>match Nat.ble (off+ti.size) cs.length with
      |true=>match yH ti (cs.drop off)with
        |some v=>some ⟨v,aA x,[k],ob⟩
        |none=>none
      |false=>none
    |_=>none
  | .iptr xs=>match aks 0 ti.size&&Nat.ble ti.size xs.length with
    |true=>match yH ti xs with
      |some v=>some ⟨v,aA x,[],ob⟩
      |none=>none
    |false=>none
  |_=>none
def JJ:ao9->Prop:=fun v=>v=.nilIface\/∃T u,v=.iface T u
def xH(P:apb)[Inhabited (Tys P)](op:BinOp)(S:apa)(x y:ao8)(ob:List Prop)(vx vy:ao9):Option R1:=match vy with
  | .int k b=>match vx with
    | .int k' a=>match J9 op&&ajx (vk k) (vk k')with
      |true=>some ⟨.v (.bool (aa op a b)),aA x++aA y,[],ob⟩
      |false=>none
    |_=>none
  | .string b=>match vx with
    | .string a=>match op with
      | .eql=>some ⟨.v (.bool (a.toList==b.toList)),aA x++aA y,[],ob⟩
      | .neq=>some ⟨.v (.bool !(a.toList==b.toList)),aA x++aA y,[],ob⟩
      |_=>none
    |_=>none
  | .bool b=>match vx with
    | .bool a=>match jl P S with
      |some ti=>match ti.k with
        | .bool=>match op with
          | .eql=>some ⟨.v (.bool (a==b)),aA x++aA y,[],ob⟩
          | .neq=>some ⟨.v (.bool (a != b)),aA x++aA y,[],ob⟩
          |_=>none
        |_=>none
      |none=>none
    |_=>none
  | .nilIface=>match y with
    | .const _=>match jl P S with
      |some ti=>match ti.k with
        | .iface _=>match op with
          | .eql=>some ⟨.v (.bool (iJ vx)),aA x++[],[],JJ vx::ob⟩
          | .neq=>some ⟨.v (.bool !(iJ vx)),aA x++[],[],JJ vx::ob⟩
          |_=>none
        |_=>none
      |none=>none
    |_=>none
  |_=>none
def yt(P:apb)[Inhabited (Tys P)](x:ao8)(T:apa)(ob:List Prop)(y:AV):Option R1:=match jl P T with
  |some ti=>match ti.k with
    | .slice _=>match y with
      | .ms _ _ _ len=>some ⟨.v (.int .i64 len),aA x,[],ob⟩
      | .v (.slice _ n _)=>some ⟨.v (.int .i64 n),aA x,[],ob⟩
      |_=>none
    | .string=>match y with
      | .v (.string b)=>some ⟨.v (.int .i64 b.size),aA x,[],ob⟩
      |_=>none
    |_=>none
  |none=>none
def OV:TK->Bool
  | .int _ | .struct | .pointer _ | .string=>true
  |_=>false
def BE:Nat->List (Nat×ao8)->Bool
  |_,[]=>true
  |n,p::l=>ajx p.1 n&&BE (n+1) l
theorem LS:∀{l:List (Nat×ao8)}{n:Nat},BE n l=true->l=qW n (l.map (·.2))
 |[],n,_=>rfl
 |(i,o)::l,n,h=>by
  simp only[BE,anq]at h;have h1:=anw h.1;subst h1;simp only[aow,qW];rw[<- LS h.2]
def DY{α:Type}:List α->Bool
  |[]=>true
  |_=>false
theorem Vs{α:Type}{l:List α}(h:DY l=true):l=[]:=by cases l <;> simp_all[DY]
def pG(g:Bool)(G:Prop)(b w:Bool):Prop:=match g with
  |true=>G/\b=w
  |false=>b=w
theorem Ps{g:Bool}{G:Prop}{b w:Bool}(hG:G)(h:b=w):pG g G b w:=by cases g <;> first |exact h |exact⟨hG,h⟩
def Ck(P:apb)[Inhabited (Tys P)](g:Bool)(G:Prop)(s:AS):Op->Option R1
  | .move x=>match fv g G s x with
    |some (v,ob)=>some ⟨v,aA x,[],ob⟩
    |none=>none
  | .assign x=>match fv g G s x with
    |some (v,ob)=>some ⟨v,aA x,[],ob⟩
    |none=>none
  | .load T x=>match fv g G s x with
    |some (v,ob)=>match jl P T with
      |some ti=>ye P s ti x ob v
      |none=>none
    |none=>none
  | .fieldAddr T x f=>match fv g G s x with
    |some (v,ob)=>match jl P T with
      |some ti=>zI ti x f ob v
      |none=>none
    |none=>none
  | .extract x i=>match fv g G s x with
    |some (.tup xs,ob)=>match xs[i]? with
      |some y=>some ⟨y,aA x,[],ob⟩
      |none=>none
    |_=>none
  | .unOp .not _ x=>match fv g G s x with
    |some (.v (.bool b),ob)=>some ⟨.v (.bool !b),aA x,[],ob⟩
    |_=>none
  | .binOp op S x y _=>match fv g G s y with
    |some (.v vy,ob)=>match fv g G s x with
      |some (.v vx,ob')=>xH P op S x y (ob'++ob) vx vy
      |_=>none
    |_=>none
  | .makeInterface T x=>match fv g G s x with
    |some (.v v,ob)=>match jl P T with
      |some ti=>match OV ti.k with
        |true=>some ⟨.v (.iface T v),aA x,[],ob⟩
        |false=>none
      |none=>none
    |_=>none
  | .nilCheck x=>match fv g G s x with
    |some (.ptr k off,ob)=>some ⟨.ptr k off,aA x,[],ob⟩
    |some (.iptr xs,ob)=>some ⟨.iptr xs,aA x,[],ob⟩
    |_=>none
  | .makeFunc (.func f) first caps=>match first.toList with
    |[]=>match rJ g G s caps.toList with
      |some (xs,ob)=>some ⟨.fn f xs,gB caps.toList,[],ob⟩
      |none=>none
    |_=>match caps.toList with
      |[]=>match rJ g G s first.toList with
        |some (xs,ob)=>match xs.all fun x=>x.nm.isEmpty with
          |true=>some ⟨.cl f xs [],gB first.toList,[],ob⟩
          |false=>none
        |none=>none
      |_=>none
  | .build T parts=>match jl P T with
    |some ti=>match ti.k with
      | .struct=>match ti.zero.all Value.oneCell'&&ti.fs.all fun p=>aks 0 p.2 with
        |true=>match BW g G s parts.toList with
          |some (xs,ob)=>match xF (fun i=>ti.fs[i]?) (ti.zero.map .v) xs with
            |some l=>match rX l with
              |some l=>some ⟨.agg l,wH parts.toList,[],ob⟩
              |none=>none
            |none=>none
          |none=>none
        |false=>none
      |_=>none
    |none=>none
  | .buildSlice T n parts=>match n with
    |0=>none
    |n+1=>match jl P T with
      |some ti=>match ti.k with
        | .slice E=>match jl P E with
          |some te=>match rJ g G s (parts.toList.map (·.2))with
            |some (es,ob)=>match BE 0 parts.toList&&te.zero.all Value.oneCell'&&ajx te.zero.length te.size&&(es.all fun e=>ajx e.cells.length te.size&&e.ok) &&
                DY (AV.nms es)&&ajx (n+1) es.length&&Nat.ble ((n+1)*te.size) 16777216&&Nat.ble (n+1) 16777216 with
              |true=>some ⟨.lst te.size es,gB (parts.toList.map (·.2)),[],ob⟩
              |false=>none
            |none=>none
          |none=>none
        |_=>none
      |none=>none
  | .pick c x y=>match fv g G s c with
    |some (.v (.bool b),ob)=>match fv true (pG g G b true) s x with
      |some (.v (.bool bx),ob')=>match fv true (pG g G b false) s y with
        |some (.v (.bool bz),ob'')=>some ⟨.v (.bool (cond b bx bz)),aA c++(aA x++aA y),[],ob++(ob'++ob'')⟩
        |_=>none
      |_=>none
    |_=>none
  | .call ⟨.builtin .len,args,ts⟩=>match args.toList with
    |[x]=>match ts.toList with
      |[T]=>match fv g G s x with
        |some (y,ob)=>yt P x T ob y
        |none=>none
      |_=>none
    |_=>none
  |_=>none
section
variable{g:Bool}{G:Prop}{s:AS}{R:Array Oper}{d:Nat}{t T:apa}{pos:String}{after:Array Edge}{r:R1}
theorem UV{x:ao8}{y:AV}{ti:TI}{ob:List Prop}(hx:Ev s x y)(hT:aI P T=some ti)(h:ye P s ti x ob y=some r)(hN:aks d N=true) :
  Step P N R s ⟨some d,.load T x,t,pos,after,none⟩ ⟨some r.x,[],r.rt,r.rd⟩:=by
 unfold ye at h;split at h
 ·split at h
  ·split at h
   ·split at h
    ·cases h;rename_i hk _ h1 _ v hv;obtain⟨h2,rfl⟩:=G4 hv;exact ag2 hx hk hT h1 h2 hN
    ·cases h
   ·cases h
  ·cases h
 ·split at h
  ·split at h
   ·cases h;rename_i h1 _ v hv;obtain⟨h2,rfl⟩:=G4 hv;exact afs hx hT h1 h2 hN
   ·cases h
  ·cases h
 ·cases h
theorem UI{op:BinOp}{x y:ao8}{vx vy:ao9}{S:apa}{ob:List Prop}(hx:Ev s x (.v vx))(hy:Ev s y (.v vy))(h:xH P op S x y ob vx vy=some r)(ho:AllP r.ob)
  (hN:aks d N=true):Step P N R s ⟨some d,.binOp op S x y T,t,pos,after,none⟩ ⟨some r.x,[],r.rt,r.rd⟩:=by
 unfold xH at h;split at h
 ·split at h
  ·split at h
   ·rename_i hc;cases h
    simp only[anq]at hc;cases NK hc.2;exact ST hx hy (by have:=hc.1;cases op <;> simp_all[J9]) hN
   ·cases h
  ·cases h
 ·split at h
  ·split at h
   ·cases h;exact SD hx hy hN
   ·cases h;exact Vu hx hy hN
   ·cases h
  ·cases h
 ·split at h
  ·split at h
   ·rename_i ti dp;split at h
    ·rename_i hk;split at h
     ·cases h;exact aee hx hy (iW dp) hk hN
     ·cases h;exact ZS hx hy (iW dp) hk hN
     ·cases h
    ·cases h
   ·cases h
  ·cases h
 ·split at h
  ·rename_i c;have hc:c=.nilIface:=by cases hy; rfl
   subst hc;split at h
   ·rename_i ti dp;split at h
    ·rename_i hk;split at h
     ·cases h;cases ho with |cons h1 _=>exact UY hx h1 (iW dp) hk hN
     ·cases h;cases ho with |cons h1 _=>exact ag4 hx h1 (iW dp) hk hN
     ·cases h
    ·cases h
   ·cases h
  ·cases h
 ·cases h
theorem U4{op:BinOp}{x y:ao8}{vx vy:ao9}{S:apa}{ob:List Prop}(h:xH P op S x y ob vx vy=some r)(ho:AllP r.ob):AllP ob:=by
 unfold xH at h
 repeat' split at h
 all_goals first |(cases h;exact ho) |(cases h;cases ho;assumption) |cases h
theorem SZ{x:ao8}{y:AV}{ob:List Prop}(hx:Ev s x y)(h:yt P x T ob y=some r)(hN:aks d N=true) :
  Step P N R s ⟨some d,.call ⟨.builtin .len,#[x],#[T]⟩,t,pos,after,none⟩ ⟨some r.x,[],r.rt,r.rd⟩:=by
 unfold yt at h;split at h
 ·rename_i ti dp;have dp:=iW dp;split at h
  ·rename_i hk;split at h
   ·cases h;exact U6 hx dp hk hN
   ·cases h;exact Yw hx dp hk hN
   ·cases h
  ·rename_i hk;split at h
   ·cases h;exact RZ hx dp hk hN
   ·cases h
  ·cases h
 ·cases h
theorem S9{x:ao8}{y:AV}{ti:TI}{ob:List Prop}(h:ye P s ti x ob y=some r):r.ob=ob:=by
 unfold ye at h
 repeat' split at h
 all_goals first |(cases h;rfl) |cases h
theorem XZ{x:ao8}{y:AV}{ob:List Prop}(h:yt P x T ob y=some r):r.ob=ob:=by
 unfold yt at h
 repeat' split at h
 all_goals first |(cases h;rfl) |cases h
theorem Hw{op:Op}(h:Ck P g G s op=some r)(ho:AllP r.ob)(hG:G)(hN:aks d N=true):Step P N R s ⟨some d,op,t,pos,after,none⟩ ⟨some r.x,[],r.rt,r.rd⟩:=by
 unfold Ck at h;split at h
 ·split at h
  ·rename_i h1;cases h;exact acn (fH h1 ho hG) hN
  ·cases h
 ·split at h
  ·rename_i h1;cases h;exact SJ (fH h1 ho hG) hN
  ·cases h
 ·split at h
  ·rename_i h1;split at h
   ·rename_i ti dp;rw[S9 h]at ho;exact UV (fH h1 ho hG) (iW dp) h hN
   ·cases h
  ·cases h
 ·split at h
  ·rename_i h1;split at h
   ·rename_i ti dp;rw[UW h]at ho;exact aht (fH h1 ho hG) (iW dp) h hN
   ·cases h
  ·cases h
 ·split at h
  ·rename_i h1;split at h
   ·rename_i hy;cases h;exact Xt (fH h1 ho hG) hy hN
   ·cases h
  ·cases h
 ·split at h
  ·rename_i h1;cases h;exact XG (fH h1 ho hG) hN
  ·cases h
 ·split at h
  ·rename_i h1;split at h
   ·rename_i h2;have:=(U4 h ho).app;exact UI (fH h2 this.1 hG) (fH h1 this.2 hG) h ho hN
   ·cases h
  ·cases h
 ·split at h
  ·rename_i h1;split at h
   ·rename_i ti dp;split at h
    ·rename_i hk;cases h
     exact TB (fH h1 ho hG) hN (iW dp) (by
      generalize ti.k=k at hk;cases k <;> simp_all[OV])
    ·cases h
   ·cases h
  ·cases h
 ·split at h
  ·rename_i h1;cases h;exact Sy (fH h1 ho hG) hN
  ·rename_i h1;cases h;exact UC (fH h1 ho hG) hN
  ·cases h
 ·rename_i f first caps
  split at h
  ·rename_i hf;have:first=#[]:=by apply am1.1; simpa using hf
   subst this;split at h
   ·rename_i h1;cases h;exact ahp (vl hG h1 ho) hN
   ·cases h
  ·split at h
   ·rename_i hf;have:caps=#[]:=by apply am1.1; simpa using hf
    subst this;split at h
    ·rename_i h1;split at h
     ·rename_i h2;cases h;exact Uv (vl hG h1 ho) h2 hN
     ·cases h
    ·cases h
   ·cases h
 ·split at h
  ·rename_i ti dp;split at h
   ·rename_i hk;split at h
    ·rename_i hz;simp only[anq]at hz;split at h
     ·rename_i h1;split at h
      ·rename_i hl;split at h
       ·rename_i hr;cases h;exact Vx (Nh hG h1 ho) (iW dp) hk hz.1 hz.2 (by rw[hl,wO hr]) hN
       ·cases h
      ·cases h
     ·cases h
    ·cases h
   ·cases h
  ·cases h
 ·rename_i T n parts;split at h
  ·cases h
  ·rename_i n;split at h
   ·rename_i ti dp;split at h
    ·rename_i E hk;split at h
     ·rename_i te hte;split at h
      ·rename_i es ob h1;split at h
       ·rename_i hc;cases h;simp only[anq]at hc;obtain⟨⟨⟨⟨⟨⟨⟨c1,c2⟩,c3⟩,c4⟩,c5⟩,c6⟩,c7⟩,c8⟩:=hc;exact Xw (by rw[<- LS c1]) (vl hG h1 ho) (iW dp) hk (iW hte) c2 c3 (by simpa only[anq]using c4) (Vs c5) (anw c6) c7 c8 hN
       ·cases h
      ·cases h
     ·cases h
    ·cases h
   ·cases h
 ·split at h
  ·rename_i h1;split at h
   ·rename_i h2;split at h
    ·rename_i h3;cases h;have hp:=ho.app;have hq:=hp.2.app;exact R3 (fH h1 hp.1 hG) (fun hb=>fH h2 hq.1 (Ps hG hb)) (fun hb=>fH h3 hq.2 (Ps hG hb)) hN
    ·cases h
   ·cases h
  ·cases h
 ·rename_i args ts;split at h
  ·rename_i x hx;split at h
   ·rename_i T hT;have e1:args=#[x]:=by apply am1.1; simpa using hx
    have e2:ts=#[T]:=by apply am1.1;simpa using hT
    subst e1;subst e2
    split at h
    ·rename_i h1;rw[XZ h]at ho;exact SZ (fH h1 ho hG) h hN
    ·cases h
   ·cases h
  ·cases h
 ·cases h
end
end Go.Lw
namespace Go.Lw
variable{P:apb}{N:Nat}{R:Array Oper}{s:AS}{pos:String}{after:Array Edge}{Q:Exit->AS->Prop}
theorem Tr{ρ:ao8->ao9}{o:Oper}{g:ao8}{l:Nat}{args:Array ao8}{ts:Array apa}(ho:o.op=.call ⟨.value g,args,ts⟩)
  (hρ:ρ g=.func (.yield l) #[] #[]):(execOp ρ o).run P=(Instr.yield l (args.map ρ)).run P:=by
 obtain⟨dst,op,type,pos,after,guard⟩:=o;subst ho;funext w;simp[execOp,resolve,hρ,Deferred.ofValue,invoke]
def uY(P:apb)(vs:Array ao9)(w:apc)(R:Ending->apc->Prop):Prop :=
  ∃l f ts x y,vs[0]?=some (.func (.yield l) #[] #[])/\(Instr.yield l (vs.toList.drop 1).toArray).run P w=.ok (.round l f ts x y) w/\∀ro n,RoundIn (Fw ro) n P l f ts x y w R
theorem uY.mono{vs:Array ao9}{w:apc}{R R':Ending->apc->Prop}(h:uY P vs w R)(hr:∀e w',R e w'->R' e w'):uY P vs w R':=by
 obtain⟨l,f,ts,x,y,h1,h2,h3⟩:=h;exact⟨l,f,ts,x,y,h1,h2,fun ro n=>(h3 ro n).mono hr⟩
def Aw(P:apb)(k:Nat)(xs:List AV)(H:Hp)(r:AV)(H':Hp):Prop:=FZ (uY P) (.yl k::xs) H r H'
theorem af8{d:Nat}{g:ao8}{k:Nat}{args:Array ao8}{ts:Array apa}{xs:List AV}{H H':Hp}{r:AV}{t:apa}
  (hg:Ev s g (.yl k)) (eW:Aw P k xs H r H') (ha:EvL s args.toList xs) (hH:∀k z,lk H k=some z->s.blk k=some z) (ci:l0 s H H' r=true) (hN:aks d N=true) :
  Step P N R s ⟨some d,.call ⟨.value g,args,ts⟩,t,pos,after,none⟩ ⟨some r,H'++eA H,aA g++gB args.toList,H.map (·.1)⟩:=by
 refine⟨fun s' aK ee C m a w Q next hC hr hnext=>?_⟩;rw[aoz (qK rfl _)];intro ro n;have ov:jx s s' ⟨none,[],aA g++gB args.toList,[]⟩:=⟨aK.1,fun k hk=>by cases hk⟩
 have ha':=ha.agree ov (fun _ h=>anz.2 (.inr h));have lE:=(hg.agree ov (fun _ h=>anz.2 (.inl h))).rep hr
 have kG:∃l,a.eval g=.func (.yield l) #[] #[]:=by
  generalize a.eval g=u at lE;cases lE;exact⟨_,rfl⟩
 obtain⟨l,kG⟩:=kG;rw[Tr rfl kG];simp only[l0,anq,anx]at ci;obtain⟨uG,z8⟩:=ci
 have hc:=hr.called (run:=uY P) (fun _ _ _ _ h h'=>uY.mono h h') eW (vs:=#[Value.func (.yield l) #[] #[]]++args.map a.eval) (by have:=ha'.length; simp at this ⊢; omega) (by
   intro j v x hv hx;cases j with
   |zero =>
    cases hx;rw[anb,aoz (by show 0<1;omega)]at hv;cases hv;rw[<- kG];exact lE
   |succ j =>
    refine ha'.rep hr j v x ?_ (by simpa using hx);rw[anb,aoy (by show ¬j+1<1;omega)]at hv;have h9:(Array.map a.eval args)[j]?=some v:=hv;simpa using h9)
  (fun k z hz=>by rw[<- hH k z hz];exact aK.2 k (sj hz)) (by
  intro k z hz;rcases ee k (by simp only[aoc,anz];exact .inl (sj hz))with h |h
  ·obtain⟨p,hp,rfl⟩:=al0.1 h;exact .inl (kg.1 (uG p hp))
  ·exact .inr h) (by
  intro k hk;obtain⟨p,hp,rfl⟩:=al0.1 hk;exact uG p hp) z8
 obtain⟨l',f,ts',x,y,h1,h2,h3⟩:=hc
 have hl:l'=l:=by
  rw[anb,aoz (by show 0<1;omega)]at h1;cases h1;rfl
 subst hl;have e1:((#[Value.func (.yield l') #[] #[]]++args.map a.eval).toList.drop 1).toArray=args.map a.eval:=by simp;rw[<- Array.toList_map,Array.toArray_toList]
 rw[e1]at h2;rw[h2];refine⟨(fun h=>by cases h),(h3 ro (n-1)).mono ?_⟩;rintro e w' ⟨v,m'',rfl,hr',bA,_⟩;rw[aj6]at hN;have:=hr'.put d v (some r) (fun z hz=>by cases hz;exact⟨by have:=hr'.nt;omega,bA⟩);exact hnext m'' _ _ (by simpa[AS.app,Act.put]using this)
theorem Wn{d j g:Nat}{op:Op}{t:apa}{want b:Bool}{x:AV}{upd:Hp}{rt rd:List Nat}
  (hj:(R[j]?).bind (·.dst)=some g) (hb:s.get g=some (.v (.bool b))) (hN:aks d N=true)
  (nv:b≠want->∀k∈upd.map (·.1),k∈rd/\lk upd k=s.blk k)
  (h:b=want->Step P N R s ⟨some d,op,t,pos,after,none⟩ ⟨some x,upd,rt,rd⟩) :
  Step P N R s ⟨some d,op,t,pos,after,some (j,want)⟩ ⟨some (.opt (b==want) x),upd,g::rt,rd⟩:=by
 refine⟨fun s' aK ee C m a w Q next hC hr hnext=>?_⟩;have hg:=hr.slots g _ ((aK.1 g (by simp)).trans hb)
 have rh:a.tmps[g]?=some (.bool b):=by
  obtain⟨h1,h2⟩:=hg;generalize hu:a.tmps.getD g undef=u at h2;cases h2;simp only[anv]at hu;rw[amz h1]at hu ⊢;simpa using hu
 have hy:yielded R a.tmps j=some b:=by simp[yielded,hj,rh]
 have hd:d<a.tmps.size:=by rw[aj6]at hN;have:=hr.nt;omega
 by_cases oo:b=want
 ·subst oo;have eU:Region.wanted ⟨some d,op,t,pos,after,some (j,b)⟩ (yielded R a.tmps)=true:=by simp[Region.wanted,hy]
  rw[aoz eU];have:=(h rfl).run s' ⟨fun t ht=>aK.1 t (by simp[show t∈rt from ht]),aK.2⟩ ee C m a w Q next hC hr (fun m' a' w' h'=>hnext m' a' w' ?_)
  ·rw[aoz (qK rfl _)]at this;exact this
  ·refine⟨fun t y hy=>?_,h'.heap,h'.frame,h'.new,h'.keep,h'.defers,h'.nt⟩;simp only[kQ]at hy;split at hy
   ·rename_i lC;cases hy;have:=h'.slots t x (by simp only[kQ,aoz lC]);exact⟨this.1,.opt (fun _=>this.2) (fun h=>by simp at h)⟩
   ·rename_i lC;exact h'.slots t y (by simp only[kQ,aoy lC];exact hy)
 ·have eU:¬ Region.wanted ⟨some d,op,t,pos,after,some (j,want)⟩ (yielded R a.tmps)=true:=by simp[Region.wanted,hy,oo]
  rw[aoy eU];have:=hr.put d undef (some (.opt (b==want) x)) (fun y hy=>by cases hy;exact⟨hd,.opt (fun h=>ao5 (beq_iff_eq.1 h) oo) (fun _=>rfl)⟩);refine hnext m _ _ ?_;refine RelM.congr (s:=⟨(d,some (.opt (b==want) x))::s'.sl,s'.hp⟩) (fun t=>rfl) (fun k=>?_) (by simpa[Act.put]using this);simp only[AS.app,AS.blk,sr];split
  ·rename_i hk;obtain⟨h1,h2⟩:=nv oo k hk;rw[h2];exact aK.2 k h1
  ·rfl
theorem RelM.setLoop{C:Ctx}{m:Nat->Option Nat}{a:Act}{w:apc}(h:RelM C s m a w){k l:Nat}{d:LpD}{st:LoopState}{pe:Option Code}{sl:c9}{r:Loop}
  (hk:lk s.hp k=some (.loop d st pe sl)) (hm:m k=some l) (hl:w.heap[l]?=some (.loop r)) (st':LoopState) (pe':Option Code) :
  RelM C ⟨s.sl,(k,some (.loop d st' pe' sl))::s.hp⟩ m a (w.putObj l (.loop { r with state:=st',pending:=pe' })):=by
 have hlt:=(h.heap.sep k _ l hk hm).2;have gj:∀b',b'≠l->(w.putObj l (.loop { r with state:=st',pending:=pe' })).heap[b']?=w.heap[b']?:=fun b' hb=>World.putObj_heap_other hb
 have cO:∀k' y,lk ((k,some (Blk.loop d st' pe' sl))::s.hp) k'=some y->∃z,lk s.hp k'=some z:=by
  intro k' y hy;rw[a5]at hy;split at hy
  ·subst_vars;exact⟨_,hk⟩
  ·exact⟨y,hy⟩
 have hf:Frame (bj s.hp m) w (w.putObj l (.loop { r with state:=st',pending:=pe' })):=by
  refine⟨rfl,rfl,rfl,by simp,?_,?_⟩
  ·rintro b' n ⟨c1,t1,f1,h1,h2⟩;refine⟨c1,t1,f1,?_,h2⟩;rw[gj,h1];rintro rfl;rw[hl]at h1;cases h1
  ·intro b' hb' hn;refine gj b' ?_;rintro rfl;exact hn ⟨k,_,hk,hm⟩
 have bQ:∀k' y b',lk ((k,some (Blk.loop d st' pe' sl))::s.hp) k'=some y->m k'=some b'->bj s.hp m b'\/w.heap.size<=b':=by
  intro k' y b' hy hb';obtain⟨z,hz⟩:=cO k' y hy;exact .inl ⟨k',z,hz,hb'⟩
 refine h.update hf (fun t y k' b' _ _ hb'=>hb') bQ (fun k' y _ hy=>⟨cO k' y hy,rfl⟩) ⟨?_,?_,?_⟩
 ·intro k' y hy
  by_cases e:k'=k
  ·subst e;rw[a5,aoz rfl]at hy;cases hy;have hb:=h.heap.blk k' _ hk;rw[hm]at hb ⊢;cases hb with
   |loop hw h1 h2 h3 h4 h5 hn hr =>
    rw[hl]at hw;cases hw
    exact .loop (World.putObj_heap_same hlt) rfl rfl h3 h4 h5 hn (fun t x hx=>⟨(hr t x hx).1,(hr t x hx).2.mono (gQ hf bQ) hf.sz (fun _ _ _ h=>h)⟩)
  ·rw[a5,aoy e]at hy;refine BlkRep.mono (gQ hf bQ) hf.sz (fun k'' b' _ hb'=>hb') rfl ?_ (h.heap.blk k' y hy);intro b' hb';refine gj b' ?_;rintro rfl;exact e (h.heap.inj k' k y _ b' hy hk hb' hm)
 ·intro k1 k2 y1 y2 b' h1 h2 cw bJ;obtain⟨z1,jb⟩:=cO k1 y1 h1;obtain⟨z2,kF⟩:=cO k2 y2 h2;exact h.heap.inj k1 k2 z1 z2 b' jb kF cw bJ
 ·intro k' y b' hy hb';obtain⟨z,hz⟩:=cO k' y hy;have:=h.heap.sep k' z b' hz hb';exact⟨this.1,an5 this.2 hf.size⟩
def zE:List Tmp->List AV->c9->c9
  |p::ps,x::xs,sl=>zE ps xs ((p,some x)::sl)
  |_,_,sl=>sl
theorem RelM.params{C:Ctx}{m:Nat->Option Nat}{w:apc}{hp:Hp}:∀(ps:List Tmp)(xs:List AV)(vs:List ao9)(sl:c9)(a:Act),RelM C ⟨sl,hp⟩ m a w->vs.length=xs.length->(∀p∈ps,p<C.nt) ->
  (∀(j:Nat) v x,vs[j]?=some v->xs[j]?=some x->Rep (Im C.ext hp m w) (Sz w) m v x) ->
  RelM C ⟨zE ps xs sl,hp⟩ m { a with tmps:=(ps.zip vs).foldl (fun t (p,v)=>t.setIfInBounds p v) a.tmps } w
 |[],_,_,sl,a,h,_,_,_=>by simpa[zE]using h
 |p::ps,[],[],sl,a,h,_,_,_=>by simpa[zE]using h
 |p::ps,x::xs,v::vs,sl,a,h,hl,hp,hr=>by
  have h1:=h.put p v (some x) (fun y hy=>by cases hy;exact⟨an5 (hp p (by simp)) h.nt,hr 0 v x rfl rfl⟩);exact RelM.params ps xs vs _ _ h1 (by simpa using hl) (fun q hq=>hp q (by simp[hq])) (fun j v' x' hv hx=>hr (j+1) v' x' hv hx)
def W8(k:Nat)(d:LpD)(r:AV)(H':Hp):Exit->AS->Prop
  | .normal,s=>∃pe sl,lk s.hp k=some (.loop d .busy pe sl)/\aD ⟨s.sl,(k,some (.loop d .ready none sl))::s.hp⟩ (.v (.bool true)) r H'
  | .ret,s=>∃pe sl,lk s.hp k=some (.loop d .busy pe sl)/\aD ⟨s.sl,(k,some (.loop d .done (some .ret) sl))::s.hp⟩ (.v (.bool false)) r H'
  |_,_=>False
def Ui(P:apb)(k:Nat)(d:LpD)(r:AV)(H':Hp)(e:Exit)(s:AS):Prop :=
  e=.normal/\∃pe sl,lk s.hp k=some (.loop d .ready pe sl)/\cg P d.nt d.body (W8 k d r H') ⟨s.sl,(k,some (.loop d .busy pe sl))::s.hp⟩
theorem RelM.loopAt{C:Ctx}{m:Nat->Option Nat}{a:Act}{w:apc}(h:RelM C s m a w){k l:Nat}{d:LpD}{st:LoopState}{pe:Option Code}{sl:c9}
  (hk:lk s.hp k=some (.loop d st pe sl)) (hm:m k=some l):∃r:Loop,w.heap[l]?=some (.loop r)/\r.state=st/\r.pending=pe:=by
 have hb:=h.heap.blk k _ hk;rw[hm]at hb;cases hb with
 |loop hw h1 h2=>exact⟨_,hw,h1,h2⟩
theorem afa{k:Nat}{d:LpD}{xs:List AV}{H:Hp}{r:AV}{H':Hp}{sl:c9}(hH:∀k z,lk H k=some z->1000<=k)(hk:lk H k=some (.loop d .ready none sl))
  (hl:xs.length=d.params.size) (eT:∀p∈d.params.toList,p<d.nt) (h:cg P d.nt d.assign (Ui P k d r H') ⟨zE d.params.toList xs sl,H⟩):Aw P k xs H r H':=by
 intro ext m w vs hext cI dG dm;have hs:vs.size=xs.length+1:=dG;have h0:vs[0]?=some vs[0]:=amz oz;have hy:=dm 0 _ _ h0 rfl;generalize vs[0]=v0 at h0 hy;cases hy with
 | @yl _ _ l hm =>
  have hb:=cI.blk k _ hk;rw[hm]at hb;cases hb with
  | @loop _ r0 _ _ _ _ hw h1 h2 h3 h4 h5 hn hr =>
   have QY:=hH k _ hk
   let C:Ctx:=⟨w,ext,bj H m,m,d.nt,hext,some l⟩
   have nD:RelM C ⟨sl,H⟩ m { tmps:=r0.tmps,defers:=[] } w :=
    ⟨fun t x hx=>hr t x hx,cI,Frame.refl _ _,fun k x b h1 h2=>.inl ⟨k,x,h1,h2⟩,fun _ _ _ _=>rfl,v8.nil _ _,hn⟩
   have ta:((vs.toList.drop 1).toArray).size=r0.params.size:=by rw[h3];simp;omega
   have br:=nD.params d.params.toList xs (vs.toList.drop 1) sl _ (by simp;omega) eT (fun j v x hv hx=>dm (j+1) v x (by simpa[ajw]using hv) (by simpa using hx))
   have e1:(r0.params.zip (vs.toList.drop 1).toArray).foldl (fun tmps (t,a)=>tmps.setIfInBounds t a) r0.tmps=(d.params.toList.zip (vs.toList.drop 1)).foldl (fun t (p,v)=>t.setIfInBounds p v) r0.tmps:=by
    rw[h3,<- Array.foldl_toList,Array.toList_zip]
   refine⟨l,r0.fn,_,r0.assign,r0.body,h0,run_yield hw ta,fun ro n=>roundIn_of_wpIn (F:=Fw ro) trivial ?_⟩;rw[e1,h4,h5];refine wpIn_mono (h C m _ w n rfl br) ?_;rintro e a1 w1 ⟨s1,m1,⟨rfl,pe1,sl1,iy,aiv⟩,HV⟩;have iU:m1 k=some l:=(HV.keep k _ QY iy).trans hm;obtain⟨r1,qv,aiw,aix⟩:=HV.loopAt iy iU;have gG:=HV.setLoop iy iU qv .busy pe1;refine⟨_,run_beginRound qv aiw,?_⟩;have e2:({ r1 with state:=.busy }:Loop)={ r1 with state:=.busy,pending:=pe1 }:=by rw[<- aix]
   rw[e2];refine wpIn_mono (aiv C m1 a1 _ n rfl gG) ?_;rintro e a3 w3 ⟨s3,m3,hq,s7⟩
   have fin:∀(jump:Option Code)(pe:Option Code)(sl3:c9),lk s3.hp k=some (.loop d .busy pe sl3) ->
     aD ⟨s3.sl,(k,some (.loop d (if jump.isNone then .ready else .done) jump sl3))::s3.hp⟩ (.v (.bool jump.isNone)) r H' ->
     ∃v w',(Instr.endRound l jump).run P w3=.ok v w'/\∃v' m',Ending.returned v=.returned v'/\Frame (bj H m) w w'/\HeapRel ext H' m' w' /\
      (∀k x b,lk H' k=some x->m' k=some b->bj H m b\/w.heap.size<=b)/\(∀k x y,lk H k=some x->lk H' k=some y->m' k=m k)/\Rep (Im ext H' m' w') (Sz w') m' v' r:=by
    intro jump pe sl3 qD mg;have QZ:m3 k=some l:=(s7.keep k _ QY qD).trans hm;obtain⟨r3,xa,Q0,Q1⟩:=s7.loopAt qD QZ;have qB:=s7.setLoop qD QZ xa (if jump.isNone then .ready else .done) jump;obtain⟨m'',g3,g4,g5,g6⟩:=mg ext m3 _ _ qB.heap (fun b hb=>qB.ext_lt hb) (.v (.bool jump.isNone));refine⟨_,_,run_endRound jump xa,_,m'',rfl,qB.frame,g3,?_,?_,g6⟩
    ·intro k' z b hk' hb';obtain⟨k2,z2,dF,bJ⟩:=g4 k' z b hk' hb';exact qB.new k2 z2 b dF bJ
    ·intro k' z y hk' hy';obtain⟨⟨y',ri⟩,h8⟩:=g5 k' y (hH k' z hk') hy';rw[h8];exact qB.keep k' y' (hH k' z hk') ri
   cases e with
   |normal =>
    obtain⟨pe,sl3,qD,mg⟩:=hq;exact fin none pe sl3 qD mg
   |ret =>
    obtain⟨pe,sl3,qD,mg⟩:=hq;exact fin (some .ret) pe sl3 qD mg
   |_=>exact hq.elim
theorem Fm{x y:Code}(h:cg P N x (fun e s=>match e with | .normal=>nP P N y Q s |e=>Q e s) s):nP P N (.seq x y) Q s:=by
 intro C m a w n om hN hr;refine wpIn_seq (wpIn_mono (h C m a w n hN hr) ?_);rintro e a' w' ⟨s',m',hq,hr'⟩;cases e with
 |normal=>exact hq C m' a' w' n om hN hr'
 |_=>exact⟨s',m',hq,hr'⟩
theorem XQ{x y:Code}(h:nP P N x (fun e s=>match e with | .normal=>nP P N y Q s |e=>Q e s) s):nP P N (.seq x y) Q s:=by
 intro C m a w n om hN hr;refine wpIn_seq (wpIn_mono (h C m a w n om hN hr) ?_);rintro e a' w' ⟨s',m',hq,hr'⟩;cases e with
 |normal=>exact hq C m' a' w' n om hN hr'
 |_=>exact⟨s',m',hq,hr'⟩
theorem SY{id:Nat}{c:Code}(h:nP P N c (Cr id (Q .normal) Q) s):nP P N (.block id c) Q s:=by
 intro C m a w n om hN hr;refine wpIn_block (wpIn_mono (h C m a w n om hN hr) ?_);rintro e a' w' ⟨s',m',hq,hr'⟩;cases e with
 |exit id' =>
  simp only[Exit.inBlock];simp only[Cr]at hq;split at hq
  ·rename_i hb;rw[aoz (anw hb)];exact⟨s',m',hq,hr'⟩
  ·rename_i hb;rw[aoy (ake hb)];exact⟨s',m',hq,hr'⟩
 |_=>exact⟨s',m',hq,hr'⟩
theorem RelM.mark{C:Ctx}{m:Nat->Option Nat}{a:Act}{w:apc}(hr:RelM C s m a w) :
  RelM C s m { a with defers:=wT w.heap.size::a.defers } { w with heap:=w.heap.push (.deferred (some [])) }:=by
 have hf:=Gy (bj s.hp m) w (.deferred (some []));have bQ:∀k' y b',lk s.hp k'=some y->m k'=some b'->bj s.hp m b'\/w.heap.size<=b':=fun k' y b' h1 h2=>.inl ⟨k',y,h1,h2⟩
 have br:RelM C s m a { w with heap:=w.heap.push (.deferred (some [])) }:=by
  refine hr.update hf (fun t y k' b' _ _ hb'=>hb') bQ (fun k' y _ hy=>⟨⟨y,hy⟩,rfl⟩) ⟨?_,hr.heap.inj,?_⟩
  ·intro k y hk;refine BlkRep.mono (gQ hf bQ) hf.sz (fun _ _ _ h=>h) rfl ?_ (hr.heap.blk k y hk);intro b hb;have:=(hr.heap.sep k y b hk hb).2;show(w.heap.push _)[b]?=_;rw[ang,aoy oz]
  ·intro k y b hk hb;have:=hr.heap.sep k y b hk hb;refine⟨this.1,?_⟩;have:=this.2;simp;omega
 refine⟨br.slots,br.heap,br.frame,br.new,br.keep,?_,br.nt⟩;obtain⟨Ds,e,hn,hD⟩:=hr.defers;have ee:(w.heap.push (.deferred (some [])))[w.heap.size]?=some (Obj.deferred (some [])):=by simp
 refine⟨w.heap.size::Ds,by simp[e],List.nodup_cons.2 ⟨fun hm=>?_,hn⟩,?_⟩
 ·have:=hr.heap.lt (hD _ hm).2;omega
 ·intro D hm;rcases an9.1 hm with rfl |hm
  ·exact⟨hr.frame.size,ee⟩
  ·obtain⟨h1,h2⟩:=hD D hm;refine⟨h1,?_⟩;have:=hr.heap.lt h2;show(w.heap.push _)[D]?=_;rw[ang,aoy oz];exact h2
theorem KS{g:ao8}{ps:Array Tmp}{assign body:Code}{f:FuncId}{caps:List AV}{k:Nat}{H H':Hp}{r:AV}{st:LoopState}{pe:Option Code}{sl0 sl':c9}
  (hg:Ev s g (.fn f caps)) (dB:∀t x,lk sl0 t=some x->s.get t=some x) (Q2:(Fv sl0).contains k=false) (hfr:s.freshB k=true) (eW:Con P f (.yl k::caps) H r H')
  (hH:∀k' z,lk H k'=some z->lk ((k,some (.loop ⟨ps,assign,body,N⟩ .ready none sl0))::s.hp) k'=some z) (ci:l0 s H H' r=true)
  (hkH:kj H k=true) (ee:(H'.all fun p=>kj H p.1)=true) (w8:lk H' k=some (.loop ⟨ps,assign,body,N⟩ st pe sl')) (dD:st≠.busy)
  (wX:pe=none/\Q .normal ⟨s.sl,(k,none)::(H'++eA H++s.hp)⟩\/pe=some .ret/\Q .ret ⟨s.sl,(k,none)::(H'++eA H++s.hp)⟩) :
  nP P N (.rangeFunc g ps assign body) Q s:=by
 intro C m a w n om hN hr;rw[om];simp only[l0,anq,anx]at ci ee;obtain⟨uG,z8⟩:=ci;have lE:=hg.rep hr;generalize kG:a.eval g=u at lE;cases lE with
 | @fn _ _ cvs _ hn' bA =>
  refine wpIn_rangeFunc (F:=Fw none) fun fn _=>?_
  have Q3:=AS.fresh_of hfr;have br:=hr.mark
  have hnm:¬(Blk.loop ⟨ps,assign,body,N⟩ .ready none sl0).Names k:=by
   rintro⟨t,x,hx,hn⟩;have h9:k∈Fv sl0:=List.mem_flatMap.2 ⟨_,hx,hn.mem⟩;have h8:=List.elem_eq_true_of_mem h9;rw[List.contains]at Q2;rw[Q2]at h8;cases h8
  have gG:=br.alloc (k:=k) Q3 (.loop { state:=.ready,pending:=none,fn,tmps:=a.tmps,params:=ps,assign,body,defers:=w.heap.size }) (.loop ⟨ps,assign,body,N⟩ .ready none sl0) hnm
   (fun g' S' m' w' h1 h2 h3 h4=>.loop h4 rfl rfl rfl rfl rfl (by have:=hr.nt; rw[hN] at this; exact this) (fun t x hx=>by
    obtain⟨g1,g2⟩:=br.slots t x (dB t x hx);exact⟨g1,g2.mono h1 h2 (fun k' b hk hb=>h3 k' b (fun e=>Q3.2.2.1 t x (dB t x hx) (e▸hk)) hb)⟩))
  have aiy:(w.heap.push (Obj.deferred (some []))).size=w.heap.size+1:=by simp
  have bG:∀k',k'=k->(if k'=k then some (w.heap.push (Obj.deferred (some []))).size else m k')=some (w.heap.size+1):=fun k' e=>by rw[aoz e,aiy]
  have hc:=gG.called (run:=Calls P f) (fun _ _ _ _ h h'=>Calls.mono h h') eW.ret (vs:=#[Value.func (.yield (w.heap.size+1)) #[] #[]]++cvs) (by simp[hn']; omega) (by
    intro j v x hv hx;cases j with
    |zero =>
     cases hx;rw[anb,aoz (by show 0<1;omega)]at hv;cases hv;exact .yl (bG k rfl)
    |succ j =>
     rw[anb,aoy (by show ¬j+1<1;omega)]at hv;have h9:cvs[j]?=some v:=hv;have hx':caps[j]?=some x:=hx;have aiz:({ a with defers:=wT w.heap.size::a.defers }:Act).eval g=.func (.func f) #[] cvs:=by cases g <;> exact kG
     have ai0:jx s ⟨s.sl,(k,some (.loop ⟨ps,assign,body,N⟩ .ready none sl0))::s.hp⟩ ⟨none,[],aA g,[]⟩:=⟨fun _ _=>rfl,fun k hk=>by cases hk⟩
     have h8:=(hg.agree ai0 (fun _ h=>h)).rep gG;rw[aiz]at h8;cases h8 with
     |fn s8 HW=>exact HW j v x h9 hx')
   hH (by
    intro k' z hz;have:=ee _ (rA hz);exact .inl (kg.1 this)) (by
    intro k' hk';obtain⟨p,hp,rfl⟩:=al0.1 hk';exact uG p hp) z8
  let W2:=(w.alloc (.deferred (some []))).alloc (.loop { state:=.ready,pending:=none,fn,tmps:=a.tmps,params:=ps,assign,body,defers:=w.heap.size })
  refine⟨w.heap.size+1,[wT w.heap.size],W2,{ target:=.fn (.func f) cvs,args:=#[.func (.yield (w.heap.size+1)) #[] #[]] },W2,f,
   #[Value.func (.yield (w.heap.size+1)) #[] #[]]++cvs,W2,run_enterLoop_outer fn a.tmps ps assign body,?_,fun _ _=>trivial,?_,(fun h=>by cases h),(callsIn_wide (n:=n-1)).2 (Calls.mono hc ?_)⟩
  ·simp only[resolve,kG];simp[go_sem]
  ·simp[invoke,go_sem,eW.ok _ _]
  ·rintro e w' ⟨v,m'',rfl,s7,_,eV⟩;obtain⟨y,hy⟩:=kg.1 hkH;have hm:m'' k=some (w.heap.size+1):=(eV k y _ hy w8).trans (bG k rfl)
   have Q4:lk (H'++eA H++(k,some (Blk.loop ⟨ps,assign,body,N⟩ .ready none sl0))::s.hp) k=some (.loop ⟨ps,assign,body,N⟩ st pe sl'):=by
    rw[aor,sr,aoz (sj w8)];exact w8
   obtain⟨r3,xa,Q0,Q1⟩:=s7.loopAt Q4 hm
   have qB:=(s7.setLoop Q4 hm xa .exhausted pe).fewer (hp':=(k,none)::(H'++eA H++s.hp)) (by
    intro k' z hz;rw[a5]at hz;split at hz
    ·cases hz
    ·rename_i bV;rw[a5,aoy bV];rw[aor,sr]at hz ⊢;split at hz
     ·rename_i h1;rw[aoz h1];exact hz
     ·rename_i h1;rw[aoy h1]
      rw[sr]at hz ⊢;split at hz
      ·rename_i h2;rw[aoz h2];exact hz
      ·rename_i h2;rw[aoy h2,a5,aoy bV];exact hz)
   have gH:=run_endLoop (P:=P) xa (by rw[Q0];exact dD);rw[Q1]at gH;refine⟨pe,_,gH,?_⟩;rcases wX with⟨rfl,hq⟩ |⟨rfl,hq⟩
   ·exact⟨_,m'',hq,qB⟩
   ·exact wpIn_ret ⟨_,m'',hq,qB⟩
theorem CT{f:FuncId}{caps:List AV}(hnm:(caps.all fun x=>x.nm.isEmpty)=true):Sub (.fn f caps) (.cl f [] caps):=by
 intro g S m v h;cases h with
 |fn hn hr =>
  exact .cl rfl (fun j u c hu hc=>by simp at hc) hn (fun j u c hu hc=>(hr j u c hu hc).mono (fun _ _ h=>h) (fun _ _ h=>h) (fun k b hk=>by
   have h1:=anx.1 hnm c (ank hc);have h2:=hk.mem;simp only[List.isEmpty_iff]at h1;rw[h1]at h2;cases h2))
theorem WM{ρ:ao8->ao9}{o:Oper}{g:ao8}{f:FuncId}{pre caps:Array ao9}{args:Array ao8}{ts:Array apa}{w:apc}{vs:Array ao9}(ho:o.op=.call ⟨.value g,args,ts⟩)
  (hρ:ρ g=.func (.func f) pre caps) (ci:zQ P f) (dG:pre++args.map ρ++caps=vs):(execOp ρ o).run P w=.ok (.enter f vs) w:=by
 subst dG;have:=ci (pre++args.map ρ++caps) w;rw[Array.append_assoc]at this;obtain⟨dst,op,type,pos,after,guard⟩:=o;subst ho;simp[execOp,resolve,hρ,Deferred.ofValue,invoke,this]
theorem Vo{d:Nat}{g:ao8}{f:FuncId}{pre caps:List AV}{args:Array ao8}{ts:Array apa}{xs:List AV}{H H':Hp}{r:AV}{t:apa}
  (hg:Ev s g (.cl f pre caps)) (eW:Con P f (pre++xs++caps) H r H') (ha:EvL s args.toList xs) (hH:∀k z,lk H k=some z->s.blk k=some z) (ci:l0 s H H' r=true) (hN:aks d N=true) :
  Step P N R s ⟨some d,.call ⟨.value g,args,ts⟩,t,pos,after,none⟩ ⟨some r,H'++eA H,aA g++gB args.toList,H.map (·.1)⟩:=by
 refine DW rfl (fun d' h=>by cases h;exact⟨hN,rfl⟩) eW hH ci fun s' aK C m a w hr=>?_
 have ov:jx s s' ⟨none,[],aA g++gB args.toList,[]⟩:=⟨aK,fun k hk=>by cases hk⟩
 have ha':=ha.agree ov (fun _ h=>anz.2 (.inr h));have lE:=(hg.agree ov (fun _ h=>anz.2 (.inl h))).rep hr;generalize hv:a.eval g=u at lE;cases lE with
 | @cl _ _ pvs cvs _ _ hn bA hn' ai1 =>
  have hl:=ha'.length;simp only[am8]at hl;refine⟨pvs++args.map a.eval++cvs,WM rfl hv eW.ok rfl,by simp[hn,hn',hl],?_⟩;intro j v x hv' hx;rw[anb]at hv';rw[List.getElem?_append]at hx;simp only[am3,Array.size_map,aoe,hn,hl]at hv' hx;split at hv'
  ·rename_i h1;rw[aoz h1]at hx;rw[anb]at hv';rw[List.getElem?_append]at hx;split at hv'
   ·rename_i h2;rw[aoz oz]at hx;exact(bA j v x hv' hx).mono (fun _ _ h=>h) (fun _ _ h=>h) (fun k b _ h=>by cases h)
   ·rename_i h2;rw[aoy oz]at hx;rw[hn]at hv';exact ha'.rep hr _ v x (by simpa using hv') hx
  ·rename_i h1;rw[aoy h1]at hx;exact(ai1 _ v x hv' hx).mono (fun _ _ h=>h) (fun _ _ h=>h) (fun k b _ h=>by cases h)
end Go.Lw
namespace Go.Lw
variable{P:apb}{N:Nat}{Q:Exit->AS->Prop}
def Ba(s:AS)(g:Nat)(want:Bool):Option (Prop×Bool):=match s.get g with
  |some x=>match x with
    | .v (.bool b)=>some (b=want,b==want)
    | .opt c (.v (.bool b))=>some (c=true/\b=want,c&&b==want)
    |_=>none
  |none=>none
inductive Want where
  |ar (op:BinOp) (k:IntKind) (a b:Int)
  |cv (k:IntKind) (n:Int)
  |ln (es:List AV)
  |ix (es:List AV) (i:Int)
  |cl (f:FuncId) (xs:List AV)
def xr(P:apb)(w:Want)(x:AV):Prop:=match w with
  | .ar op k a b=>∃n,k.wrap (i7 op a b)=n/\x=.v (.int k n)
  | .cv k n=>∃m,k.wrap n=m/\x=.v (.int k m)
  | .ln es=>∃n:Nat,es.length=n/\x=.v (.int .i64 n)
  | .ix es i=>0<=i/\∃e,es[i.toNat]?=some e/\x=.iptr e.cells
  | .cl f xs=>lR P f xs x/\x.nm=[]
inductive Fr where
  |seq (c:Code)
  |blk (id:Nat)
  |lp (K:AS->Prop)
def dl(P:apb)(N:Nat)(Q:Exit->AS->Prop):List Fr->Exit->AS->Prop
  |[],e,s=>Q e s
  | .seq c::k,e,s=>match e with
    | .normal=>cg P N c (dl P N Q k) s
    |e=>dl P N Q k e s
  | .blk id::k,e,s=>match e with
    | .exit id'=>match ajx id' id with
      |true=>dl P N Q k .normal s
      |false=>dl P N Q k (.exit id') s
    |e=>dl P N Q k e s
  | .lp K::k,e,s=>match e with
    | .normal=>K s
    |e=>dl P N Q k e s
inductive Cf where
  |code (c:Code) (k:List Fr) (s:AS)
  |ops (id i:Nat) (R:List Oper) (draw:Bool) (s0:AS) (ops:List Oper) (us:List Out) (k:List Fr) (s:AS)
  |ap (o:Oper) (u:Out) (id i:Nat) (R:List Oper) (draw:Bool) (s0:AS) (ops:List Oper) (us:List Out) (k:List Fr) (s:AS)
  |ex (e:Exit) (k:List Fr) (s:AS)
  |st (w:Want) (rt:List Nat) (o:Oper) (id i:Nat) (R:List Oper) (draw:Bool) (s0:AS) (ops:List Oper) (us:List Out) (k:List Fr) (s:AS)
  |sg (G:Prop) (b:Bool) (w:Want) (rt:List Nat) (o:Oper) (id i:Nat) (R:List Oper) (draw:Bool) (s0:AS) (ops:List Oper) (us:List Out) (k:List Fr) (s:AS)
def Gd(P:apb)(N:Nat)(Q:Exit->AS->Prop):Cf->Prop
  | .code c k s=>cg P N c (dl P N Q k) s
  | .ops _ _ R draw s0 ops us k s=>jH P N R.toArray ops s us (fun s' us'=>(draw=true->chk R us' s0=true)/\dl P N Q k .normal s')
  | .ap o u _ _ R draw s0 ops us k s=>jH P N R.toArray ops (s.app o.dst u) (us++[u]) (fun s' us'=>(draw=true->chk R us' s0=true)/\dl P N Q k .normal s')
  | .ex e k s=>dl P N Q k e s
  | .st w rt o _ _ R draw s0 ops us k s=>(∀x,xr P w x->Step P N R.toArray s o ⟨some x,[],rt,[]⟩)->jH P N R.toArray (o::ops) s us (fun s' us'=>(draw=true->chk R us' s0=true)/\dl P N Q k .normal s')
  | .sg G b w rt o _ _ R draw s0 ops us k s=>(∀x,(G->xr P w x)->Step P N R.toArray s o ⟨some (.opt b x),[],rt,[]⟩)->jH P N R.toArray (o::ops) s us (fun s' us'=>(draw=true->chk R us' s0=true)/\dl P N Q k .normal s')
theorem aem{x y:Code}{k:List Fr}{s:AS}(h:cg P N x (dl P N Q (.seq y::k)) s):cg P N (.seq x y) (dl P N Q k) s :=
 Zb fun K hK=>mD h fun e s he=>by
  cases e with
  |normal=>exact hK s he
  |_=>exact he
theorem Sb{id:Nat}{c:Code}{k:List Fr}{s:AS}(h:cg P N c (dl P N Q (.blk id::k)) s):cg P N (.block id c) (dl P N Q k) s :=
 Uy (mD h fun e s he=>by
  cases e with
  |exit id' =>
   show match ajx id' id with |true=>_ |false=>_
   simp only[dl]at he;split at he
   ·exact he
   ·exact he
  |_=>exact he)
theorem F2{R:Array Oper}{K K':AS->List Out->Prop}(hk:∀s us,K s us->K' s us):∀{ops:List Oper}{s:AS}{us:List Out},jH P N R ops s us K->jH P N R ops s us K'
 |[],s,us,h=>hk s us h
 |_::_,s,us,⟨u,h1,h2,h3⟩=>⟨u,h1,h2,F2 hk h3⟩
def AG:List Oper->Bool
  |[]=>true
  |o::l=>match o.op with
    | .defer _=>false
    |_=>AG l
theorem Jl:∀{l:List Oper},AG l=true->l.all nd=true
 |[],_=>rfl
 |o::l,h=>by
  unfold AG at h;simp only[all_cons,anq];split at h
  ·cases h
  ·rename_i hd;refine⟨?_,Jl h⟩;unfold nd;split
   ·rename_i c hc;exact ao5 hc (hd c)
   ·rfl
theorem abk{id:Nat}{A:Array Oper}{d:Bool}{k:List Fr}{s:AS}(dA:A.toList.all nd=true)(hd:d=true->P.follows .mixedOrders=true)
  (h:jH P N A.toList.toArray A.toList s [] (fun s' us'=>(d=true->chk A.toList us' s=true)/\dl P N Q k .normal s')):cg P N (.region id A d) (dl P N Q k) s:=by
 have e:A=A.toList.toArray:=by simp
 cases d with
 |false =>
  rw[e]
  exact aic dA (by
   exact F2 (fun s us h=>h.2) h)
 |true =>
  rw[e];exact aba dA (hd rfl) (F2 (fun s us h=>⟨h.1 rfl,h.2⟩) h)
variable[Inhabited (Tys P)]
def Fp(P:apb)[Inhabited (Tys P)](s:AS)(d:Nat):Op->Option (Out×List Prop)
  | .alloc T=>match jl P T with
    |some ti=>match ti.zero.all Value.oneCell' with
      |true=>match rX (ti.zero.map .v)with
        |some l=>some (⟨some (.ptr d 0),[(d,some (.box l))],[],[]⟩,[])
        |none=>none
      |false=>none
    |none=>none
  | .box _ x=>match fv false True s x with
    |some (v,ob)=>match v.ok with
      |true=>match rX v.cells with
        |some l=>some (⟨some (.ptr d 0),[(d,some (.box l))],aA x,[]⟩,ob)
        |none=>none
      |false=>none
    |none=>none
  |_=>none
def DS(P:apb)[Inhabited (Tys P)](s:AS):Op->Option (Out×List Prop)
  | .store T x y=>match fv false True s x with
    |some (.ptr k off,ob)=>match fv false True s y with
      |some (v,ob')=>match s.blk k with
        |some (.box cs)=>match jl P T with
          |some ti=>match v.ok&&ajx v.cells.length ti.size&&Nat.ble (off+ti.size) cs.length with
            |true=>match rX (over cs off v.cells)with
              |some l=>some (⟨none,[(k,some (.box l))],aA x++aA y,[k]⟩,ob++ob')
              |none=>none
            |false=>none
          |none=>none
        |_=>none
      |none=>none
    |_=>none
  |_=>none
def CM(s:AS)(r:Out×List Prop):Option (Out×List Prop):=match J6 s r.1 with
  |true=>some r
  |false=>none
def E6(P:apb)[Inhabited (Tys P)](N:Nat)(R:List Oper)(s:AS)(o:Oper):Option (Out×List Prop):=match o.guard with
  |none=>match o.dst with
    |some d=>match aks d N with
      |true=>match Ck P false True s o.op with
        |some ⟨x,rt,rd,ob⟩=>some (⟨some x,[],rt,rd⟩,ob)
        |none=>match Fp P s d o.op with
          |some r=>CM s r
          |none=>none
      |false=>none
    |none=>match DS P s o.op with
      |some r=>CM s r
      |none=>none
  |some (j,want)=>match R[j]? with
    |some og=>match og.dst with
      |some g=>match o.dst with
        |some d=>match aks d N with
          |true=>match Ba s g want with
            |some (G,b)=>match Ck P true G s o.op with
              |some ⟨x,rt,rd,ob⟩=>some (⟨some (.opt b x),[],g::rt,rd⟩,ob)
              |none=>none
            |none=>none
          |false=>none
        |none=>none
      |none=>none
    |none=>none
theorem Jb{s:AS}{r r':Out×List Prop}(h:CM s r=some r'):r'=r/\mU s r.1:=by
 unfold CM at h;split at h
 ·rename_i hn;cases h;exact⟨rfl,BP hn⟩
 ·cases h
theorem UR{s:AS}{R:Array Oper}{d:Nat}{op:Op}{t:apa}{pos:String}{after:Array Edge}{r:Out×List Prop}(h:Fp P s d op=some r)(ho:AllP r.2)(hN:aks d N=true) :
  Step P N R s ⟨some d,op,t,pos,after,none⟩ r.1:=by
 unfold Fp at h;split at h
 ·split at h
  ·rename_i ti dp;split at h
   ·rename_i hz;split at h
    ·rename_i l hl;cases h;cases wO hl;exact aia (iW dp) hz hN
    ·cases h
   ·cases h
  ·cases h
 ·split at h
  ·rename_i v ob h1;split at h
   ·rename_i hv;split at h
    ·rename_i l hl;cases h;cases wO hl;exact Zy (fH h1 ho trivial) hv hN
    ·cases h
   ·cases h
  ·cases h
 ·cases h
theorem aew{s:AS}{R:Array Oper}{op:Op}{t:apa}{pos:String}{after:Array Edge}{r:Out×List Prop}(h:DS P s op=some r)(ho:AllP r.2) :
  Step P N R s ⟨none,op,t,pos,after,none⟩ r.1:=by
 unfold DS at h;split at h
 ·split at h
  ·rename_i h1;split at h
   ·rename_i h2;split at h
    ·rename_i hk;split at h
     ·rename_i ti dp;split at h
      ·rename_i hc;simp only[anq]at hc;split at h
       ·rename_i l hl;cases h;cases wO hl
        exact ahg (fH h1 ho.app.1 trivial) hk (fH h2 ho.app.2 trivial) hc.1.1 (iW dp) hc.1.2 hc.2
       ·cases h
      ·cases h
     ·cases h
    ·cases h
   ·cases h
  ·cases h
 ·cases h
theorem W4{R:List Oper}{s:AS}{o:Oper}{u:Out}{ob:List Prop}(h:E6 P N R s o=some (u,ob))(ho:AllP ob):Step P N R.toArray s o u/\mU s u:=by
 obtain⟨dst,op,ty,pos,after,guard⟩:=o;unfold E6 at h;simp only at h;split at h
 ·split at h
  ·rename_i d;split at h
   ·rename_i hN;split at h
    ·rename_i h1;cases h;exact⟨Hw h1 ho trivial hN,fun k hk=>by simp at hk⟩
    ·split at h
     ·rename_i r h1;obtain⟨h2,h3⟩:=Jb h;subst h2;exact⟨UR h1 ho hN,h3⟩
     ·cases h
   ·cases h
  ·split at h
   ·rename_i r h1;obtain⟨h2,h3⟩:=Jb h;subst h2;exact⟨aew h1 ho,h3⟩
   ·cases h
 ·rename_i j want;split at h
  ·rename_i og xb;split at h
   ·rename_i g hg;split at h
    ·rename_i d;split at h
     ·rename_i hN;split at h
      ·rename_i G b hG;split at h
       ·rename_i h1;cases h;have hj:(R.toArray[j]?).bind (·.dst)=some g:=by simp[xb,hg]
        unfold Ba at hG;split at hG
        ·rename_i x hx;split at hG
         ·cases hG;exact⟨gy hj hx hN (fun h=>Hw h1 ho h hN),fun k hk=>by simp at hk⟩
         ·cases hG;exact⟨wD hj hx hN (fun hc h=>Hw h1 ho ⟨hc,h⟩ hN),fun k hk=>by simp at hk⟩
         ·cases hG
        ·cases hG
       ·cases h
      ·cases h
     ·cases h
    ·cases h
   ·cases h
  ·cases h
def P6:BinOp->Bool
  | .add | .sub | .mul=>true
  |_=>false
theorem Xe:∀{op:BinOp},P6 op=true->(match op with | .add | .sub | .mul=>true |_=>false)=true:=by intro op;cases op <;> intro h <;> first |rfl |cases h
structure R2 where
  w:Want
  rt:List Nat
  ob:List Prop
def CO(P:apb)[Inhabited (Tys P)](g:Bool)(G:Prop)(s:AS):Op->Option R2
  | .binOp op _ x y _=>match P6 op with
    |true=>match fv g G s x with
      |some (.v (.int k a),ob)=>match fv g G s y with
        |some (.v (.int k' b),ob')=>match ajx (vk k) (vk k')with
          |true=>some ⟨.ar op k a b,aA x++aA y,ob++ob'⟩
          |false=>none
        |_=>none
      |_=>none
    |false=>none
  | .convert S T x=>match fv g G s x with
    |some (.v (.int _ n),ob)=>match jl P S with
      |some _=>match jl P T with
        |some ti=>match ti.k with
          | .int k'=>some ⟨.cv k' n,aA x,ob⟩
          |_=>none
        |none=>none
      |none=>none
    |_=>none
  | .indexAddr T x ix=>match fv g G s x with
    |some (.lst sz es,ob)=>match fv g G s ix with
      |some (.v (.int _ i),ob')=>match jl P T with
        |some ti=>match ti.k with
          | .slice E=>match jl P E with
            |some te=>match ajx te.size sz with
              |true=>some ⟨.ix es i,aA x++aA ix,ob++ob'⟩
              |false=>none
            |none=>none
          |_=>none
        |none=>none
      |_=>none
    |_=>none
  | .call ⟨.builtin .len,args,ts⟩=>match args.toList with
    |[x]=>match ts.toList with
      |[T]=>match fv g G s x with
        |some (.lst _ es,ob)=>match jl P T with
          |some ti=>match ti.k with
            | .slice _=>some ⟨.ln es,aA x,ob⟩
            |_=>none
          |none=>none
        |_=>none
      |_=>none
    |_=>none
  | .call ⟨.value (.func f),args,_⟩=>match rJ g G s args.toList with
    |some (xs,ob)=>some ⟨.cl f xs,gB args.toList,ob⟩
    |none=>none
  | .call ⟨.value (.tmp t),args,_⟩=>match fv g G s (.tmp t)with
    |some (.cl f pre caps,ob)=>match rJ g G s args.toList with
      |some (xs,ob')=>some ⟨.cl f (pre++xs++caps),aA (.tmp t)++gB args.toList,ob++ob'⟩
      |none=>none
    |_=>none
  |_=>none
theorem GR{g:Bool}{G:Prop}{s:AS}{R:Array Oper}{d:Nat}{t:apa}{pos:String}{after:Array Edge}{op:Op}{r:R2}(h:CO P g G s op=some r)(ho:AllP r.ob)(hG:G)(hN:aks d N=true)
  {x:AV} (hm:xr P r.w x):Step P N R s ⟨some d,op,t,pos,after,none⟩ ⟨some x,[],r.rt,[]⟩:=by
 unfold CO at h;split at h
 ·split at h
  ·rename_i fO;split at h
   ·rename_i h1;split at h
    ·rename_i h2;split at h
     ·rename_i hk;cases h;cases NK hk;obtain⟨n,e,rfl⟩:=hm;subst e;exact afz (fH h1 ho.app.1 hG) (fH h2 ho.app.2 hG) (Xe fO) hN
     ·cases h
    ·cases h
   ·cases h
  ·cases h
 ·split at h
  ·rename_i h1;split at h
   ·rename_i tS hS;split at h
    ·rename_i ti hT;split at h
     ·rename_i k' hk;cases h;obtain⟨m,e,rfl⟩:=hm;subst e;exact ac9 (fH h1 ho hG) hN (iW hS) (iW hT) hk
     ·cases h
    ·cases h
   ·cases h
  ·cases h
 ·split at h
  ·rename_i h1;split at h
   ·rename_i h2;split at h
    ·rename_i ti hT;split at h
     ·rename_i E hk;split at h
      ·rename_i te hE;split at h
       ·rename_i bG;cases h;obtain⟨h0,e,he,rfl⟩:=hm;exact ab3 (fH h1 ho.app.1 hG) (fH h2 ho.app.2 hG) (iW hT) hk (iW hE) (anw bG) h0 he hN
       ·cases h
      ·cases h
     ·cases h
    ·cases h
   ·cases h
  ·cases h
 ·rename_i args ts;split at h
  ·rename_i y hy;split at h
   ·rename_i T hT;have e1:args=#[y]:=by apply am1.1; simpa using hy
    have e2:ts=#[T]:=by apply am1.1;simpa using hT
    subst e1;subst e2
    split at h
    ·rename_i h1;split at h
     ·rename_i ti dp;split at h
      ·rename_i e hk;cases h;obtain⟨n,e,rfl⟩:=hm;subst e;exact WY (fH h1 ho hG) (iW dp) hk hN
      ·cases h
     ·cases h
    ·cases h
   ·cases h
  ·cases h
 ·split at h
  ·rename_i h1;cases h;exact XV hm.1 (vl hG h1 ho) hm.2 hN
  ·cases h
 ·split at h
  ·rename_i h1;split at h
   ·rename_i h2;cases h;exact Vo (fH h1 ho.app.1 hG) hm.1 (vl hG h2 ho.app.2) (fun k z h=>by cases h) (by simp[l0,xN,hm.2]) hN
   ·cases h
  ·cases h
 ·cases h
def E1(P:apb)[Inhabited (Tys P)](N:Nat)(R:List Oper)(s:AS)(o:Oper)(f:Want->List Nat->Cf)(fG:Prop->Bool->Want->List Nat->Cf):Option (Cf×List Prop):=match o.dst with
  |some d=>match aks d N with
    |true=>match o.guard with
      |none=>match CO P false True s o.op with
        |some ⟨w,rt,ob⟩=>some (f w rt,ob)
        |none=>none
      |some (j,want)=>match R[j]? with
        |some og=>match og.dst with
          |some g=>match Ba s g want with
            |some (G,b)=>match CO P true G s o.op with
              |some ⟨w,rt,ob⟩=>some (fG G b w (g::rt),ob)
              |none=>none
            |none=>none
          |none=>none
        |none=>none
    |false=>none
  |none=>none
theorem acm{R:List Oper}{s:AS}{o:Oper}{f:Want->List Nat->Cf}{fG:Prop->Bool->Want->List Nat->Cf}{c:Cf}{ob:List Prop}(h:E1 P N R s o f fG=some (c,ob))(ho:AllP ob) :
  (∃w rt,c=f w rt/\∀x,xr P w x->Step P N R.toArray s o ⟨some x,[],rt,[]⟩)\/(∃G b w rt,c=fG G b w rt/\∀x,(G->xr P w x)->Step P N R.toArray s o ⟨some (.opt b x),[],rt,[]⟩):=by
 obtain⟨dst,op,ty,pos,after,guard⟩:=o;unfold E1 at h;simp only at h;split at h
 ·rename_i d;split at h
  ·rename_i hN;split at h
   ·split at h
    ·rename_i h1;cases h;exact .inl ⟨_,_,rfl,fun x hm=>GR h1 ho trivial hN hm⟩
    ·cases h
   ·rename_i j want;split at h
    ·rename_i og xb;split at h
     ·rename_i g hg;split at h
      ·rename_i G b hG;split at h
       ·rename_i h1;cases h;have hj:(R.toArray[j]?).bind (·.dst)=some g:=by simp[xb,hg]
        refine .inr ⟨_,_,_,_,rfl,fun x hm=>?_⟩;unfold Ba at hG;split at hG
        ·rename_i y hy;split at hG
         ·cases hG;exact gy hj hy hN (fun h=>GR h1 ho h hN (hm h))
         ·cases hG;exact wD hj hy hN (fun hc h=>GR h1 ho ⟨hc,h⟩ hN (hm ⟨hc,h⟩))
         ·cases hG
        ·cases hG
       ·cases h
      ·cases h
     ·cases h
    ·cases h
  ·cases h
 ·cases h
def step(P:apb)[Inhabited (Tys P)](N:Nat)(st:Nat×Nat):Cf->Option (Cf×List Prop)
  | .code c k s=>match c with
    | .skip=>match ajx 77777 st.1 with
      |true=>none
      |false=>some (.ex .normal k s,[])
    | .ret=>match ajx 77777 st.1 with
      |true=>none
      |false=>some (.ex .ret k s,[])
    | .exit id=>match ajx 77777 st.1 with
      |true=>none
      |false=>some (.ex (.exit id) k s,[])
    | .seq x y=>some (.code x (.seq y::k) s,[])
    | .block id c=>some (.code c (.blk id::k) s,[])
    | .region id A d=>match ajx id st.1&&ajx 0 st.2 with
      |true=>none
      |false=>match AG A.toList with
        |true=>some (.ops id 0 A.toList d s A.toList [] k s,[])
        |false=>none
    |_=>none
  | .ops id i R d s0 ops us k s=>match ops with
    |[]=>match d with
      |false=>some (.ex .normal k s,[])
      |true=>none
    |o::ops=>match ajx id st.1&&ajx (i+1) st.2 with
      |true=>none
      |false=>match E6 P N R s o with
        |some (u,ob)=>some (.ap o u id i R d s0 ops us k s,ob)
        |none=>E1 P N R s o (fun w rt=>.st w rt o id i R d s0 ops us k s) (fun G b w rt=>.sg G b w rt o id i R d s0 ops us k s)
  | .ap o u id i R d s0 ops us k s=>match s with
    |⟨sl,hp⟩=>match u with
      |⟨val,upd,rt,rd⟩=>match o.dst with
        |some t=>match upd with
          |[]=>some (.ops id (i+1) R d s0 ops (us++[⟨val,[],rt,rd⟩]) k ⟨(t,val)::sl,hp⟩,[])
          |p::q=>some (.ops id (i+1) R d s0 ops (us++[⟨val,p::q,rt,rd⟩]) k ⟨(t,val)::sl,p::(q++hp)⟩,[])
        |none=>some (.ops id (i+1) R d s0 ops (us++[⟨val,upd,rt,rd⟩]) k ⟨sl,upd++hp⟩,[])
  | .ex e k s=>match k with
    |[]=>none
    | .seq c::k=>match e with
      | .normal=>some (.code c k s,[])
      |e=>some (.ex e k s,[])
    | .blk id::k=>match e with
      | .exit id'=>match ajx id' id with
        |true=>some (.ex .normal k s,[])
        |false=>some (.ex (.exit id') k s,[])
      |e=>some (.ex e k s,[])
    | .lp _::k=>match e with
      | .normal=>none
      |e=>some (.ex e k s,[])
  | .st ..=>none
  | .sg ..=>none
def run(P:apb)[Inhabited (Tys P)](N:Nat)(st:Nat×Nat):Nat->Cf->List Prop->Option (Cf×List Prop)
  |0,c,ob=>some (c,ob)
  |n+1,c,ob=>match step P N st c with
    |none=>some (c,ob)
    |some (c',o)=>match o with
      |[]=>run P N st n c' ob
      |p::o=>run P N st n c' (p::(o++ob))
theorem LZ{st:Nat×Nat}{c c':Cf}{ob:List Prop}(h:step P N st c=some (c',ob))(ho:AllP ob)(hg:Gd P N Q c'):Gd P N Q c:=by
 unfold step at h;split at h
 ·split at h
  ·split at h
   ·cases h
   ·cases h;exact ahr hg
  ·split at h
   ·cases h
   ·cases h;exact Xj hg
  ·split at h
   ·cases h
   ·cases h;exact ah8 hg
  ·cases h;exact aem hg
  ·cases h;exact Sb hg
  ·split at h
   ·cases h
   ·split at h
    ·rename_i dA;cases h;exact abk (Jl dA) (fun _=>(default:Tys P).mix) hg
    ·cases h
  ·cases h
 ·split at h
  ·split at h
   ·cases h;simpa[Gd,jH]using hg
   ·cases h
  ·split at h
   ·cases h
   ·split at h
    ·rename_i h1;cases h;obtain⟨h2,h3⟩:=W4 h1 ho;exact⟨_,h2,h3,hg⟩
    ·rcases acm h ho with⟨w,rt,rfl,h2⟩ |⟨G,b,w,rt,rfl,h2⟩
     ·exact hg h2
     ·exact hg h2
 ·rename_i o u id i R d s0 ops us k s;obtain⟨sl,hp⟩:=s;obtain⟨val,upd,rt,rd⟩:=u;obtain⟨dst,op,ty,pos,after,guard⟩:=o;cases dst with
  |none=>cases h;exact hg
  |some t =>
   cases upd with
   |nil=>cases h;exact hg
   |cons p q=>cases h;exact hg
 ·rename_i e k s;cases k with
  |nil=>cases h
  |cons f k =>
   cases f with
   |seq c=>cases e <;> cases h <;> exact hg
   |blk id =>
    cases e with
    |exit id' =>
     show dl P N Q (.blk id::k) (.exit id') s;simp only[dl];simp only at h;split at h
     ·cases h;exact hg
     ·cases h;exact hg
    |_=>cases h;exact hg
   |lp K=>cases e <;> cases h <;> exact hg
 ·cases h
 ·cases h
theorem dc{st:Nat×Nat}:∀{n:Nat}{c c':Cf}{ob ob':List Prop},run P N st n c ob=some (c',ob')->AllP ob'->Gd P N Q c'->Gd P N Q c/\AllP ob
 |0,c,c',ob,ob',h,ho,hg=>by cases h;exact⟨hg,ho⟩
 |n+1,c,c',ob,ob',h,ho,hg=>by
  unfold run at h;split at h
  ·cases h;exact⟨hg,ho⟩
  ·rename_i c2 o h1;split at h
   ·obtain⟨h2,h3⟩:=dc h ho hg;exact⟨LZ h1 .nil h2,h3⟩
   ·rename_i p o;obtain⟨h2,h3⟩:=dc h ho hg;cases h3 with |cons h4 h5=>exact⟨LZ h1 (.cons h4 h5.app.1) h2,h5.app.2⟩
end Go.Lw
namespace Go.Lw
variable{P:apb}{N:Nat}{Q:Exit->AS->Prop}
theorem bg{a b:c9}(h:SlW a b:=by repeat(first |exact SlW.nil |refine SlW.k ?_)):SlW a b:=h
theorem Wk.o {s:AS} {sl:c9} {hp:Hp} (h1:SlW s.sl sl:=by exact bg)
  (h2:HpW s.hp hp:=by repeat(first |exact HpW.nil |refine HpW.cons rfl (.refl _) ?_)):Wk s ⟨sl,hp⟩:=Wk.of h1 h2
def pV:Nat->List Fr->Option (List Fr×Code×List Fr)
  |0,.seq y::k=>some ([],y,k)
  |n+1,f::k=>match pV n k with
    |some (a,y,b)=>some (f::a,y,b)
    |none=>none
  |_,_=>none
theorem zi:∀{n:Nat}{k k1 k2:List Fr}{y:Code},pV n k=some (k1,y,k2)->k=k1++.seq y::k2
 |0,[],_,_,_,h=>by simp[pV]at h
 |0,f::k,k1,k2,y,h=>by cases f <;> simp[pV]at h;obtain⟨rfl,rfl,rfl⟩:=h;rfl
 |n+1,[],_,_,_,h=>by simp[pV]at h
 |n+1,f::k,k1,k2,y,h=>by
  simp only[pV]at h;split at h
  ·rename_i h1;cases h;rw[zi h1];rfl
  ·cases h
theorem pX{k2:List Fr}{y:Code}{K:AS->Prop}(hK:∀s,K s->cg P N y (dl P N Q k2) s) :
  ∀(k1:List Fr)(e:Exit)(s:AS),dl P N Q (k1++.lp K::k2) e s->dl P N Q (k1++.seq y::k2) e s
 |[],e,s,h=>by cases e <;> first |exact hK s h |exact h
 | .seq c::k1,e,s,h=>by
  cases e with
  |normal=>exact mD (h:cg P N c _ s) (fun e s=>pX hK k1 e s)
  |_=>exact pX hK k1 _ s h
 | .blk id::k1,e,s,h=>by
  cases e with
  |exit id' =>
   simp only[ak5,dl]at h ⊢;split at h
   ·exact pX hK k1 _ s h
   ·exact pX hK k1 _ s h
  |_=>exact pX hK k1 _ s h
 | .lp K'::k1,e,s,h=>by
  cases e with
  |normal=>exact h
  |_=>exact pX hK k1 _ s h
def zB:Nat->List AV->Option c9
  |_,[]=>some []
  |n,x::xs=>match zB (n+1) xs with
    |some l=>some ((n,some x)::l)
    |none=>none
theorem Ff:∀{xs:List AV}{n:Nat}{l:c9},zB n xs=some l->l=qL n xs
 |[],n,l,h=>by cases h;rfl
 |x::xs,n,l,h=>by
  unfold zB at h;split at h
  ·rename_i h1;cases h;rw[Ff h1];rfl
  ·cases h
def pk{α:Type}(l:List (Nat×Option α)):List Nat->Option (List (Nat×Option α))
  |[]=>some []
  |t::ts=>match lk l t with
    |some x=>match pk l ts with
      |some r=>some ((t,some x)::r)
      |none=>none
    |none=>none
theorem P4{sl:c9}:∀{ts:List Nat}{r:c9},pk sl ts=some r->SlW sl r
 |[],r,h=>by cases h;exact .nil
 |t::ts,r,h=>by
  unfold pk at h;split at h
  ·rename_i h1;split at h
   ·rename_i h2;cases h;exact .cons h1 (.refl _) (P4 h2)
   ·cases h
  ·cases h
theorem Kt{hp:Hp}:∀{ts:List Nat}{r:Hp},pk hp ts=some r->HpW hp r
 |[],r,h=>by cases h;exact .nil
 |t::ts,r,h=>by
  unfold pk at h;split at h
  ·rename_i h1;split at h
   ·rename_i h2;cases h;exact .cons h1 (.refl _) (Kt h2)
   ·cases h
  ·cases h
theorem SlW.ap{sl a b:c9}(h:SlW sl a)(h':SlW sl b):SlW sl (a++b):=by
 induction h with
 |nil=>exact h'
 |cons h1 h2 _ ih=>exact .cons h1 h2 ih
theorem HpW.ap{sl a b:Hp}(h:HpW sl a)(h':HpW sl b):HpW sl (a++b):=by
 induction h with
 |nil=>exact h'
 |cons h1 h2 _ ih=>exact .cons h1 h2 ih
theorem Wk.p{s:AS}{a b:c9}{c d:Hp}{ks kh:List Nat}(h1:SlW s.sl a)(h2:HpW s.hp c)(hs:pk s.sl ks=some b)(hh:pk s.hp kh=some d):Wk s ⟨a++b,c++d⟩ :=
 Wk.of (h1.ap (P4 hs)) (h2.ap (Kt hh))
def Cn:Exit->Bool
  | .normal | .ret=>true
  |_=>false
theorem kT{s:AS}{x:Option AV}{rt rd:List Nat}:mU s ⟨x,[],rt,rd⟩:=fun _ hk=>by simp at hk
theorem yp{c:Code}{k:List Fr}{s:AS}{α:Type}{f:α->AV}{l:List α}{t sz:Nat}(ht:s.get t=some (.lst sz (l.map f)))(h:l.length<=bb->Gd P N Q (.code c k s)):Gd P N Q (.code c k s):=Ut ht h
theorem Cg{S:AS}{F:Prop}{K:AS->Prop}{k:List Fr}{s:AS}(hK:∀(s1:AS),F->Wk s1 S->K s1)(hF:F)(hw:Wk s S:=by exact Wk.o):Gd P N Q (.ex .normal (.lp K::k) s):=hK s hF hw
theorem aS{P':Type}{S:P'->AS}{F:P'->Prop}{M:P'->Nat}{m0:Nat}{K:AS->Prop}{k:List Fr}{s:AS}(hK:∀(s1:AS),∀(p2:P'),F p2->M p2<m0->Wk s1 (S p2)->K s1)(p0:P')(hF:F p0)
  (hl:M p0<m0:=by first |omega |(dsimp only;omega)) (hw:Wk s (S p0):=by exact Wk.o):Gd P N Q (.ex .normal (.lp K::k) s):=hK s p0 hF hl hw
theorem vI{P':Type}{S:P'->AS}{F:P'->Prop}{K:AS->Prop}{k:List Fr}{s:AS}(hK:∀(s1:AS),∀(p:P'),F p->Wk s1 (S p)->K s1)(p0:P')(hF:F p0)(hw:Wk s (S p0):=by exact Wk.o):Gd P N Q (.ex .normal (.lp K::k) s):=hK s p0 hF hw
theorem jq{P' Q':Type}{S:P'->Q'->AS}{F:P'->Q'->Prop}{M:P'->Q'->Nat}{m0:Nat}{K:AS->Prop}{k:List Fr}{s:AS}(hK:∀(s1:AS),∀(p2:P')(q2:Q'),F p2 q2->M p2 q2<m0->Wk s1 (S p2 q2)->K s1)(p0:P')(q0:Q')(hF:F p0 q0)
  (hl:M p0 q0<m0:=by first |omega |(dsimp only;omega)) (hw:Wk s (S p0 q0):=by exact Wk.o):Gd P N Q (.ex .normal (.lp K::k) s):=hK s p0 q0 hF hl hw
theorem wB{P' Q':Type}{S:P'->Q'->AS}{F:P'->Q'->Prop}{K:AS->Prop}{k:List Fr}{s:AS}(hK:∀(s1:AS),∀(p:P')(q:Q'),F p q->Wk s1 (S p q)->K s1)(p0:P')(q0:Q')(hF:F p0 q0)(hw:Wk s (S p0 q0):=by exact Wk.o):Gd P N Q (.ex .normal (.lp K::k) s):=hK s p0 q0 hF hw
theorem kz{P' Q' R':Type}{S:P'->Q'->R'->AS}{F:P'->Q'->R'->Prop}{M:P'->Q'->R'->Nat}{m0:Nat}{K:AS->Prop}{k:List Fr}{s:AS}(hK:∀(s1:AS),∀(p2:P')(q2:Q')(r2:R'),F p2 q2 r2->M p2 q2 r2<m0->Wk s1 (S p2 q2 r2)->K s1)(p0:P')(q0:Q')(r0:R')(hF:F p0 q0 r0)
  (hl:M p0 q0 r0<m0:=by first |omega |(dsimp only;omega)) (hw:Wk s (S p0 q0 r0):=by exact Wk.o):Gd P N Q (.ex .normal (.lp K::k) s):=hK s p0 q0 r0 hF hl hw
theorem OJ{P' Q' R' T':Type}{S:P'->Q'->R'->T'->AS}{F:P'->Q'->R'->T'->Prop}{M:P'->Q'->R'->T'->Nat}{m0:Nat}{K:AS->Prop}{k:List Fr}{s:AS}(hK:∀(s1:AS),∀(p2:P')(q2:Q')(r2:R')(t2:T'),F p2 q2 r2 t2->M p2 q2 r2 t2<m0->Wk s1 (S p2 q2 r2 t2)->K s1)(p0:P')(q0:Q')(r0:R')(t0:T')(hF:F p0 q0 r0 t0)
  (hl:M p0 q0 r0 t0<m0:=by first |omega |(dsimp only;omega)) (hw:Wk s (S p0 q0 r0 t0):=by exact Wk.o):Gd P N Q (.ex .normal (.lp K::k) s):=hK s p0 q0 r0 t0 hF hl hw
theorem Lj{P' Q' R' T':Type}{S:P'->Q'->R'->T'->AS}{F:P'->Q'->R'->T'->Prop}{K:AS->Prop}{k:List Fr}{s:AS}(hK:∀(s1:AS),∀(p:P')(q:Q')(r:R')(t:T'),F p q r t->Wk s1 (S p q r t)->K s1)(p0:P')(q0:Q')(r0:R')(t0:T')(hF:F p0 q0 r0 t0)(hw:Wk s (S p0 q0 r0 t0):=by exact Wk.o):Gd P N Q (.ex .normal (.lp K::k) s):=hK s p0 q0 r0 t0 hF hw
theorem Mh{P' Q' R' T' U':Type}{S:P'->Q'->R'->T'->U'->AS}{F:P'->Q'->R'->T'->U'->Prop}{M:P'->Q'->R'->T'->U'->Nat}{m0:Nat}{K:AS->Prop}{k:List Fr}{s:AS}(hK:∀(s1:AS),∀(p2:P')(q2:Q')(r2:R')(t2:T')(u2:U'),F p2 q2 r2 t2 u2->M p2 q2 r2 t2 u2<m0->Wk s1 (S p2 q2 r2 t2 u2)->K s1)(p0:P')(q0:Q')(r0:R')(t0:T')(u0:U')(hF:F p0 q0 r0 t0 u0)
  (hl:M p0 q0 r0 t0 u0<m0:=by first |omega |(dsimp only;omega)) (hw:Wk s (S p0 q0 r0 t0 u0):=by exact Wk.o):Gd P N Q (.ex .normal (.lp K::k) s):=hK s p0 q0 r0 t0 u0 hF hl hw
variable[Inhabited (Tys P)]
variable{s:AS}{k:List Fr}{ob:List Prop}{c':Cf}{us:List Out}{s0:AS}{id i:Nat}{R:List Oper}{sl:c9}{ops:List Oper}{o:Oper}{draw:Bool}{rt:List Nat}{hp:Hp}{u:Out}
def uA(P:apb)[Inhabited (Tys P)](s:AS):List ResultVar->Option (List AV)
  |[]=>some []
  |r::rs=>match uA P s rs with
    |some xs=>match r with
      | .tmp t=>match s.get t with
        |some x=>some (x::xs)
        |none=>none
      | .cell t T=>match s.get t with
        |some (.ptr k off)=>match s.blk k with
          |some (.box cs)=>match jl P T with
            |some ti=>match ajx off 0&&Nat.ble ti.size cs.length with
              |true=>match yH ti cs with
                |some v=>some (v::xs)
                |none=>none
              |false=>none
            |none=>none
          |_=>none
        |_=>none
    |none=>none
theorem Ol{s:AS}:∀{rs:List ResultVar}{xs:List AV},uA P s rs=some xs->ResL P s rs xs
 |[],xs,h=>by cases h;exact .nil
 |r::rs,xs,h=>by
  unfold uA at h;split at h
  ·rename_i ys hy;have ih:=Ol hy;split at h
   ·split at h
    ·rename_i hx;cases h;exact .cons (.tmp hx) ih
    ·cases h
   ·split at h
    ·rename_i hx;split at h
     ·rename_i hk;split at h
      ·rename_i ti dp;split at h
       ·rename_i hc;simp only[anq]at hc;have:=anw hc.1;subst this;split at h
        ·rename_i v hv;cases h;obtain⟨h2,rfl⟩:=G4 hv;exact .cons (.cell hx hk (iW dp) hc.2 h2) ih
        ·cases h
       ·cases h
      ·cases h
     ·cases h
    ·cases h
  ·cases h
theorem gR {rs:List ResultVar} {xs:List AV} {r:AV} {H':Hp} {e:Exit} (h:aD s (fu xs) r H') (hx:uA P s rs=some xs:=by exact rfl) (he:Cn e=true:=by exact rfl) :
  Gd P N (qU P rs r H') (.ex e [] s):=by
 cases e <;> first |exact⟨xs,Ol hx,h⟩ |cases he
theorem ai {rs:List ResultVar} {x r:AV} {e:Exit} (h:x=r) (hx:uA P s rs=some [x]:=by exact rfl) (he:Cn e=true:=by exact rfl) :
  Gd P N (qU P rs r []) (.ex e [] s):=gR (Mj h) hx he
theorem bO {rs:List ResultVar} {x y r:AV} {e:Exit} (h:.tup [x,y]=r) (hx:uA P s rs=some [x,y]:=by exact rfl) (he:Cn e=true:=by exact rfl) :
  Gd P N (qU P rs r []) (.ex e [] s):=gR (q6 h) hx he
theorem gE3 {rs:List ResultVar} {x y z r:AV} {e:Exit} (h:.tup [x,y,z]=r) (hx:uA P s rs=some [x,y,z]:=by exact rfl) (he:Cn e=true:=by exact rfl) :
  Gd P N (qU P rs r []) (.ex e [] s):=gR (x7 h) hx he
theorem dk{ob:List Prop}(h:AllP ob:=by repeat(first |exact AllP.nil |refine AllP.cons (by first |(intro h;(try simp only[pG]at h);simp only[h,beq_self_eq_true,Bool.and_self];done) |exact ZQ _ |exact .inl rfl |exact .inr ⟨_,_,rfl⟩ |(intro h;simp_all;done)) ?_)):AllP ob:=h
theorem go{c c':Cf}(h:Gd P N Q c')(st:Nat×Nat:=(99999,0))(hr:run P N st 999 c []=some (c',ob):=by exact rfl)(ho:AllP ob:=by exact dk):Gd P N Q c:=(dc hr ho h).1
theorem gW{c:Code}{s s':AS}(hw:Wk s s')(h:Gd P N Q c')(st:Nat×Nat:=(99999,0))(hr:run P N st 999 (.code c k s') []=some (c',ob):=by exact rfl)(ho:AllP ob:=by exact dk):Gd P N Q (.code c k s):=yx hw (dc hr ho h).1
theorem gC{c:ao8}{x y:Code}{b:Bool}{c1 c2:Cf}{ob1 ob2:List Prop}(ht:b=true->Gd P N Q c1)(hf:b=false->Gd P N Q c2)(st1:Nat×Nat:=(99999,0))(st2:Nat×Nat:=(99999,0))
  (hc:Ev s c (.v (.bool b)):=by first |exact .tmp rfl |exact .const _) (br:run P N st1 999 (.code x k s) []=some (c1,ob1):=by exact rfl) (iG:AllP ob1:=by exact dk) (gG:run P N st2 999 (.code y k s) []=some (c2,ob2):=by exact rfl) (iz:AllP ob2:=by exact dk) :
  Gd P N Q (.code (.cond c x y) k s):=KC hc (fun h=>(dc br iG (ht h)).1) (fun h=>(dc gG iz (hf h)).1)
theorem gf {c:ao8} {x y:Code} {b:Bool} {c2:Cf} {ob2:List Prop} (hf:Gd P N Q c2) (st2:Nat×Nat:=(99999,0)) (hc:Ev s c (.v (.bool b)):=by first | exact .tmp rfl | exact .const _) (hb:b=false:=by rfl) (gG:run P N st2 999 (.code y k s) []=some (c2,ob2):=by exact rfl) (iz:AllP ob2:=by exact dk) :
  Gd P N Q (.code (.cond c x y) k s):=KC hc (fun h=>Bool.noConfusion (hb.symm.trans h)) (fun _=>(dc gG iz hf).1)
theorem gs (hs:Step P N R.toArray s o u) (h:Gd P N Q c') (st:Nat×Nat:=(99999,0)) (hn:mU s u:=by first | exact BP rfl | exact kT) (hr:run P N st 999 (.ap o u id i R draw s0 ops us k s) []=some (c',ob):=by exact rfl) (ho:AllP ob:=by exact dk) :
  Gd P N Q (.ops id i R draw s0 (o::ops) us k s):=⟨u,hs,hn,(dc hr ho h).1⟩
theorem gt {w:Want} (hs:Step P N R.toArray s o u) (h:Gd P N Q c') (st:Nat×Nat:=(99999,0)) (hn:mU s u:=by first | exact BP rfl | exact kT) (hr:run P N st 999 (.ap o u id i R draw s0 ops us k s) []=some (c',ob):=by exact rfl) (ho:AllP ob:=by exact dk) :
  Gd P N Q (.st w rt o id i R draw s0 ops us k s):=fun _=>⟨u,hs,hn,(dc hr ho h).1⟩
theorem gu {G:Prop} {b:Bool} {w:Want} (hs:Step P N R.toArray s o u) (h:Gd P N Q c') (st:Nat×Nat:=(99999,0)) (hn:mU s u:=by first | exact BP rfl | exact kT) (hr:run P N st 999 (.ap o u id i R draw s0 ops us k s) []=some (c',ob):=by exact rfl) (ho:AllP ob:=by exact dk) :
  Gd P N Q (.sg G b w rt o id i R draw s0 ops us k s):=fun _=>⟨u,hs,hn,(dc hr ho h).1⟩
theorem ga {op:BinOp} {K:IntKind} {a b n:Int} (he:K.wrap (i7 op a b)=n) (h:Gd P N Q c') (st:Nat×Nat:=(99999,0)) (hr:run P N st 999 (.ap o ⟨some (.v (.int K n)),[],rt,[]⟩ id i R draw s0 ops us k s) []=some (c',ob):=by exact rfl) (ho:AllP ob:=by exact dk) :
  Gd P N Q (.st (.ar op K a b) rt o id i R draw s0 ops us k s):=fun dD=>⟨⟨some (.v (.int K n)),[],rt,[]⟩,dD _ (⟨_,he,rfl⟩),kT,(dc hr ho h).1⟩
theorem uk {op:BinOp} {K:IntKind} {a b n:Int} {G:Prop} {b0:Bool} (he:G->K.wrap (i7 op a b)=n) (h:Gd P N Q c') (st:Nat×Nat:=(99999,0)) (hr:run P N st 999 (.ap o ⟨some (.opt b0 (.v (.int K n))),[],rt,[]⟩ id i R draw s0 ops us k s) []=some (c',ob):=by exact rfl) (ho:AllP ob:=by exact dk) :
  Gd P N Q (.sg G b0 (.ar op K a b) rt o id i R draw s0 ops us k s):=fun dD=>⟨⟨some (.opt b0 (.v (.int K n))),[],rt,[]⟩,dD _ (fun hG=>⟨_,(he hG),rfl⟩),kT,(dc hr ho h).1⟩
theorem gv {K:IntKind} {n m:Int} (he:K.wrap n=m) (h:Gd P N Q c') (st:Nat×Nat:=(99999,0)) (hr:run P N st 999 (.ap o ⟨some (.v (.int K m)),[],rt,[]⟩ id i R draw s0 ops us k s) []=some (c',ob):=by exact rfl) (ho:AllP ob:=by exact dk) :
  Gd P N Q (.st (.cv K n) rt o id i R draw s0 ops us k s):=fun dD=>⟨⟨some (.v (.int K m)),[],rt,[]⟩,dD _ (⟨_,he,rfl⟩),kT,(dc hr ho h).1⟩
theorem gvG {K:IntKind} {n m:Int} {G:Prop} {b0:Bool} (he:G->K.wrap n=m) (h:Gd P N Q c') (st:Nat×Nat:=(99999,0)) (hr:run P N st 999 (.ap o ⟨some (.opt b0 (.v (.int K m))),[],rt,[]⟩ id i R draw s0 ops us k s) []=some (c',ob):=by exact rfl) (ho:AllP ob:=by exact dk) :
  Gd P N Q (.sg G b0 (.cv K n) rt o id i R draw s0 ops us k s):=fun dD=>⟨⟨some (.opt b0 (.v (.int K m))),[],rt,[]⟩,dD _ (fun hG=>⟨_,(he hG),rfl⟩),kT,(dc hr ho h).1⟩
theorem gl {α:Type} {f:α->AV} {l:List α} {es:List AV} (h:Gd P N Q c') (st:Nat×Nat:=(99999,0)) (he:es=l.map f:=by exact rfl) (hr:run P N st 999 (.ap o ⟨some (.v (.int .i64 (l.length:Nat))),[],rt,[]⟩ id i R draw s0 ops us k s) []=some (c',ob):=by exact rfl) (ho:AllP ob:=by exact dk) :
  Gd P N Q (.st (.ln es) rt o id i R draw s0 ops us k s):=fun dD=>⟨⟨some (.v (.int .i64 (l.length:Nat))),[],rt,[]⟩,dD _ (⟨_,(by rw[he,anl]),rfl⟩),kT,(dc hr ho h).1⟩
theorem cV {α:Type} {f:α->AV} {l:List α} {es:List AV} {G:Prop} {b0:Bool} (h:Gd P N Q c') (st:Nat×Nat:=(99999,0)) (he:G->es=l.map f:=by intro h; exact rfl) (hr:run P N st 999 (.ap o ⟨some (.opt b0 (.v (.int .i64 (l.length:Nat)))),[],rt,[]⟩ id i R draw s0 ops us k s) []=some (c',ob):=by exact rfl) (ho:AllP ob:=by exact dk) :
  Gd P N Q (.sg G b0 (.ln es) rt o id i R draw s0 ops us k s):=fun dD=>⟨⟨some (.opt b0 (.v (.int .i64 (l.length:Nat)))),[],rt,[]⟩,dD _ (fun hG=>⟨_,(by rw[(he hG),anl]),rfl⟩),kT,(dc hr ho h).1⟩
theorem ge {n:Nat} {es:List AV} (he:es.length=n) (h:Gd P N Q c') (st:Nat×Nat:=(99999,0)) (hr:run P N st 999 (.ap o ⟨some (.v (.int .i64 n)),[],rt,[]⟩ id i R draw s0 ops us k s) []=some (c',ob):=by exact rfl) (ho:AllP ob:=by exact dk) :
  Gd P N Q (.st (.ln es) rt o id i R draw s0 ops us k s):=fun dD=>⟨⟨some (.v (.int .i64 n)),[],rt,[]⟩,dD _ (⟨_,he,rfl⟩),kT,(dc hr ho h).1⟩
theorem SA {n:Nat} {es:List AV} {G:Prop} {b0:Bool} (he:G->es.length=n) (h:Gd P N Q c') (st:Nat×Nat:=(99999,0)) (hr:run P N st 999 (.ap o ⟨some (.opt b0 (.v (.int .i64 n))),[],rt,[]⟩ id i R draw s0 ops us k s) []=some (c',ob):=by exact rfl) (ho:AllP ob:=by exact dk) :
  Gd P N Q (.sg G b0 (.ln es) rt o id i R draw s0 ops us k s):=fun dD=>⟨⟨some (.opt b0 (.v (.int .i64 n))),[],rt,[]⟩,dD _ (fun hG=>⟨_,(he hG),rfl⟩),kT,(dc hr ho h).1⟩
theorem gi {es:List AV} {e:AV} {z:Int} (he:es[z.toNat]?=some e) (h:Gd P N Q c') (st:Nat×Nat:=(99999,0)) (h0:0<=z:=by omega) (hr:run P N st 999 (.ap o ⟨some (.iptr e.cells),[],rt,[]⟩ id i R draw s0 ops us k s) []=some (c',ob):=by exact rfl) (ho:AllP ob:=by exact dk) :
  Gd P N Q (.st (.ix es z) rt o id i R draw s0 ops us k s):=fun dD=>⟨⟨some (.iptr e.cells),[],rt,[]⟩,dD _ (⟨h0,_,he,rfl⟩),kT,(dc hr ho h).1⟩
theorem oM {es:List AV} {e:AV} {z:Int} {G:Prop} {b0:Bool} (he:G->es[z.toNat]?=some e) (h:Gd P N Q c') (st:Nat×Nat:=(99999,0)) (h0:G->0<=z:=by intro h; omega) (hr:run P N st 999 (.ap o ⟨some (.opt b0 (.iptr e.cells)),[],rt,[]⟩ id i R draw s0 ops us k s) []=some (c',ob):=by exact rfl) (ho:AllP ob:=by exact dk) :
  Gd P N Q (.sg G b0 (.ix es z) rt o id i R draw s0 ops us k s):=fun dD=>⟨⟨some (.opt b0 (.iptr e.cells)),[],rt,[]⟩,dD _ (fun hG=>⟨(h0 hG),_,(he hG),rfl⟩),kT,(dc hr ho h).1⟩
theorem gc {f:FuncId} {xs:List AV} {r:AV} (hc:lR P f xs r) (h:Gd P N Q c') (st:Nat×Nat:=(99999,0)) (hnm:r.nm=[]:=by exact rfl) (hr:run P N st 999 (.ap o ⟨some (r),[],rt,[]⟩ id i R draw s0 ops us k s) []=some (c',ob):=by exact rfl) (ho:AllP ob:=by exact dk) :
  Gd P N Q (.st (.cl f xs) rt o id i R draw s0 ops us k s):=fun dD=>⟨⟨some (r),[],rt,[]⟩,dD _ (⟨hc,hnm⟩),kT,(dc hr ho h).1⟩
theorem cm {f:FuncId} {xs:List AV} {r:AV} {G:Prop} {b0:Bool} (hc:G->lR P f xs r) (h:Gd P N Q c') (st:Nat×Nat:=(99999,0)) (hnm:G->r.nm=[]:=by intro h; exact rfl) (hr:run P N st 999 (.ap o ⟨some (.opt b0 (r)),[],rt,[]⟩ id i R draw s0 ops us k s) []=some (c',ob):=by exact rfl) (ho:AllP ob:=by exact dk) :
  Gd P N Q (.sg G b0 (.cl f xs) rt o id i R draw s0 ops us k s):=fun dD=>⟨⟨some (.opt b0 (r)),[],rt,[]⟩,dD _ (fun hG=>⟨(hc hG),(hnm hG)⟩),kT,(dc hr ho h).1⟩
theorem gD (h:Gd P N Q c') (st:Nat×Nat:=(99999,0)) (hc:chk R us s0=true:=by kernel_rfl) (hr:run P N st 999 (.ex .normal k s) []=some (c',ob):=by exact rfl) (ho:AllP ob:=by exact dk) :
  Gd P N Q (.ops id i R true s0 [] us k s):=by
 simp only[Gd,jH];exact⟨fun _=>hc,(dc hr ho h).1⟩
theorem gF{f:FuncId}{fn:Func}{c:Code}{args:List AV}{H:Hp}{r:AV}{H':Hp}(hf:P.funcs[f]?=some fn)(hH:∀k z,lk H k=some z->1000<=k)
  (h : Gd P fn.ntmps (qU P fn.results.toList r H') c') (st : Nat × Nat := (99999, 0)) (hb : fn.body = some c := by exact rfl) (hn : (fn.name == "runtime.NumGoroutine") = false := by exact rfl)
  (hs:zB 0 args=some sl:=by exact rfl) (hr:run P fn.ntmps st 999 (.code c [] ⟨sl,H⟩) []=some (c',ob):=by exact rfl) (ho:AllP ob:=by exact dk):Con P f args H r H':=Pg hf hb hn (by simp) rfl hH (Ff hs▸(dc hr ho h).1)
theorem am{f:FuncId}{fn:Func}{c:Code}{args:List AV}{r:AV}(hf:P.funcs[f]?=some fn)
  (h : Gd P fn.ntmps (qU P fn.results.toList r []) c') (st : Nat × Nat := (99999, 0)) (hb : fn.body = some c := by exact rfl) (hn : (fn.name == "runtime.NumGoroutine") = false := by exact rfl)
  (hs:zB 0 args=some sl:=by exact rfl) (hr:run P fn.ntmps st 999 (.code c [] ⟨sl,[]⟩) []=some (c',ob):=by exact rfl) (ho:AllP ob:=by exact dk):lR P f args r:=Y4 hf hb hn (by simp) rfl (Ff hs▸(dc hr ho h).1)
theorem VX{c:Code}{C:(AS->Prop)->Cf}{ob:(AS->Prop)->List Prop}(ks kh:List Nat)(f:c9)(g:Hp)(F:Prop)(M:Nat)(hF:F)
  (h:F->∀K:AS->Prop,(∀(s1:AS),F->M<M->Wk s1 ⟨f++sl,g++hp⟩->K s1)->Gd P N Q (C K)) (st:Nat×Nat:=(99999,0)) (hs:pk s.sl ks=some sl:=by exact rfl) (hh:pk s.hp kh=some hp:=by exact rfl)
  (h1:SlW s.sl (f):=by exact bg) (h2:HpW s.hp (g):=by repeat(first |exact HpW.nil |refine HpW.cons rfl (.refl _) ?_)) (hr:∀K,run P N st 999 (.code c (.lp K::k) ⟨f++sl,g++hp⟩) []=some (C K,ob K):=by intros;exact rfl) (ho:∀K,AllP (ob K):=by intros;exact dk):Gd P N Q (.code (.loop c) k s):=by
 refine wP (fun n s=> M=n/\F/\s=⟨f++sl,g++hp⟩) (Wk.p h1 h2 hs hh) ⟨rfl,hF,rfl⟩ ?_;rintro n s ⟨rfl,hF,rfl⟩ K hK;exact mD (dc (hr K) (ho K) (h hF K (fun s1 h1 h2 h3=>hK s1 _ _ h3 ⟨rfl,h1,rfl⟩ h2))).1 (fun e s he=>by cases e <;> exact he)
theorem Ke{c y:Code}{k k1 k2:List Fr}{c1:(AS->Prop)->Cf}{ob1:(AS->Prop)->List Prop}{c2:Cf}{ob2:List Prop}(ks kh:List Nat)(f:c9)(g:Hp)(F:Prop)(h1:∀K:AS->Prop,(∀(s1:AS),F->Wk s1 ⟨f++sl,g++hp⟩->K s1)->Gd P N Q (c1 K))
  (h2:F->Gd P N Q (c2)) (n:Nat:=0) (st1:Nat×Nat:=(99999,0)) (st2:Nat×Nat:=(99999,0)) (hk:pV n k=some (k1,y,k2):=by exact rfl) (hs:pk s.sl ks=some sl:=by exact rfl) (hh:pk s.hp kh=some hp:=by exact rfl) (br:∀K,run P N st1 999 (.code c (k1++.lp K::k2) s) []=some (c1 K,ob1 K):=by intros;exact rfl) (iG:∀K,AllP (ob1 K):=by intros;exact dk) (gG:run P N st2 999 (.code y k2 ⟨f++sl,g++hp⟩) []=some (c2,ob2):=by intros;exact rfl) (iz:AllP (ob2):=by intros;exact dk):Gd P N Q (.code c k s):=by
 rw[zi hk];exact mD (dc (br (fun s=>cg P N y (dl P N Q k2) s)) (iG _) (h1 (fun s=>cg P N y (dl P N Q k2) s) (fun s1 hF hw=>yx hw (dc (gG) (iz) (h2 hF)).1))).1 (fun e s=>pX (fun s h=>h) k1 e s)
theorem aY{P':Type}{c:Code}{C:P'->(AS->Prop)->Cf}{ob:P'->(AS->Prop)->List Prop}(ks kh:List Nat)(f:P'->c9)(g:P'->Hp)(F:P'->Prop)(M:P'->Nat)(p0:P')(hF:F p0)
  (h:∀(p:P'),F p->∀K:AS->Prop,(∀(s1:AS),∀(p2:P'),F p2->M p2<M p->Wk s1 ⟨f p2++sl,g p2++hp⟩->K s1)->Gd P N Q (C p K)) (st:Nat×Nat:=(99999,0)) (hs:pk s.sl ks=some sl:=by exact rfl) (hh:pk s.hp kh=some hp:=by exact rfl)
  (h1:SlW s.sl (f p0):=by exact bg) (h2:HpW s.hp (g p0):=by repeat(first |exact HpW.nil |refine HpW.cons rfl (.refl _) ?_)) (hr:∀(p:P'),∀K,run P N st 999 (.code c (.lp K::k) ⟨f p++sl,g p++hp⟩) []=some (C p K,ob p K):=by intros;exact rfl) (ho:∀(p:P'),∀K,AllP (ob p K):=by intros;exact dk):Gd P N Q (.code (.loop c) k s):=by
 refine wP (fun n s=>∃(p:P'),M p=n/\F p/\s=⟨f p++sl,g p++hp⟩) (Wk.p h1 h2 hs hh) ⟨p0,rfl,hF,rfl⟩ ?_;rintro n s ⟨p,rfl,hF,rfl⟩ K hK;exact mD (dc (hr p K) (ho p K) (h p hF K (fun s1 p2 h1 h2 h3=>hK s1 _ _ h3 ⟨p2,rfl,h1,rfl⟩ h2))).1 (fun e s he=>by cases e <;> exact he)
theorem Fo{P':Type}{c y:Code}{k k1 k2:List Fr}{c1:(AS->Prop)->Cf}{ob1:(AS->Prop)->List Prop}{c2:P'->Cf}{ob2:P'->List Prop}(ks kh:List Nat)(f:P'->c9)(g:P'->Hp)(F:P'->Prop)(h1:∀K:AS->Prop,(∀(s1:AS),∀(p:P'),F p->Wk s1 ⟨f p++sl,g p++hp⟩->K s1)->Gd P N Q (c1 K))
  (h2:∀(p:P'),F p->Gd P N Q (c2 p)) (n:Nat:=0) (st1:Nat×Nat:=(99999,0)) (st2:Nat×Nat:=(99999,0)) (hk:pV n k=some (k1,y,k2):=by exact rfl) (hs:pk s.sl ks=some sl:=by exact rfl) (hh:pk s.hp kh=some hp:=by exact rfl) (br:∀K,run P N st1 999 (.code c (k1++.lp K::k2) s) []=some (c1 K,ob1 K):=by intros;exact rfl) (iG:∀K,AllP (ob1 K):=by intros;exact dk) (gG:∀(p:P'),run P N st2 999 (.code y k2 ⟨f p++sl,g p++hp⟩) []=some (c2 p,ob2 p):=by intros;exact rfl) (iz:∀(p:P'),AllP (ob2 p):=by intros;exact dk):Gd P N Q (.code c k s):=by
 rw[zi hk];exact mD (dc (br (fun s=>cg P N y (dl P N Q k2) s)) (iG _) (h1 (fun s=>cg P N y (dl P N Q k2) s) (fun s1 p hF hw=>yx hw (dc (gG p) (iz p) (h2 p hF)).1))).1 (fun e s=>pX (fun s h=>h) k1 e s)
theorem jZ{P' Q':Type}{c:Code}{C:P'->Q'->(AS->Prop)->Cf}{ob:P'->Q'->(AS->Prop)->List Prop}(ks kh:List Nat)(f:P'->Q'->c9)(g:P'->Q'->Hp)(F:P'->Q'->Prop)(M:P'->Q'->Nat)(p0:P')(q0:Q')(hF:F p0 q0)
  (h:∀(p:P')(q:Q'),F p q->∀K:AS->Prop,(∀(s1:AS),∀(p2:P')(q2:Q'),F p2 q2->M p2 q2<M p q->Wk s1 ⟨f p2 q2++sl,g p2 q2++hp⟩->K s1)->Gd P N Q (C p q K)) (st:Nat×Nat:=(99999,0)) (hs:pk s.sl ks=some sl:=by exact rfl) (hh:pk s.hp kh=some hp:=by exact rfl)
  (h1:SlW s.sl (f p0 q0):=by exact bg) (h2:HpW s.hp (g p0 q0):=by repeat(first |exact HpW.nil |refine HpW.cons rfl (.refl _) ?_)) (hr:∀(p:P')(q:Q'),∀K,run P N st 999 (.code c (.lp K::k) ⟨f p q++sl,g p q++hp⟩) []=some (C p q K,ob p q K):=by intros;exact rfl) (ho:∀(p:P')(q:Q'),∀K,AllP (ob p q K):=by intros;exact dk):Gd P N Q (.code (.loop c) k s):=by
 refine wP (fun n s=>∃(p:P')(q:Q'),M p q=n/\F p q/\s=⟨f p q++sl,g p q++hp⟩) (Wk.p h1 h2 hs hh) ⟨p0,q0,rfl,hF,rfl⟩ ?_;rintro n s ⟨p,q,rfl,hF,rfl⟩ K hK;exact mD (dc (hr p q K) (ho p q K) (h p q hF K (fun s1 p2 q2 h1 h2 h3=>hK s1 _ _ h3 ⟨p2,q2,rfl,h1,rfl⟩ h2))).1 (fun e s he=>by cases e <;> exact he)
theorem Fx{P' Q':Type}{c y:Code}{k k1 k2:List Fr}{c1:(AS->Prop)->Cf}{ob1:(AS->Prop)->List Prop}{c2:P'->Q'->Cf}{ob2:P'->Q'->List Prop}(ks kh:List Nat)(f:P'->Q'->c9)(g:P'->Q'->Hp)(F:P'->Q'->Prop)(h1:∀K:AS->Prop,(∀(s1:AS),∀(p:P')(q:Q'),F p q->Wk s1 ⟨f p q++sl,g p q++hp⟩->K s1)->Gd P N Q (c1 K))
  (h2:∀(p:P')(q:Q'),F p q->Gd P N Q (c2 p q)) (n:Nat:=0) (st1:Nat×Nat:=(99999,0)) (st2:Nat×Nat:=(99999,0)) (hk:pV n k=some (k1,y,k2):=by exact rfl) (hs:pk s.sl ks=some sl:=by exact rfl) (hh:pk s.hp kh=some hp:=by exact rfl) (br:∀K,run P N st1 999 (.code c (k1++.lp K::k2) s) []=some (c1 K,ob1 K):=by intros;exact rfl) (iG:∀K,AllP (ob1 K):=by intros;exact dk) (gG:∀(p:P')(q:Q'),run P N st2 999 (.code y k2 ⟨f p q++sl,g p q++hp⟩) []=some (c2 p q,ob2 p q):=by intros;exact rfl) (iz:∀(p:P')(q:Q'),AllP (ob2 p q):=by intros;exact dk):Gd P N Q (.code c k s):=by
 rw[zi hk];exact mD (dc (br (fun s=>cg P N y (dl P N Q k2) s)) (iG _) (h1 (fun s=>cg P N y (dl P N Q k2) s) (fun s1 p q hF hw=>yx hw (dc (gG p q) (iz p q) (h2 p q hF)).1))).1 (fun e s=>pX (fun s h=>h) k1 e s)
theorem mf{P' Q' R':Type}{c:Code}{C:P'->Q'->R'->(AS->Prop)->Cf}{ob:P'->Q'->R'->(AS->Prop)->List Prop}(ks kh:List Nat)(f:P'->Q'->R'->c9)(g:P'->Q'->R'->Hp)(F:P'->Q'->R'->Prop)(M:P'->Q'->R'->Nat)(p0:P')(q0:Q')(r0:R')(hF:F p0 q0 r0)
  (h:∀(p:P')(q:Q')(r:R'),F p q r->∀K:AS->Prop,(∀(s1:AS),∀(p2:P')(q2:Q')(r2:R'),F p2 q2 r2->M p2 q2 r2<M p q r->Wk s1 ⟨f p2 q2 r2++sl,g p2 q2 r2++hp⟩->K s1)->Gd P N Q (C p q r K)) (st:Nat×Nat:=(99999,0)) (hs:pk s.sl ks=some sl:=by exact rfl) (hh:pk s.hp kh=some hp:=by exact rfl)
  (h1:SlW s.sl (f p0 q0 r0):=by exact bg) (h2:HpW s.hp (g p0 q0 r0):=by repeat(first |exact HpW.nil |refine HpW.cons rfl (.refl _) ?_)) (hr:∀(p:P')(q:Q')(r:R'),∀K,run P N st 999 (.code c (.lp K::k) ⟨f p q r++sl,g p q r++hp⟩) []=some (C p q r K,ob p q r K):=by intros;exact rfl) (ho:∀(p:P')(q:Q')(r:R'),∀K,AllP (ob p q r K):=by intros;exact dk):Gd P N Q (.code (.loop c) k s):=by
 refine wP (fun n s=>∃(p:P')(q:Q')(r:R'),M p q r=n/\F p q r/\s=⟨f p q r++sl,g p q r++hp⟩) (Wk.p h1 h2 hs hh) ⟨p0,q0,r0,rfl,hF,rfl⟩ ?_;rintro n s ⟨p,q,r,rfl,hF,rfl⟩ K hK;exact mD (dc (hr p q r K) (ho p q r K) (h p q r hF K (fun s1 p2 q2 r2 h1 h2 h3=>hK s1 _ _ h3 ⟨p2,q2,r2,rfl,h1,rfl⟩ h2))).1 (fun e s he=>by cases e <;> exact he)
theorem TY{P' Q' R' T':Type}{c:Code}{C:P'->Q'->R'->T'->(AS->Prop)->Cf}{ob:P'->Q'->R'->T'->(AS->Prop)->List Prop}(ks kh:List Nat)(f:P'->Q'->R'->T'->c9)(g:P'->Q'->R'->T'->Hp)(F:P'->Q'->R'->T'->Prop)(M:P'->Q'->R'->T'->Nat)(p0:P')(q0:Q')(r0:R')(t0:T')(hF:F p0 q0 r0 t0)
  (h:∀(p:P')(q:Q')(r:R')(t:T'),F p q r t->∀K:AS->Prop,(∀(s1:AS),∀(p2:P')(q2:Q')(r2:R')(t2:T'),F p2 q2 r2 t2->M p2 q2 r2 t2<M p q r t->Wk s1 ⟨f p2 q2 r2 t2++sl,g p2 q2 r2 t2++hp⟩->K s1)->Gd P N Q (C p q r t K)) (st:Nat×Nat:=(99999,0)) (hs:pk s.sl ks=some sl:=by exact rfl) (hh:pk s.hp kh=some hp:=by exact rfl)
  (h1:SlW s.sl (f p0 q0 r0 t0):=by exact bg) (h2:HpW s.hp (g p0 q0 r0 t0):=by repeat(first |exact HpW.nil |refine HpW.cons rfl (.refl _) ?_)) (hr:∀(p:P')(q:Q')(r:R')(t:T'),∀K,run P N st 999 (.code c (.lp K::k) ⟨f p q r t++sl,g p q r t++hp⟩) []=some (C p q r t K,ob p q r t K):=by intros;exact rfl) (ho:∀(p:P')(q:Q')(r:R')(t:T'),∀K,AllP (ob p q r t K):=by intros;exact dk):Gd P N Q (.code (.loop c) k s):=by
 refine wP (fun n s=>∃(p:P')(q:Q')(r:R')(t:T'),M p q r t=n/\F p q r t/\s=⟨f p q r t++sl,g p q r t++hp⟩) (Wk.p h1 h2 hs hh) ⟨p0,q0,r0,t0,rfl,hF,rfl⟩ ?_;rintro n s ⟨p,q,r,t,rfl,hF,rfl⟩ K hK;exact mD (dc (hr p q r t K) (ho p q r t K) (h p q r t hF K (fun s1 p2 q2 r2 t2 h1 h2 h3=>hK s1 _ _ h3 ⟨p2,q2,r2,t2,rfl,h1,rfl⟩ h2))).1 (fun e s he=>by cases e <;> exact he)
theorem Us{P' Q' R' T':Type}{c y:Code}{k k1 k2:List Fr}{c1:(AS->Prop)->Cf}{ob1:(AS->Prop)->List Prop}{c2:P'->Q'->R'->T'->Cf}{ob2:P'->Q'->R'->T'->List Prop}(ks kh:List Nat)(f:P'->Q'->R'->T'->c9)(g:P'->Q'->R'->T'->Hp)(F:P'->Q'->R'->T'->Prop)(h1:∀K:AS->Prop,(∀(s1:AS),∀(p:P')(q:Q')(r:R')(t:T'),F p q r t->Wk s1 ⟨f p q r t++sl,g p q r t++hp⟩->K s1)->Gd P N Q (c1 K))
  (h2:∀(p:P')(q:Q')(r:R')(t:T'),F p q r t->Gd P N Q (c2 p q r t)) (n:Nat:=0) (st1:Nat×Nat:=(99999,0)) (st2:Nat×Nat:=(99999,0)) (hk:pV n k=some (k1,y,k2):=by exact rfl) (hs:pk s.sl ks=some sl:=by exact rfl) (hh:pk s.hp kh=some hp:=by exact rfl) (br:∀K,run P N st1 999 (.code c (k1++.lp K::k2) s) []=some (c1 K,ob1 K):=by intros;exact rfl) (iG:∀K,AllP (ob1 K):=by intros;exact dk) (gG:∀(p:P')(q:Q')(r:R')(t:T'),run P N st2 999 (.code y k2 ⟨f p q r t++sl,g p q r t++hp⟩) []=some (c2 p q r t,ob2 p q r t):=by intros;exact rfl) (iz:∀(p:P')(q:Q')(r:R')(t:T'),AllP (ob2 p q r t):=by intros;exact dk):Gd P N Q (.code c k s):=by
 rw[zi hk];exact mD (dc (br (fun s=>cg P N y (dl P N Q k2) s)) (iG _) (h1 (fun s=>cg P N y (dl P N Q k2) s) (fun s1 p q r t hF hw=>yx hw (dc (gG p q r t) (iz p q r t) (h2 p q r t hF)).1))).1 (fun e s=>pX (fun s h=>h) k1 e s)
theorem JK{P' Q' R' T' U':Type}{c:Code}{C:P'->Q'->R'->T'->U'->(AS->Prop)->Cf}{ob:P'->Q'->R'->T'->U'->(AS->Prop)->List Prop}(ks kh:List Nat)(f:P'->Q'->R'->T'->U'->c9)(g:P'->Q'->R'->T'->U'->Hp)(F:P'->Q'->R'->T'->U'->Prop)(M:P'->Q'->R'->T'->U'->Nat)(p0:P')(q0:Q')(r0:R')(t0:T')(u0:U')(hF:F p0 q0 r0 t0 u0)
  (h:∀(p:P')(q:Q')(r:R')(t:T')(u:U'),F p q r t u->∀K:AS->Prop,(∀(s1:AS),∀(p2:P')(q2:Q')(r2:R')(t2:T')(u2:U'),F p2 q2 r2 t2 u2->M p2 q2 r2 t2 u2<M p q r t u->Wk s1 ⟨f p2 q2 r2 t2 u2++sl,g p2 q2 r2 t2 u2++hp⟩->K s1)->Gd P N Q (C p q r t u K)) (st:Nat×Nat:=(99999,0)) (hs:pk s.sl ks=some sl:=by exact rfl) (hh:pk s.hp kh=some hp:=by exact rfl)
  (h1:SlW s.sl (f p0 q0 r0 t0 u0):=by exact bg) (h2:HpW s.hp (g p0 q0 r0 t0 u0):=by repeat(first |exact HpW.nil |refine HpW.cons rfl (.refl _) ?_)) (hr:∀(p:P')(q:Q')(r:R')(t:T')(u:U'),∀K,run P N st 999 (.code c (.lp K::k) ⟨f p q r t u++sl,g p q r t u++hp⟩) []=some (C p q r t u K,ob p q r t u K):=by intros;exact rfl) (ho:∀(p:P')(q:Q')(r:R')(t:T')(u:U'),∀K,AllP (ob p q r t u K):=by intros;exact dk):Gd P N Q (.code (.loop c) k s):=by
 refine wP (fun n s=>∃(p:P')(q:Q')(r:R')(t:T')(u:U'),M p q r t u=n/\F p q r t u/\s=⟨f p q r t u++sl,g p q r t u++hp⟩) (Wk.p h1 h2 hs hh) ⟨p0,q0,r0,t0,u0,rfl,hF,rfl⟩ ?_;rintro n s ⟨p,q,r,t,u,rfl,hF,rfl⟩ K hK;exact mD (dc (hr p q r t u K) (ho p q r t u K) (h p q r t u hF K (fun s1 p2 q2 r2 t2 u2 h1 h2 h3=>hK s1 _ _ h3 ⟨p2,q2,r2,t2,u2,rfl,h1,rfl⟩ h2))).1 (fun e s he=>by cases e <;> exact he)
end Go.Lw
namespace Go.Lw
open Go.Proofs
instance:Inhabited (Tys prog):=⟨⟨_,(.nd (.nd (.nd (.nd (.nd (.nd .lf T3 .lf) T4 (.nd .lf T5 .lf)) T9 (.nd (.nd .lf T22 .lf) T23 (.nd .lf T24 .lf))) T26 (.nd (.nd (.nd .lf T27 .lf) T29 (.nd .lf T33 .lf)) T35 (.nd (.nd .lf T38 .lf) T41 (.nd .lf T42 .lf)))) T44 (.nd (.nd (.nd (.nd .lf T45 .lf) T46 (.nd .lf T48 .lf)) T52 (.nd (.nd .lf T53 .lf) T55 (.nd .lf T104 .lf))) T106 (.nd (.nd (.nd .lf T115 .lf) T117 (.nd .lf T124 .lf)) T126 (.nd (.nd .lf T130 .lf) T135 .lf)))) T137 (.nd (.nd (.nd (.nd (.nd .lf T139 .lf) T141 (.nd .lf T147 .lf)) T149 (.nd (.nd .lf T151 .lf) T169 (.nd .lf T180 .lf))) T182 (.nd (.nd (.nd .lf T185 .lf) T191 (.nd .lf T200 .lf)) T239 (.nd (.nd .lf T252 .lf) T257 (.nd .lf T292 .lf)))) T301 (.nd (.nd (.nd (.nd .lf T316 .lf) T320 (.nd .lf T322 .lf)) T352 (.nd (.nd .lf T354 .lf) T355 (.nd .lf T387 .lf))) T390 (.nd (.nd (.nd .lf T429 .lf) T446 (.nd .lf T460 .lf)) T465 (.nd (.nd .lf T470 .lf) T476 .lf))))),X0⟩⟩
section
variable{P:apb}{W:apc}{H:Type}{enc:apa×ao9->H}
abbrev J7:Nat->Prop:=fun _=>False
abbrev Gw(W:apc):Nat->Array ao9->Prop:=Im J7 [] eQ W
abbrev sk(W:apc)(cs:List ao9)(xs:List AV):Prop:=eO (Gw W) (Sz W) eQ cs xs
theorem Tl{b:Nat}{c:Array ao9}{t:apa}{fr:Nat×Nat}(h:W.heap[b]?=some (.cells c t fr)):Gw W b c :=
 ⟨fun h=>h,fun⟨k,x,h,_⟩=>by(cases h),t,fr,h⟩
def d9(P:apb)(W:apc)(enc:apa×ao9->H)(t:apa){α:Type}(f:α->AV)(p:α->Prop):Prop :=
  ∀(sp:Nat->Bool)(fuel:Nat)(cs:List ao9)(x:DataW H×List MemPlace),DataW.trod enc P W 0 sp true fuel t cs=some x->(∀n∈x.1.weights P t,n<=reachBytes)->∃a,p a/\sk W cs (f a).cells
theorem yz{v:ao9}{x:AV}(h:Rep (Gw W) (Sz W) eQ v x)(h1:x.one=true):sk W [v] [x]:=by
 refine⟨rfl,fun j y hy=>?_,fun j u y hu hy=>?_⟩
 ·match j,hy with
  |0,hy=>cases hy;exact h1
 ·match j,hu,hy with
  |0,hu,hy=>cases hu;cases hy;exact h
theorem ahu{t:apa}(ht:P.underlying t=some .bool):d9 P W enc t (fun b:Bool=>AV.v (.bool b)) (fun _=>True):=by
 intro sp fuel cs x h eU;obtain⟨b,rfl,_⟩:=DataW.trod_bool ht h;exact⟨b,trivial,yz (.v _) rfl⟩
theorem MD{t:apa}{k:IntKind}(ht:P.underlying t=some (.int k)):d9 P W enc t (fun n:Int=>AV.v (.int k n)) (fun n=>(Lit.int k n).wf=true):=by
 intro sp fuel cs x h eU;obtain⟨n,rfl,_,hw⟩:=DataW.trod_int ht h;exact⟨n,hw,yz (.v _) rfl⟩
theorem Wi{t:apa}(ht:P.underlying t=some .string):d9 P W enc t (fun s:ByteArray=>AV.v (.string s)) (fun s=>s.size<=281474976710656):=by
 intro sp fuel cs x h eU;obtain⟨s,rfl,hx,hs⟩:=DataW.trod_string ht h;have h1:=eU s.data.toList.length (by rw[hx];simp[DataW.weights]);have h2:s.data.toList.length=s.size:=rfl;exact⟨s,by rw[h2]at h1;exact an4 h1 (by decide),yz (.v _) rfl⟩
theorem d9.map{α β:Type}{t:apa}{f:α->AV}{p:α->Prop}(h:d9 P W enc t f p)(g:α->β)(f':β->AV)(p':β->Prop)(hg:∀a,p a->p' (g a)/\f' (g a)=f a):d9 P W enc t f' p':=by
 intro sp fuel cs x hx eU;obtain⟨a,ha,hc⟩:=h sp fuel cs x hx eU;obtain⟨h1,h2⟩:=hg a ha;exact⟨g a,h1,by rw[h2];exact hc⟩
theorem Y3{cs:List ao9}{off n m:Nat}{xs ys:List AV}(h1:sk W ((cs.drop off).take n) xs)(hx:xs.length=n)(h2:sk W ((cs.drop (off+n)).take m) ys) :
  sk W ((cs.drop off).take (n+m)) (xs++ys):=by
 have e:(cs.drop off).take (n+m)=(cs.drop off).take n++(cs.drop (off+n)).take m:=by
  rw[List.take_add,drop_drop]
 have hl:((cs.drop off).take n).length=n:=by rw[h1.1,hx]
 rw[e];refine⟨by simp only[aoe,h1.1,h2.1],fun j y hy=>?_,fun j u y hu hy=>?_⟩
 ·rcases anu j xs.length with g |g
  ·rw[an8 g]at hy;exact h1.2.1 j y hy
  ·rw[an7 g]at hy;exact h2.2.1 _ y hy
 ·rcases anu j xs.length with g |g
  ·rw[an8 g]at hy;rw[an8 oz]at hu;exact h1.2.2 j u y hu hy
  ·rw[an7 g]at hy;rw[an7 oz,hl]at hu;exact h2.2.2 (j-n) u y hu (by rw[<- hx];exact hy)
inductive FlOk(P:apb)(W:apc)(enc:apa×ao9->H):List Field->Nat->{α:Type}->(α->List AV)->(α->Prop)->Prop
  |nil (off:Nat):FlOk P W enc [] off (fun _:Unit=>[]) (fun _=>True)
  |cons {fl:Field} {fls:List Field} {off n:Nat} {α β:Type} {f:α->AV} {p:α->Prop} {g:β->List AV} {q:β->Prop} (ho:fl.offset=off) (hn:P.cellsOf fl.type=n) (hf:d9 P W enc fl.type f p)
      (eg:∀a,(f a).cells.length=n) (hs:FlOk P W enc fls (off+n) g q):FlOk P W enc (fl::fls) off (fun z:α×β=>(f z.1).cells++g z.2) (fun z=>p z.1/\q z.2)
theorem FlOk.rep{fls:List Field}{off:Nat}{α:Type}{g:α->List AV}{q:α->Prop}(h:FlOk P W enc fls off g q){cs:List ao9}{sp:Nat->Bool}{fuel:Nat}
  (hr:∀fl∈fls,∃x,DataW.trod enc P W 0 sp true fuel fl.type ((cs.drop fl.offset).take (P.cellsOf fl.type))=some x/\∀n∈x.1.weights P fl.type,n<=reachBytes):∃a m,q a/\sk W ((cs.drop off).take m) (g a)/\m=(g a).length:=by
 induction h with
 |nil off=>exact⟨(),0,trivial,⟨by simp,fun j x hx=>by simp at hx,fun j u x hu hx=>by simp at hx⟩,rfl⟩
 | @cons fl fls off n α β f p g q ho hn hf eg hs ih =>
  obtain⟨x,hx,hwx⟩:=hr fl (aok ..);rw[ho,hn]at hx;obtain⟨a,ha,hc⟩:=hf _ _ _ _ hx hwx;obtain⟨b,m,hb,Ab,hm⟩:=ih (fun fl' h'=>hr fl' (aom _ h'));exact⟨(a,b),n+m,⟨ha,hb⟩,Y3 hc (eg a) Ab,by simp only[aoe,eg a,hm]⟩
theorem afu{t:apa}{fs:Array Field}{α:Type}{g:α->List AV}{q:α->Prop}(ht:P.underlying t=some (.struct fs))(hf:FlOk P W enc fs.toList 0 g q)(hn:∀a,(g a).length=P.cellsOf t) :
  d9 P W enc t (fun a=>.agg (g a)) q:=by
 intro sp fuel cs x h eU;obtain⟨xs,n,rfl,uJ,hl,gI,mi⟩:=DataW.trod_struct ht h
 obtain⟨a,m,ha,hc,hm⟩:=hf.rep (cs:=cs) (sp:=sp) (fuel:=n) (fun fl Dh=>by
  obtain⟨i,hi⟩:=alt Dh;have hi':fs[i]?=some fl:=by simpa using hi
  have h1:=mi i fl hi';have h2:i<xs.length:=by rw[gI];exact(Array.getElem?_eq_some_iff.1 hi').1
  refine⟨xs[i],by rw[h1,ano h2],fun k hk=>eU k ?_⟩;rw[uJ];simp only[DataW.weights,ht];exact DataW.weights_mem_each (j:=i) (by simpa using⟨fl,hi',rfl⟩) (by rw[anr,ano h2];rfl) k hk)
 refine⟨a,ha,?_⟩;rw[hm,hn a,<- hl,aov,an3]at hc;exact hc
theorem pK{t:apa}{n:Nat}{fs:Array Field}{α:Type}{g:α->List AV}{q:α->Prop}(ht:P.underlying t=some (.struct fs))(hc:P.cellsOf t=n)(hf:FlOk P W enc fs.toList 0 g q)(hn:∀a,(g a).length=n) :
  d9 P W enc t (fun a=>.agg (g a)) q:=afu ht hf (fun a=>(hn a).trans hc.symm)
theorem Je{α:Type}{q:Nat->α->Prop}:∀(n:Nat),(∀i,i<n->∃a,q i a)->∃l:List α,l.length=n/\∀i a,l[i]?=some a->q i a
 |0,_=>⟨[],rfl,fun i a h=>by simp at h⟩
 |n+1,h=>by
  obtain⟨l,h1,h2⟩:=Je n (fun i hi=>h i oz);obtain⟨a,ha⟩:=h n oz;refine⟨l++[a],by simp[h1],fun i b hb=>?_⟩;rcases anu i l.length with g |g
  ·rw[an8 g]at hb;exact h2 i b hb
  ·rw[an7 g]at hb
   have hi:i-l.length=0:=by
    rcases akx (i-l.length)with g |g
    ·exact g
    ·rw[an2 (by simp only[an0,aoa];omega)]at hb;cases hb
   rw[hi]at hb;cases hb;have:i=n:=by omega
   rw[this];exact ha
theorem Sk{a:Addr}{v:ao9}(h:W.cell? a=some v):∃b off,a=⟨b,off,none⟩:=by
 obtain⟨b,off,s⟩:=a;unfold World.cell? at h;split at h
 ·cases s with
  |none=>exact⟨b,off,rfl⟩
  |some s=>simp at h
 ·cases h
theorem Mw{b off:Nat}{v:ao9}(h:W.cell? ⟨b,off,none⟩=some v):∃c t fr,W.heap[b]?=some (.cells c t fr)/\c[off]?=some v:=by
 unfold World.cell? at h;split at h
 ·rename_i c t fr hb;exact⟨c,t,fr,hb,by simpa using h⟩
 ·cases h
theorem Pm{e:apa}:∀{l:List (DataW H)}{d:DataW H},d∈l->∀n∈d.weights P e,n∈DataW.weightsAll P e l
 |x::l,d,hd,n,hn=>by
  simp only[DataW.weightsAll,anz];rcases an9.1 hd with rfl |hd
  ·exact .inl hn
  ·exact .inr (Pm hd n hn)
theorem wm{t e:apa}{n:Nat}{α:Type}{f:α->AV}{p:α->Prop}(ht:P.underlying t=some (.slice e))(hc:P.cellsOf e=n)(hn:0<n)(Q5:aks 0 (P.bytesOf e)=true)(mi:d9 P W enc e f p)(eg:∀a,(f a).cells.length=n) :
  d9 P W enc t (fun l:List α=>.lst n (l.map f)) (fun l=>(∀a∈l,p a)/\l.length<=281474976710656):=by
 intro sp fuel cs x h eU;rcases DataW.trod_slice ht h with⟨rfl,_⟩ |⟨a,len,cap,elems,rest,m,_,rfl,uJ,_,hl,hm,bK,hE,_,_⟩
 ·exact⟨[],⟨fun a ha=>by(cases ha),ans _⟩,yz (.lst0 _ _ _) rfl⟩
 ·obtain⟨l,kI,hq⟩:=Je (q:=fun i a'=>p a'/\∃cs',W.cells? 0 (a.add (i*n)) n=some cs'/\sk W cs' (f a').cells) len (fun i hi=>by
   have h1:=hE i hi;rw[hc,ano oz,Option.bind_eq_some_iff]at h1;obtain⟨cs',h2,h3⟩:=h1
   obtain⟨a',ha,hc'⟩:=mi _ _ _ _ h3 (fun k hk=>eU k (by
    rw[uJ];simp only[DataW.weights,ht];exact aom _ (List.mem_append_left _ (Pm (al0.2 ⟨_,ali (by omega:i<elems.length),rfl⟩) k hk))))
   exact⟨a',ha,cs',h2,hc'⟩)
  have hcm:len<=281474976710656:=by
   have h1:=eU ((elems.length+rest.length)*P.bytesOf e) (by
    rw[uJ];simp only[DataW.weights,ht,anl];exact aok ..)
   rw[aj6]at Q5;have h2:elems.length+rest.length<=(elems.length+rest.length)*P.bytesOf e:=Nat.le_mul_of_pos_right _ Q5;have h3:reachBytes<=281474976710656:=by decide
   omega
  refine⟨l,⟨fun a' ha=>?_,by omega⟩,yz ?_ rfl⟩
  ·obtain⟨i,hi⟩:=alt ha;exact(hq i a' hi).1
  ·by_cases h0:len=0
   ·subst h0;have:l=[]:=alb kI;subst this;exact .lst0 _ _ _
   ·-- the block
    have gj:∀(i j:Nat)(e' c':AV),(l.map f)[i]?=some e'->e'.cells[j]?=some c'->∃v,W.cell? ((a.add (i*n)).add j)=some v/\Rep (Gw W) (Sz W) eQ v c':=by
     intro i j e' c' he hc';rw[anr,ann]at he;obtain⟨a',ha,rfl⟩:=he;obtain⟨_,cs',h2,h3⟩:=hq i a' ha;obtain⟨_,h4,h5⟩:=World.cells?_some h2;have hj:j<n:=by rw[<- eg a'];exact(alj.1 hc').1
     have h6:=h5 j hj;rw[ano oz]at h6;exact⟨_,h6,h3.2.2 j _ c' (ano oz) hc'⟩
    obtain⟨a0,ha0⟩:∃a0,l[0]?=some a0:=⟨l[0]'oz,ano oz⟩
    obtain⟨c0,rj⟩:∃c0,(f a0).cells[0]?=some c0:=⟨(f a0).cells[0]'(by rw[eg];omega),ano (by rw[eg];omega)⟩
    obtain⟨v0,o9,_⟩:=gj 0 0 _ _ (by rw[anr,ha0];rfl) rj;have e0:(a.add (0*n)).add 0=a:=by simp[Addr.add]
    rw[e0]at o9;obtain⟨b,off,rfl⟩:=Sk o9;obtain⟨c,t',fr,hb,_⟩:=Mw o9;have Q6:(l.map f).length=len:=by rw[anl,kI]
    have iT:∀(i j:Nat)(e' c':AV),(l.map f)[i]?=some e'->e'.cells[j]?=some c'->∃v,c[off+i*n+j]?=some v/\Rep (Gw W) (Sz W) eQ v c':=by
     intro i j e' c' he hc';obtain⟨v,hv,hr⟩:=gj i j e' c' he hc';rw[mG,mG]at hv;obtain⟨c2,t2,Fe,bJ,j7⟩:=Mw hv;rw[hb]at bJ;cases bJ;exact⟨v,j7,hr⟩
    have:=Rep.lst (g:=Gw W) (S:=Sz W) (m:=eQ) (b:=b) (off:=off) (cap:=cap) (sz:=n) (es:=l.map f) (cs:=c) (fun i j=>c.getD (off+i*n+j) undef) (Tl hb) oz (by rw[Q6]; exact hcm)
     (fun i e' he=>by
      rw[anr,ann]at he;obtain⟨a',_,rfl⟩:=he;exact eg a')
     (fun i j e' c' he hc'=>by
      rw[anr,ann]at he;obtain⟨a',ha,rfl⟩:=he;obtain⟨_,cs',_,h3⟩:=hq i a' ha;exact h3.2.1 j c' hc')
     (fun i j e' c' he hc'=>by
      obtain⟨v,hv,_⟩:=iT i j e' c' he hc';rw[anv,hv];rfl)
     (fun i j e' c' he hc'=>by
      obtain⟨v,hv,hr⟩:=iT i j e' c' he hc';rw[anv,hv];exact hr)
    rwa [Q6]at this
theorem Ts{t:apa}{fs:Array Field}{α:Type}{g:α->List AV}{q:α->Prop}{v:ao9}{d:DataW H}{ps:List MemPlace}{sp:Nat->Bool}{b0:Nat}(ht:P.underlying t=some (.struct fs))
  (ho:d9 P W enc t (fun a=>.agg (g a)) q) (mh:Value.okWide P W .any b0 t v) (hd:DataW.Trod enc P W 0 sp true t v d ps) (eU:∀n∈d.weights P t,n<=reachBytes):∃a,q a/\Rep (Gw W) (Sz W) eQ v (.agg (g a)):=by
 unfold Value.okWide at mh;rw[ht]at mh;obtain⟨cs,rfl,_,_⟩:=mh;obtain⟨fuel,hf⟩:=hd;obtain⟨a,ha,hc⟩:=ho _ _ _ _ hf eU;exact⟨a,ha,.agg (by have:=hc.1;simpa[Value.cells,AV.cells]using this) (fun j c h=>hc.2.1 j c h) (fun j u c hu h=>hc.2.2 j u c (by simpa[Value.cells]using hu) h)⟩
theorem lR.calls{f:FuncId}{args:List AV}{b:Bool}(h:lR P f args (.v (.bool b))){vs:Array ao9}(hn:vs.size=args.length)
  (hr:∀(j:Nat) v x,vs[j]?=some v->args[j]?=some x->Rep (Gw W) (Sz W) eQ v x) :
  Calls P f vs W fun e W'=>e=.returned (.bool b)/\RowKit.Below W.heap.size W W':=by
 have h0:=h.ret J7 eQ W vs (fun b h=>h.elim) ⟨fun k x h=>by(cases h),fun k k' x x' b h=>by(cases h),fun k x b h=>by(cases h)⟩ hn hr;refine h0.mono (fun e W' ⟨v,m',he,hf,_,_,_,hv⟩=>?_);cases hv;refine⟨he,hf.os,hf.tape,hf.output,hf.size,fun k hk=>hf.keep k hk ?_⟩;rintro⟨k',x,h9,_⟩;cases h9
open Go.ChangeShapes in
theorem agt{f:Func}{s:ChangeSpec}{apart fresh handsOn again:Bool}{W':apc}{args:Array ao9}{v:ao9}{ds gs:List (DataW H)}{before:List MemPlace}
  (hW:DataW.Whole enc P f.params.toList s.vars apart W args.toList ds gs before) (dG:s.vars=[]) (hgs:gs=[])
  (mr:∀(b:Nat)(sp:Nat->Bool)(hd:Bool),DataW.TrodAll enc P W' b sp hd f.resultTypes.toList (v.resultList f.resultTypes.size) (s.fn H (ds++gs)).results [])
  (ta:∀sp:Nat->Bool,(∀p∈before,sp p.block=true)->DataW.TrodAll enc P W' 0 sp true f.params.toList args.toList (s.fn H (ds++gs)).args before)
  (o9:(s.fn H (ds++gs)).vars=[]) (hb:RowKit.Below W.heap.size W W')
  (ci:∀(j:Nat)(t:apa)(r:ao9),f.resultTypes[j]?=some t->(v.resultList f.resultTypes.size)[j]?=some r->Value.okWide P W' .any 0 t r) :
  s.post enc P f apart fresh handsOn again W args v W':=by
 have hlt:=fun p hp=>hW.lt p hp
 have HQ:∀p∈before,(fun b=>decide (b<W.heap.size)) p.block=true:=fun p hp=>by simpa using hlt p hp
 have Q7:∀sp:Nat->Bool,DataW.TrodVars enc P W' sp s.vars (s.fn H (ds++gs)).vars []:=fun sp=>by rw[dG,o9];rfl
 refine⟨ds,gs,before,[],before,[],hW,mr _ _ _,ta _ HQ,Q7 _,World.keptBut_mono (fun p hp=>⟨hp,Or.inr (by simpa using hp)⟩) (hb.frame (·∈before)),fun _=>?_⟩;obtain⟨_,_,_,_,_,hz,hn⟩:=hW;refine⟨ci,_,_,([]++before)++[],⟨[]++before,[],trodAll_append (ta _ (fun _ _=>rfl)) (mr _ _ _),Q7 _,rfl,?_,?_⟩,?_⟩
 ·intro b off hp;have hp':MemPlace.cell b off∈before:=by simpa using hp
  rw[hb.frozen (hlt _ hp')];exact hz b off hp'
 ·intro ha;simpa using hn ha
 ·intro p hp _;simpa using hp
end
theorem pZ{l:List Nat}{i x:Nat}(h:i<l.length):val ((l.set i x).take (i+1))=val (l.take i)+4294967296^i*x:=by
 rw[Kh (x:=x) (by simp[h]),List.take_set_of_le (anp _)]
theorem jm{l:List Nat}{i x:Nat}(h:Ws l)(hx:x<4294967296):Ws (l.set i x):=by
 intro y hy;rcases ala hy with h1 |h1
 ·exact h y h1
 ·omega
theorem qj(n:Nat):Ws (als n 0):=fun x hx=>by rw[(ak4.1 hx).2];omega
theorem xR:Ws []:=fun _ h=>nomatch h
theorem jz{l:List Nat}(h:Ws l)(n:Nat):Ws (l.take n):=fun x hx=>h x (aot hx)
theorem yY{x:Nat}(h:x<4294967296):Ws [x]:=fun y hy=>by rw[alr.1 hy];exact h
structure Wh where
  neg:Bool
  mag:List Nat
namespace Wh
def valid(w:Wh):Bool:=if w.mag=[]then !w.neg else w.mag.getLast? != some 0
def m(w:Wh):List Nat:=if w.valid then w.mag else[]
def n(w:Wh):Bool:=w.valid&&w.neg
def z(w:Wh):Int:=if w.n then -(val w.m:Int)else val w.m
def av(w:Wh):AV:=.agg [bl w.neg,ws w.mag]
def ok(w:Wh):Prop:=Ws w.mag/\w.mag.length<=bb
end Wh
def sgn(b:Bool)(n:Nat):Int:=if b then -(n:Int)else n
def ofInt(z:Int):Wh:=⟨decide (z<0),ofNat z.natAbs⟩
def zA(z:Int):AV:=(ofInt z).av
theorem Wh.nz(w:Wh):Nz w.m:=by
 unfold Wh.m Wh.valid;intro x hx
 by_cases h:w.mag=[]
 ·rw[h]at hx;split at hx <;> simp at hx
 ·rw[aoy h]at hx;split at hx
  ·next h'=>rw[hx]at h';simpa using h'
  ·simp at hx
theorem Wh.ws{w:Wh}(h:w.ok):Ws w.m:=by
 unfold Wh.m;split
 ·exact h.1
 ·exact xR
theorem Wh.m_le{w:Wh}:w.m.length<=w.mag.length:=by
 unfold Wh.m;split <;> simp
theorem Wh.ofNat_m{w:Wh}(h:w.ok):ofNat (val w.m)=w.m:=vW (Wh.ws h) w.nz
theorem Wh.n_val{w:Wh}(hn:w.n=true):val w.m≠0:=by
 have h1:w.m≠[]:=by
  intro h0;unfold Wh.n at hn;rw[anq]at hn;unfold Wh.m at h0;rw[aoz hn.1]at h0;have:=hn.1;unfold Wh.valid at this;rw[aoz h0,hn.2]at this;cases this
 have:=tL w.nz h1;omega
theorem Wh.n_eq{w:Wh}:w.n=decide (w.z<0):=by
 unfold Wh.z;cases h:w.n with
 |true=>have:=Wh.n_val h;simp;omega
 |false=>simp
theorem Wh.abs{w:Wh}:w.z.natAbs=val w.m:=by
 unfold Wh.z;split <;> omega
theorem Wh.z_eq{w:Wh}:w.z=sgn w.n (val w.m):=rfl
theorem Lt(z:Int):(ofInt z).valid=true:=by
 unfold ofInt Wh.valid;dsimp only;split
 ·next h =>
  have h1:=cT z.natAbs;rw[h]at h1;have:z=0:=by simp[val]at h1;omega
  subst this;rfl
 ·next h =>
  have:=wK z.natAbs;cases hl:(ofNat z.natAbs).getLast? with
  |none=>rfl
  |some x=>have:=this x hl;simp[this]
theorem aaf(z:Int):(ofInt z).m=ofNat z.natAbs:=by unfold Wh.m;rw[aoz (Lt z)];rfl
theorem aah(z:Int):(ofInt z).n=decide (z<0):=by unfold Wh.n;rw[Lt z];rfl
theorem ft(z:Int):(ofInt z).z=z:=by
 unfold Wh.z;rw[aah,aaf,cT];split
 ·next h=>simp at h;omega
 ·next h=>simp at h;omega
def Lz(k:Nat)(z:Int):Prop:=z.natAbs<4294967296^k
theorem Lz.len{k:Nat}{z:Int}(h:Lz k z):(ofNat z.natAbs).length<=k:=ir h
theorem Wh.lz{w:Wh}(h:w.ok):Lz w.mag.length w.z:=by
 unfold Lz;rw[Wh.abs];have h1:=cR w.m (Wh.ws h);exact an5 h1 (akl oz Wh.m_le)
theorem Lz.mono{k l:Nat}{z:Int}(h:Lz k z)(hk:k<=l):Lz l z:=an5 h (akl oz hk)
theorem Lz.add{k l:Nat}{x y:Int}(h:Lz k x)(h':Lz l y):Lz (max k l+1) (x+y):=by
 have h1:=h.mono (Nat.le_max_left k l);have h2:=h'.mono (Nat.le_max_right k l);unfold Lz at *;rw[ajq];have:=Int.natAbs_add_le x y;omega
theorem Lz.neg{k:Nat}{x:Int}(h:Lz k x):Lz k (-x):=by unfold Lz at *;omega
theorem Lz.sub{k l:Nat}{x y:Int}(h:Lz k x)(h':Lz l y):Lz (max k l+1) (x-y):=Int.sub_eq_add_neg▸h.add h'.neg
theorem Lz.mul{k l:Nat}{x y:Int}(h:Lz k x)(h':Lz l y):Lz (k+l) (x*y):=by
 unfold Lz at *;rw[al3,aoo];exact akr h h'
theorem Lz.of_le{k:Nat}{x y:Int}(h:Lz k x)(h':y.natAbs<=x.natAbs):Lz k y:=aog h' h
theorem zO{a b:List Nat}(ha:Ws a)(hb:Nz b)(h:a.length<b.length):val a<val b:=by
 have h1:=cR a ha;have ow:b≠[]:=by intro h0;rw[h0]at h;simp at h
 have h2:∃c x,b=c++[x]:=⟨b.dropLast,b.getLast ow,(ak2 ow).symm⟩
 obtain⟨c,x,rfl⟩:=h2;have hx:x≠0:=hb x (by simp);rw[vN];simp at h;have h3:4294967296^a.length<=4294967296^c.length:=akl oz oz;have h4:4294967296^c.length*1<=4294967296^c.length*val [x]:=ant _ (by simp[val];omega);omega
theorem Nu{a b:List Nat}{i:Nat}(ha:Ws a)(hx:an a i<an b i):val (a.take (i+1))<val (b.take (i+1)):=by
 rw[eD,eD];have h1:=cR (a.take i) (jz ha i);have h2:4294967296^(a.take i).length<=4294967296^i:=akl oz (by simp;omega);have h3:4294967296^i*(an a i+1)<=4294967296^i*an b i:=ant _ hx;rw[akc,Nat.mul_one]at h3;omega
theorem zT(l:List Nat)(i:Nat):val l=val (l.take i)+4294967296^(min i l.length)*val (l.drop i):=by
 conv=>lhs;rw[<- alg i l]
 rw[vN,an6]
theorem JL{a b:List Nat}{i:Nat}(ha:Ws a)(hl:a.length=b.length)(hi:i<a.length)(he:a.drop (i+1)=b.drop (i+1))(hx:an a i<an b i):val a<val b:=by
 rw[zT a (i+1),zT b (i+1),he,hl];have:=Nu ha hx;omega
theorem ET{o c P x y u w:Nat}(h:o+c*P=x+y) :
  (o+P*((c+(u+w))%4294967296))+((c+(u+w))/4294967296)*(P*4294967296)=(x+P*u)+(y+P*w):=by
 have:=akq (c+(u+w)) 4294967296;generalize(c+(u+w))%4294967296=r at *;generalize(c+(u+w))/4294967296=q at *;grind
theorem LM{a b out:List Nat}{c n:Nat}(ha:Ws a)(hb:Ws b)(hn:n=max a.length b.length+1)(ho:out.length=n)
  (h:val (out.take n)+c*4294967296^n=val (a.take n)+val (b.take n)):val out=val a+val b:=by
 rw[gX oz,gX oz,gX oz]at h;have h1:=cR a ha;have h2:=cR b hb;have h3:4294967296^a.length<=4294967296^max a.length b.length:=akl oz oz;have h4:4294967296^b.length<=4294967296^max a.length b.length:=akl oz oz;subst hn;rw[ajq]at h;cases c with
 |zero=>omega
 |succ c =>
  rw[aj9]at h;omega
theorem JU{o c P x y u w:Nat}(hu:u<4294967296)(hw:w<4294967296)(hc:c<=1)(h:o+y=x+c*P) :
  let d:=if w+c<=u then u-w-c else u+18446744073709551616-w-c
  (o+P*(d%4294967296))+(y+P*w)=(x+P*u)+(d/2^63)*(P*4294967296):=by
 intro d
 have h0:d%4294967296+w+c=u+(d/2^63)*4294967296:=by
  show d%4294967296+w+c=_
  by_cases h1:w+c<=u
  ·rw[show d=u-w-c from aoz h1];omega
  ·rw[show d=u+18446744073709551616-w-c from aoy h1];omega
 generalize d/2^63=q at *;generalize d%4294967296=r at *;grind
theorem TZ{a b out:List Nat}{c:Nat}(ha:Ws out)(ho:out.length=a.length)(cF:val b<=val a)(dU:b.length<=a.length)
  (h:val (out.take a.length)+val (b.take a.length)=val (a.take a.length)+c*4294967296^a.length):val out=val a-val b:=by
 rw[gX oz,gX oz,gX oz]at h;have h1:=cR out ha;rw[ho]at h1;cases c with
 |zero=>omega
 |succ c=>rw[aj9]at h;omega
theorem yf{x y:Nat}(hx:x<18446744073709551616)(hy:y<18446744073709551616):tE .or .u64 (x:Int) (y:Int)=((x ||| y:Nat):Int):=by
 show IntKind.u64.wrap (((BitVec.ofInt 64 (x:Int)) ||| (BitVec.ofInt 64 (y:Int))).toNat:Int)=_;simp only[BitVec.toNat_or,BitVec.ofInt_natCast,BitVec.toNat_ofNat];rw[aj4 oz,aj4 oz];exact u64_in (Nat.or_lt_two_pow (n:=64) hx hy)
theorem Fy{x y:Nat}(hx:x<4294967296)(hy:y<4294967296):tE .or .u32 (x:Int) (y:Int)=((x ||| y:Nat):Int):=by
 show IntKind.u32.wrap (((BitVec.ofInt 32 (x:Int)) ||| (BitVec.ofInt 32 (y:Int))).toNat:Int)=_;simp only[BitVec.toNat_or,BitVec.ofInt_natCast,BitVec.toNat_ofNat];rw[aj4 oz,aj4 oz];exact u32_in (Nat.or_lt_two_pow (n:=32) hx hy)
theorem Pi{x y:Nat}(hx:x<4294967296)(hy:y<4294967296):tE .and .u32 (x:Int) (y:Int)=((x &&& y:Nat):Int):=by
 show IntKind.u32.wrap (((BitVec.ofInt 32 (x:Int)) &&& (BitVec.ofInt 32 (y:Int))).toNat:Int)=_;simp only[BitVec.toNat_and,BitVec.ofInt_natCast,BitVec.toNat_ofNat];rw[aj4 oz,aj4 oz];exact u32_in (aog Nat.and_le_left hx)
theorem xy{q y n:Nat}(hy:y<2^n):q*2^n ||| y=q*2^n+y:=by
 rw[ajt,Nat.two_pow_add_eq_or_of_lt hy]
theorem DT{q y n:Nat}(hy:y<2^n):y ||| q*2^n=y+q*2^n:=by
 rw[Nat.or_comm,xy hy,ajw]
theorem v7{x n:Nat}(hn:n<=64)(h:x*2^n<18446744073709551616):IntKind.u64.wrap ((x:Int)*2^(min (n:Int).toNat IntKind.u64.bits))=((x*2^n:Nat):Int):=by
 have:min (n:Int).toNat IntKind.u64.bits=n:=by simp[IntKind.bits];omega
 rw[this,show(x:Int)*2^n=((x*2^n:Nat):Int) by simp,u64_in h]
theorem QB{x n:Nat}(hn:n<=32):IntKind.u32.wrap ((x:Int)*2^(min (n:Int).toNat IntKind.u32.bits))=((x*2^n%4294967296:Nat):Int):=by
 have:min (n:Int).toNat IntKind.u32.bits=n:=by simp[IntKind.bits];omega
 rw[this,show(x:Int)*2^n=((x*2^n:Nat):Int) by simp,ff]
theorem u4(x n:Nat)(hn:n<=32):(x:Int).fdiv (2^(min (n:Int).toNat IntKind.u32.bits))=((x/2^n:Nat):Int):=by
 have:min (n:Int).toNat IntKind.u32.bits=n:=by simp[IntKind.bits];omega
 rw[this,al4 _ (Int.le_of_lt (Int.pow_pos (by decide)))];simp
theorem JG{x y:Nat}(hx:x<18446744073709551616):IntKind.u64.wrap ((x:Int).tdiv y)=((x/y:Nat):Int):=by
 rw[<- Int.ofNat_tdiv,u64_in (aog (akd _ _) hx)]
theorem Lq{x y:Nat}:(x:Int).tmod y=((x%y:Nat):Int):=(Int.ofNat_tmod _ _).symm
theorem Fn:∀{l:List Nat}{i x:Nat},i<l.length->val (l.set i x)+4294967296^i*an l i=val l+4294967296^i*x
 |a::l,0,x,_=>by simp[val,an];omega
 |a::l,i+1,x,h=>by
  have ih:=Fn (l:=l) (i:=i) (x:=x) (by simpa using h);simp only[List.set_cons_succ,val];have hw:an (a::l) (i+1)=an l i:=by simp[an]
  rw[hw,ajq];grind
theorem K0{l:List Nat}{i n x:Nat}(h:i<l.length)(hn:i<n):val ((l.set i x).take n)+4294967296^i*an l i=val (l.take n)+4294967296^i*x:=by
 rw[List.take_set];have h1:an (l.take n) i=an l i:=by simp[an,hn]
 rw[<- h1];exact Fn (by simp;omega)
theorem Nw{o o' c V P u y w S:Nat}(ho:o'+P*w=o+P*(S%4294967296))(hS:S=c+(u*y+w))(h:o+c*P=V) :
  o'+(S/4294967296)*(P*4294967296)=V+P*(u*y):=by
 have:=akq S 4294967296;generalize S%4294967296=r at *;generalize S/4294967296=q at *;subst hS;grind
theorem AE{x y:Nat}(hx:x<4294967296)(hy:y<4294967296):x*y<=18446744065119617025:=by
 have:=akw (show x<=4294967295 by omega) (show y<=4294967295 by omega);omega
theorem abx{l:List Nat}{i:Nat}(h:i<l.length):l.drop i=an l i::l.drop (i+1):=by
 rw[alq h];congr 1;have:=ni h;rw[ano h]at this;exact Option.some.inj this
theorem wt{l:List Nat}{i:Nat}(h:i<l.length):val (l.drop i)=an l i+4294967296*val (l.drop (i+1)):=by
 rw[abx h];rfl
theorem JP{l:List Nat}{i x:Nat}(h:i<l.length):val ((l.set i x).drop i)=x+4294967296*val (l.drop (i+1)):=by
 rw[wt (by simpa using h)];have h1:an (l.set i x) i=x:=by simp[an,h]
 have h2:(l.set i x).drop (i+1)=l.drop (i+1):=by rw[List.drop_set_of_lt oz]
 rw[h1,h2]
theorem aD.own1{s:AS}{k d sz off len:Nat}{es es':List AV}(h:lk s.hp k=some (.row sz es))(hd:aks d 1000=true)(he:es=es') :
  aD s (fu [.ms k sz off len]) (.ms d sz off len) [(d,some (.row sz es'))]:=by
 subst he;rw[aj6]at hd;intro ext m w v hh hext hx
 have eJ:∀(k':Nat)(z:Blk),lk [(d,some (Blk.row sz es))] k'=some z->k'=d/\z=.row sz es:=by
  intro k' z hz;rw[a5]at hz;split at hz
  ·rename_i h1;cases hz;exact⟨h1,rfl⟩
  ·cases hz
 have ef:=gQ (ext:=ext) (Frame.refl (bj s.hp m) w) (hp':=[(d,some (.row sz es))]) (m':=fun x=>if x=d then m k else none) (by
  intro k' z b hz hb;obtain⟨rfl,rfl⟩:=eJ k' z hz;have hb':(if k'=k' then m k else none)=some b:=hb;rw[aoz rfl]at hb';exact .inl ⟨k,_,h,hb'⟩)
 refine⟨fun x=>if x=d then m k else none,⟨?_,?_,?_⟩,?_,?_,?_⟩
 ·intro k' z hz;obtain⟨rfl,rfl⟩:=eJ k' z hz;rw[aoz rfl];have h1:BlkRep (Im ext s.hp m w) (Sz w) m w (m k) (.row sz es):=hh.blk k _ h
  revert h1
  generalize g9:m k=o
  suffices h2:∀o,BlkRep (Im ext s.hp m w) (Sz w) m w o (.row sz es)->BlkRep (Im ext [(k',some (.row sz es))] (fun x=>if x=k' then m k else none) w) (Sz w) (fun x=>if x=k' then m k else none) w o (.row sz es) by
   rw[g9]at h2;exact h2 o
  clear g9 o;intro o h1;cases h1 with
  |none=>exact .none _
  |row hw hn hl hs h1 hr=>exact .row hw hn hl hs h1 (fun i j e u x he hx hu=>(hr i j e u x he hx hu).mono ef (fun _ _ h=>h) (fun _ _ _ h=>h))
 ·intro k1 k2 z z' b h1 h2 _ _;rw[(eJ _ _ h1).1,(eJ _ _ h2).1]
 ·intro k' z b hz hb;obtain⟨rfl,rfl⟩:=eJ k' z hz;have hb':(if k'=k' then m k else none)=some b:=hb;rw[aoz rfl]at hb';exact hh.sep k _ b h hb'
 ·intro k' z b hz hb;obtain⟨rfl,rfl⟩:=eJ k' z hz;have hb':(if k'=k' then m k else none)=some b:=hb;rw[aoz rfl]at hb';exact⟨k,_,h,hb'⟩
 ·intro k' z hk hz;obtain⟨rfl,rfl⟩:=eJ k' z hz;omega
 ·cases hx with
  |ms0 a=>exact .ms0 a _ _ _
  |ms hm hc hS=>exact .ms (by simp;exact hm) hc hS
theorem bW{k:Nat}{x:Option Blk}{z:Blk}(h:lk [(1000,x)] k=some z):1000<=k:=by
 rw[a5]at h;split at h
 ·omega
 ·cases h
def bF:Nat->Nat->List Nat
  |0,_=>[]
  |k+1,v=>v%4294967296::bF k (v/4294967296)
theorem ic:∀k v,(bF k v).length=k
 |0,_=>rfl
 |k+1,v=>by simp[bF,ic k]
theorem n8:∀k v,Ws (bF k v)
 |0,_=>xR
 |k+1,v=>by
  intro x hx;rcases an9.1 hx with h |h
  ·omega
  ·exact n8 k _ x h
theorem pU:∀k v,v<4294967296^k->val (bF k v)=v
 |0,v,h=>by simp at h;subst h;rfl
 |k+1,v,h=>by
  rw[ajq]at h;simp only[bF,val];rw[pU k _ oz];omega
theorem zg:∀(l:List Nat),Ws l->l=bF l.length (val l)
 |[],_=>rfl
 |x::l,h=>by
  have hx:=h x (by simp);have ih:=zg l (fun y hy=>h y (by simp[hy]));simp only[an0,bF,val];rw[show(x+4294967296*val l)%4294967296=x by omega,show(x+4294967296*val l)/4294967296=val l by omega,<- ih]
theorem Bb{l:List Nat}{k v:Nat}(h:Ws l)(hk:l.length=k)(hv:val l=v):l=bF k v:=by
 subst hk;subst hv;exact zg l h
theorem A8{l:List Nat}(h:Ws l)(i:Nat)(hi:i<=l.length):val l/4294967296^i=val (l.drop i):=by
 rw[zT l i,aj1 hi];have h1:=cR (l.take i) (jz h i);rw[an6,aj1 hi]at h1;rw[ako _ _ oz,Nat.div_eq_of_lt h1,akv]
theorem A4{n k:Nat}(h:n<=k):2^k=2^(k-n)*2^n:=by rw[<- aoo];congr 1;omega
theorem W3{x w n:Nat}(hn:n<32)(hw:w<2^n):w ||| x*2^n%4294967296=w+x*2^n%4294967296:=by
 have h1:x*2^n%4294967296=(x%2^(32-n))*2^n:=by
  rw[show 4294967296=2^32 from rfl,A4 (show n<=32 by omega),Nat.mul_mod_mul_right]
 rw[h1];exact DT hw
theorem SR{x n:Nat}(hx:x<4294967296):x*2^n/4294967296<2^n:=by
 rw[ajz oz,ajt];exact Nat.mul_lt_mul_of_pos_left hx (aki oz)
theorem tJ{n k:Nat}(h:n<=k):2^n<=2^k:=akl oz h
theorem UE{x w n:Nat}(hn:n<32)(hw:w<2^n):w+x*2^n%4294967296<4294967296:=by
 have h1:x*2^n%4294967296=(x%2^(32-n))*2^n:=by
  rw[show 4294967296=2^32 from rfl,A4 (show n<=32 by omega),Nat.mul_mod_mul_right]
 have h2:x%2^(32-n)+1<=2^(32-n):=akz _ (aki oz);have h3:=aod (2^n) h2;rw[<- A4 (show n<=32 by omega),akk]at h3;omega
theorem VP{a out:List Nat}{i n:Nat}(hi:i+1<out.length)(h:val (out.take (i+1))=2^n*val (a.take i)) :
  val (((out.set i (an out i+an a i*2^n%4294967296)).set (i+1) (an a i*2^n/4294967296)).take (i+1+1))=2^n*val (a.take (i+1)):=by
 rw[pZ (by simpa using hi),pZ oz,eD (l:=a)];rw[eD]at h;have:=akq (an a i*2^n) 4294967296;generalize an a i*2^n%4294967296=r at *;generalize an a i*2^n/4294967296=q at *;rw[ajq];grind
theorem TW{a:List Nat}{i n:Nat}(h:Ws a)(hi:i<a.length)(hn:n<=32) :
  (an a i+an a (i+1)*2^32)/2^n%4294967296=(val a/2^n/4294967296^i)%4294967296:=by
 rw[aj7,ajt (2^n),<- aj7,A8 h i oz,wt hi]
 have h1:val (a.drop (i+1))=an a (i+1)+4294967296*val (a.drop (i+2)):=by
  rcases anu (i+1) a.length with h |h
  ·exact wt h
  ·rw[vM h,aoi oz,aoi oz];rfl
 rw[h1];generalize val (a.drop (i+2))=R
 have h2:an a i+4294967296*(an a (i+1)+4294967296*R)=(an a i+an a (i+1)*2^32)+2^n*(2^(32-n)*R*4294967296):=by
  have h3:=A4 hn;rw[show(2:Nat)^n*(2^(32-n)*R*4294967296)=(2^(32-n)*2^n)*R*4294967296 by grind,<- h3];omega
 rw[h2,ako _ _ (aki oz),Nat.add_mul_mod_self_right]
theorem Kz{a out:List Nat}{i n:Nat}(h:Ws a)(hi:i<a.length)(ho:i<out.length)(hn:n<=32)(hv:val (out.take i)=val a/2^n%4294967296^i) :
  val ((out.set i ((an a i+an a (i+1)*2^32)/2^n%4294967296)).take (i+1))=val a/2^n%4294967296^(i+1):=by
 rw[pZ ho,TW h hi hn,ajq,Nat.mod_mul,hv]
theorem VE{a out:List Nat}{n:Nat}(h:Ws a)(ho:out.length=a.length)(hv:val (out.take a.length)=val a/2^n%4294967296^a.length):val out=val a/2^n:=by
 rw[gX oz]at hv;rw[hv,aj4];exact aog (akd _ _) (cR a h)
theorem Sd{a o:List Nat}{i r w:Nat}(hi:i<a.length)(ho:i<o.length)(h:val (a.drop (i+1))=w*val (o.drop (i+1))+r) :
  val (a.drop i)=w*val ((o.set i ((r*2^32+an a i)/w)).drop i)+(r*2^32+an a i)%w:=by
 rw[JP ho,wt hi,h];have:=akq (r*2^32+an a i) w;generalize(r*2^32+an a i)%w=r' at *;generalize(r*2^32+an a i)/w=q at *;grind
theorem agu{r w x:Nat}(hr:r<w)(hx:x<4294967296):(r*2^32+x)/w<4294967296:=by
 rw[ajz oz];have:=ant 4294967296 (show r+1<=w from hr);omega
theorem BJ{a q w r:Nat}(h:a=w*q+r)(hr:r<w):a/w=q/\a%w=r:=by
 subst h;rw[Nat.mul_add_div oz,Nat.mul_add_mod,Nat.div_eq_of_lt hr,aj4 hr];simp
theorem ZT{l:List Nat}{i x:Nat}(h:i<l.length):an (l.set i x) i=x:=by simp[an,h]
end Go.Lw
