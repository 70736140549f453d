/- ModesImage: for any linkage and any turns the law returns true and leaves its arguments as they were. No other condition. Part 2 of 8: what the later parts need -/
import Derived.Test.YtokaoegjfpjjnaaGreatQa
import Derived.KernelRfl
import Derived.Laws.StructEq
import Derived.Test.YtokaoegjfpjjnaaGreatProg
import Derived.Eval
import Derived.RangeFuncIn
import Derived.Carry
import Derived.ChangeArms
import Derived.DataReads
import Derived.ChangeShapes
import Derived.RowKit
import Derived.ProofKit
import Derived.OpenShut
import Derived.Handed
import Derived.SizedLaws
set_option linter.unusedVariables false
open List (all_cons nil_append append_nil map_nil drop_drop)
open List renaming mem_of_getElem? → apo, mem_cons_of_mem → aqq, mem_append → ap2, map_cons → aq2, mem_cons → aqf, length_cons → ap4, mem_cons_self → aqr, length_append → aqk, length_nil → ap9, getD_eq_getElem?_getD → apq, getElem?_append_left → aqc, getElem?_eq_none → ap6, all_eq_true → ap3, getElem?_take → aqh, getElem?_drop → aqv, getElem?_map → apv, append_assoc → aqt, getElem?_append_right → aqb, getElem?_eq_getElem → aps, drop_eq_nil_of_le → aqm, map_append → ap8, length_take → ap7, take_of_length_le → aqa, drop_zero → aq1, take_length → ap5, not_mem_nil → aqg, length_map → apr, getElem?_of_mem → aqx, mem_of_mem_take → aqw, size_toArray → am6, mem_singleton → am8, replicate → ana, dropLast_concat_getLast → anc, drop_eq_getElem_cons → ani, mem_or_eq_of_mem_set → ank, getElem_mem → anm, take_append_drop → ann, eq_nil_of_length_eq_zero → anr, cons_append → ans, getElem?_toArray → ant, getLast?_cons_cons → anu, mem_map → anx, getElem?_eq_some_iff → anz, mem_iff_getElem → an4, mem_replicate → an5
open Nat renaming eq_of_beq_eq_true → apy, le_refl → apu, lt_of_lt_of_le → aqd, lt_or_ge → apz, le_trans → aqe, mul_le_mul_right → aqi, mul_le_mul_left → ap0, zero_le → apx, pow_add → aqs, lt_of_le_of_lt → aqj, beq_refl → alv, mod_lt → alw, mul_comm → alx, blt → aly, mul_le_mul → alz, ne_of_beq_eq_false → al1, eq_zero_or_pos → al2, ble_eq → al3, add_assoc → al4, blt_eq → al5, mod_eq_of_lt → al8, div_lt_iff_lt_mul → al9, add_comm → ama, min_eq_left → amb, div_le_self → amc, pow_mul → amd, mul_add → ame, ble_eq_true_of_le → amg, mul_lt_mul'' → amh, add_zero → amj, pow_le_pow_right → amk, pow_succ → amp, beq → amq, zero_add → ams, add_mul → amt, div_add_mod → amy, succ_mul → am5
open Option renaming map_eq_some_iff → apt, map_some → apm
open Bool renaming and_eq_true → apw, or_eq_true → aqy, false_and → aox, false_eq_true → aoz
open Array renaming getD_eq_getD_getElem? → ap1, toList_inj → ao4, getElem?_extract → ao5, size_append → ao6, getElem?_append → ao7, getElem?_push → ao9, getElem?_eq_getElem → apa, length_toList → apc, getElem?_toList → apd
open Int renaming toNat_natCast → aqo, natAbs_mul → an9, fdiv_eq_ediv_of_nonneg → aoc
open Go renaming Operand → arg, Value → arh, TypeId → ari, Program → arj, World → ark
open Go.Result renaming andThen_ok → arl
open Go.Sem renaming run_bind → arm, run_pure → arn
open Go.Proofs.Tryz
namespace Go.Lw
variable{P:arj}{N:Nat}{s:AS}
theorem Sub.refl(x:AV):Sub x x:=fun _ _ _ _ h=>h
inductive SlW(sl:di):di->Prop
  |nil:SlW sl []
  |cons {t:Nat} {x y:AV} {l:di} (h:lk sl t=some y) (hs:Sub y x) (hl:SlW sl l):SlW sl ((t,some x)::l)
theorem SlW.get{sl l:di}(h:SlW sl l){t:Nat}{x:AV}(hx:lk l t=some x):∃y,lk sl t=some y/\Sub y x:=by
 induction h with
 |nil=>cases hx
 | @cons t' x' y l h1 h2 _ ih =>
  rw[a5]at hx;split at hx
  ·cases hx;subst_vars;exact⟨y,h1,h2⟩
  ·exact ih hx
theorem SlW.same{sl l:di}{t:Nat}{x:AV}(h:lk sl t=some x)(hl:SlW sl l):SlW sl ((t,some x)::l):=.cons h (.refl x) hl
def oo(e e':AV):Prop:=e.cells.length=e'.cells.length/\∀(j:Nat)(x y:AV),e.cells[j]?=some x->e'.cells[j]?=some y->y.one=true/\Sub x y
inductive BlkSub:Blk->Blk->Prop
  |refl (x:Blk):BlkSub x x
  |row {sz:Nat} {es es':List AV} (hn:es.length=es'.length) (h:∀(i:Nat)(e e':AV),es[i]?=some e->es'[i]?=some e'->oo e e'):BlkSub (.row sz es) (.row sz es')
  |box {cs cs':List AV} (hn:cs.length=cs'.length) (h1:∀(j:Nat)(x:AV),cs'[j]?=some x->x.one=true)
      (h:∀(j:Nat)(x y:AV),cs[j]?=some x->cs'[j]?=some y->Sub x y):BlkSub (.box cs) (.box cs')
  |vecRow {vs:List arh} (hl:vs.length<=bf):BlkSub (.vec vs) (.row 1 (vs.map .v))
inductive HpW(hp:Hp):Hp->Prop
  |nil:HpW hp []
  |cons {k:Nat} {x y:Blk} {l:Hp} (h:lk hp k=some y) (hs:BlkSub y x) (hl:HpW hp l):HpW hp ((k,some x)::l)
theorem HpW.k{hp l:Hp}{k:Nat}{x:Blk}(hl:HpW hp l)(h:lk hp k=some x:=by exact rfl):HpW hp ((k,some x)::l):=.cons h (.refl x) hl
theorem HpW.same{hp l:Hp}{k:Nat}{x:Blk}(h:lk hp k=some x)(hl:HpW hp l):HpW hp ((k,some x)::l):=.cons h (.refl x) hl
theorem HpW.get{hp l:Hp}(h:HpW hp l){k:Nat}{x:Blk}(hx:lk l k=some x):∃y,lk hp k=some y/\BlkSub y x:=by
 induction h with
 |nil=>cases hx
 | @cons t' x' y l h1 h2 _ ih =>
  rw[a5]at hx;split at hx
  ·cases hx;subst_vars;exact⟨y,h1,h2⟩
  ·exact ih hx
theorem l0{α β:Type}{l:List α}{l':List β}(hn:l.length=l'.length){j:Nat}{x:α}(hx:l[j]?=some x):∃y,l'[j]?=some y:=by
 have hj:j<l.length:=by
  rcases apz j l.length with h |h
  ·exact h
  ·rw[ap6 h]at hx;cases hx
 exact⟨_,aps oz⟩
theorem BlkSub.rep{g:Nat->Array arh->Prop}{S:Nat->Nat->Prop}{m:Nat->Option Nat}{w:ark}{o:Option Nat}{x y:Blk}(h:BlkSub x y)(hr:BlkRep g S m w o x):BlkRep g S m w o y:=by
 cases h with
 |refl=>exact hr
 | @row sz es es' hn h =>
  cases hr with
  |none =>
   have:es'=[]:=anr hn.symm;subst this;exact .none _
  |row hw hn' hl hs h1 bn =>
   refine .row hw (by rw[<- hn];exact hn') oz ?_ ?_ ?_
   ·intro i e' he';obtain⟨e,he⟩:=l0 hn.symm he';rw[<- (h i e e' he he').1];exact hs i e he
   ·intro i j e' x' he' hx';obtain⟨e,he⟩:=l0 hn.symm he';obtain⟨x,hx⟩:=l0 (h i e e' he he').1.symm hx';exact((h i e e' he he').2 j x x' hx hx').1
   ·intro i j e' u x' he' hx' hu;obtain⟨e,he⟩:=l0 hn.symm he';obtain⟨x,hx⟩:=l0 (h i e e' he he').1.symm hx';exact((h i e e' he he').2 j x x' hx hx').2 _ _ _ _ (bn i j e u x he hx hu)
 |box hn h1 h =>
  cases hr with
  |box hw hn' h1' bn =>
   refine .box hw oz h1 (fun j u y hu hy=>?_);obtain⟨z,hz⟩:=l0 hn.symm hy;exact h j z y hz hy _ _ _ _ (bn j u z hu hz)
 | @vecRow vs hl =>
  cases hr with
  | @vec _ _ c t hw hc h1 =>
   have f7:c.size=vs.length:=by rw[<- hc];simp
   refine .row hw (by simp;omega) (by simpa using hl) ?_ ?_ ?_
   ·intro i e he;obtain⟨v,hv,rfl⟩:=anx.1 (apo he);rfl
   ·intro i j e x he hx;obtain⟨v,hv,rfl⟩:=anx.1 (apo he);cases j with
    |zero=>cases hx;exact h1 v hv
    |succ j=>cases hx
   ·intro i j e u x he hx hu;rw[apv,apt]at he;obtain⟨v,hv,rfl⟩:=he;cases j with
    |zero =>
     cases hx;have:c[i]?=some v:=by rw[<- apd,hc];exact hv
     have hu':c[i]?=some u:=by simpa using hu
     rw[this]at hu';cases hu';exact .v _
    |succ j=>cases hx
theorem RelM.weak{C:Ctx}{m:Nat->Option Nat}{a:Act}{w:ark}(h:RelM C s m a w){s':AS}(h1:∀t x,s'.get t=some x->∃y,s.get t=some y/\Sub y x)
  (h2:∀k x,lk s'.hp k=some x->∃y,lk s.hp k=some y/\BlkSub y x):RelM C s' m a w:=by
 have hf:=Frame.refl (bh s.hp m) w
 have bU:∀k' z b,lk s'.hp k'=some z->m k'=some b->bh s.hp m b\/w.heap.size<=b:=fun k' z b hz hb=>by
  obtain⟨y,hy,_⟩:=h2 k' z hz;exact .inl ⟨k',y,hy,hb⟩
 have hu:=h.update hf (hp':=s'.hp) (fun _ _ _ _ _ _ hb=>hb) bU (fun k' z _ hz=>by obtain⟨y,hy,_⟩:=h2 k' z hz;exact⟨⟨y,hy⟩,rfl⟩) ⟨?_,?_,?_⟩
 ·refine⟨?_,hu.heap,hu.frame,hu.new,hu.keep,hu.defers,hu.nt⟩;intro t x hx;obtain⟨y,hy,hs⟩:=h1 t x hx;obtain⟨g1,g2⟩:=hu.slots t y hy;exact⟨g1,hs _ _ _ _ g2⟩
 ·intro k' z hz;obtain⟨y,hy,hs⟩:=h2 k' z hz;exact hs.rep (BlkRep.mono (w:=w) (ia hf bU) hf.sz (fun _ _ _ h=>h) rfl (fun _ _=>rfl) (h.heap.blk k' y hy))
 ·intro k1 k2 z1 z2 b g1 g2;obtain⟨y1,uP,_⟩:=h2 k1 z1 g1;obtain⟨y2,rE,_⟩:=h2 k2 z2 g2;exact h.heap.inj k1 k2 y1 y2 b uP rE
 ·intro k' z b hz hb;obtain⟨y,hy,_⟩:=h2 k' z hz;exact h.heap.sep k' y b hy hb
theorem Wk.of{sl:di}{hp:Hp}(h1:SlW s.sl sl)(h2:HpW s.hp hp):Wk s ⟨sl,hp⟩ :=
 fun C m a w hr=>⟨m,hr.weak (fun t x hx=>h1.get hx) (fun k x hx=>h2.get hx)⟩
mutual
def AV.fz(k sz:Nat)(es:List AV):AV->AV
  | .ms k' sz' off len=>match amq k' k&&amq sz' sz&&Nat.ble (off+len) es.length with
    |true=>.lst sz ((es.drop off).take len)
    |false=>.ms k' sz' off len
  | .agg cs=>.agg (AV.fzs k sz es cs)
  | .tup cs=>.tup (AV.fzs k sz es cs)
  | .fn f cs=>.fn f (AV.fzs k sz es cs)
  | .opt b x=>.opt b (AV.fz k sz es x)
  | .v x=>.v x
  | .lst sz l=>.lst sz l
  | .iptr l=>.iptr l
  | .ptr k off=>.ptr k off
  | .eptr k sz i off=>.eptr k sz i off
  | .yl k=>.yl k
  | .cl f cs ds=>.cl f cs ds
def AV.fzs(k sz:Nat)(es:List AV):List AV->List AV
  |[]=>[]
  |x::l=>AV.fz k sz es x::AV.fzs k sz es l
end
theorem AV.fzs_eq(k sz:Nat)(es:List AV):∀l,AV.fzs k sz es l=l.map (AV.fz k sz es)
 |[]=>rfl
 |x::l=>by simp only[AV.fzs,aq2,AV.fzs_eq k sz es l]
theorem AV.fz_one(k sz:Nat)(es:List AV)(x:AV)(h:x.one=true):(x.fz k sz es).one=true:=by
 cases x <;> simp only[AV.fz] <;> first |exact h |(split <;> rfl)
theorem z5{g:Nat->Array arh->Prop}{S:Nat->Nat->Prop}{k sz:Nat}{es:List AV}{m:Nat->Option Nat}{v:arh}{x:AV}(h:Rep g S m v x)
  (hb:∀b,m k=some b->∃c:Array arh,g b c/\es.length*sz<=c.size/\es.length<=bf/\(∀(i:Nat)(e:AV),es[i]?=some e->e.cells.length=sz) /\
   (∀(i j:Nat)(e x:AV),es[i]?=some e->e.cells[j]?=some x->x.one=true) /\
   ∀(i j:Nat)(e:AV)(u:arh)(x:AV),es[i]?=some e->e.cells[j]?=some x->c[i*sz+j]?=some u->Rep g S eP u x):Rep g S m v (x.fz k sz es):=by
 induction h with
 |v x=>exact .v x
 |lst0 a cap sz'=>exact .lst0 a cap sz'
 |lst u hb' hc hl hs h1 hu hr _=>exact .lst u hb' hc hl hs h1 hu hr
 |iptr u hb' h1 hu hr _=>exact .iptr u hb' h1 hu hr
 |ptr h=>exact .ptr h
 |eptr h=>exact .eptr h
 |yl h=>exact .yl h
 |opt h h' ih=>exact .opt (fun uQ=>ih uQ hb) h'
 |agg hn h1 hr ih =>
  simp only[AV.fz,AV.fzs_eq];refine .agg (by simpa using hn) ?_ ?_
  ·intro j c hc;simp only[apv,apt]at hc;obtain⟨y,hy,rfl⟩:=hc;exact AV.fz_one _ _ _ _ (h1 j y hy)
  ·intro j u c hu hc;simp only[apv,apt]at hc;obtain⟨y,hy,rfl⟩:=hc;exact ih j u y hu hy hb
 |tup hn hr ih =>
  simp only[AV.fz,AV.fzs_eq];refine .tup (by simpa using hn) ?_;intro j u c hu hc;simp only[apv,apt]at hc;obtain⟨y,hy,rfl⟩:=hc;exact ih j u y hu hy hb
 |fn hn hr ih =>
  simp only[AV.fz,AV.fzs_eq];refine .fn (by simpa using hn) ?_;intro j u c hu hc;simp only[apv,apt]at hc;obtain⟨y,hy,rfl⟩:=hc;exact ih j u y hu hy hb
 |cl hn hr hn' hr' _ _=>exact .cl hn hr hn' hr'
 |ms0 a k' sz' off =>
  simp only[AV.fz];split
  ·simp;exact .lst0 _ _ _
  ·exact .ms0 _ _ _ _
 | @ms mm k' sz' off len cap b hm hc hS =>
  simp only[AV.fz];split
  ·rename_i RW;simp only [apw,al3] at RW;obtain ⟨⟨h1,h2⟩,h3⟩:=RW;obtain rfl:=apy h1;obtain rfl:=apy h2;obtain ⟨c,IH,bH,eL,hs,ho,hr⟩:=hb b hm;have bV:((es.drop off).take len).length = len:=by simp; omega
   have gx:∀(i:Nat)(e:AV),((es.drop off).take len)[i]?=some e->es[off+i]?=some e:=by
    intro i e he;rw[aqh]at he;split at he
    ·rwa [aqv]at he
    ·cases he
   have jd:∀(i j:Nat)(e x:AV),es[i]?=some e->e.cells[j]?=some x->∃u,c[i*sz'+j]?=some u:=by
    intro i j e x he hx
    have hi:i<es.length:=by
     rcases apz i es.length with h |h
     ·exact h
     ·rw[ap6 h]at he;cases he
    have hj:j<e.cells.length:=by
     rcases apz j e.cells.length with h |h
     ·exact h
     ·rw[ap6 h]at hx;cases hx
    rw[hs i e he]at hj;have:=qH (sz:=sz') hi;exact⟨_,apa oz⟩
   have:=Rep.lst (g:=g) (S:=S) (m:=mm) (b:=b) (off:=off*sz') (cap:=cap) (sz:=sz') (es:=(es.drop off).take len) (cs:=c)
    (fun i j=>c.getD ((off+i)*sz'+j) undef) IH oz oz (fun i e he=>hs _ e (gx i e he)) (fun i j e x he hx=>ho _ j e x (gx i e he) hx)
    (fun i j e x he hx=>by
     obtain⟨u,hu⟩:=jd _ j e x (gx i e he) hx;rw[ap1,hu,<- amt,hu];rfl)
    (fun i j e x he hx=>by
     obtain⟨u,hu⟩:=jd _ j e x (gx i e he) hx;rw[ap1,hu];exact hr _ j e u x (gx i e he) hx hu)
   rwa [bV]at this
  ·exact .ms hm hc hS
def mM(f:AV->AV):di->di
  |[]=>[]
  |(t,x)::l=>(t,match x with |some x=>some (f x) |none=>none)::mM f l
theorem vl(f:AV->AV):∀(l:di)(t:Nat),lk (mM f l) t=(lk l t).map f
 |[],t=>rfl
 |(t',x)::l,t=>by
  simp only[mM,a5,vl f l t];split
  ·cases x <;> rfl
  ·rfl
def Blk.map(f:AV->AV):Blk->Blk
  | .box cs=>.box (cs.map f)
  | .row sz es=>.row sz es
  | .loop d st pe sl=>.loop d st pe (mM f sl)
  | .vec vs=>.vec vs
theorem BlkRep.mapLoop{g g':Nat->Array arh->Prop}{S S':Nat->Nat->Prop}{m m':Nat->Option Nat}{w:ark}{o:Option Nat}{d:LpD}{st:LoopState}{pe:Option Code}{sl:di}(f:AV->AV)
  (h:BlkRep g S m w o (.loop d st pe sl)) (hf:∀t x v,lk sl t=some x->Rep g S m v x->Rep g' S' m' v (f x)):BlkRep g' S' m' w o (.loop d st pe (mM f sl)):=by
 cases h with
 |loop h h1 h2 h3 h4 h5 hn hr =>
  refine .loop h h1 h2 h3 h4 h5 hn (fun t x hx=>?_);rw[vl,apt]at hx;obtain⟨y,hy,rfl⟩:=hx;exact⟨(hr t y hy).1,hf t y _ hy (hr t y hy).2⟩
def j9(f:AV->AV)(k:Nat):Hp->Hp
  |[]=>[]
  |(k',x)::l=>(k',match amq k' k with |true=>none |false=>match x with |some x=>some (x.map f) |none=>none)::j9 f k l
theorem se(f:AV->AV)(k:Nat):∀(l:Hp)(t:Nat),lk (j9 f k l) t=if t=k then none else(lk l t).map (Blk.map f)
 |[],t=>by simp[j9,lk]
 |(k',x)::l,t=>by
  simp only[j9,a5,se f k l t]
  by_cases h1:t=k'
  ·subst h1;rw[aq7 rfl,aq7 rfl];cases hb:amq t k with
   |true=>rw[aq7 (apy hb)]
   |false=>rw[aq6 (al1 hb)];cases x <;> rfl
  ·rw[aq6 h1,aq6 h1]
theorem Wk.freeze{k sz:Nat}{es:List AV}(hk:s.blk k=some (.row sz es)):Wk s ⟨mM (AV.fz k sz es) s.sl,j9 (AV.fz k sz es) k s.hp⟩:=by
 intro C m a w hr;refine⟨m,?_⟩
 have uR:∀k' z,lk ((k,none)::s.hp) k'=some z->lk s.hp k'=some z:=by
  intro k' z hz;rw[a5]at hz;split at hz
  ·cases hz
  ·exact hz
 have bA:=hr.fewer uR
 have hb:∀b,m k=some b->∃c:Array arh,Im C.ext ((k,none)::s.hp) m w b c/\es.length*sz<=c.size/\es.length<=bf/\(∀(i:Nat)(e:AV),es[i]?=some e->e.cells.length=sz) /\
   (∀(i j:Nat)(e x:AV),es[i]?=some e->e.cells[j]?=some x->x.one=true) /\
   ∀(i j:Nat)(e:AV)(u:arh)(x:AV),es[i]?=some e->e.cells[j]?=some x->c[i*sz+j]?=some u->Rep (Im C.ext ((k,none)::s.hp) m w) (Sz w) eP u x:=by
  intro b hm;obtain⟨c,t,hw,hn,hl,hs,ho,bn⟩:=xF hr.heap hk hm;have eM:=ia (ext:=C.ext) (Frame.refl (bh s.hp m) w) (hp':=(k,none)::s.hp) (m':=m) (fun k' z b' hz hb'=>.inl ⟨k',z,uR k' z hz,hb'⟩);refine⟨c,⟨(hr.heap.sep k _ b hk hm).1,?_,t,(0,0),hw⟩,hn,hl,hs,ho,fun i j e u x he hx hu=>(bn i j e u x he hx hu).mono eM (fun _ _ h=>h) (fun _ _ _ h=>h)⟩;rintro⟨k',z,hz,hb'⟩;have:=hr.heap.inj k k' _ z b hk (uR k' z hz) hm hb';subst this;rw[a5,aq7 rfl]at hz;cases hz
 have eW:∀k' z,lk (j9 (AV.fz k sz es) k s.hp) k'=some z->∃y,lk ((k,none)::s.hp) k'=some y/\z=y.map (AV.fz k sz es):=by
  intro k' z hz;rw[se]at hz;split at hz
  ·cases hz
  ·rename_i b9;simp only[apt]at hz;obtain⟨y,hy,rfl⟩:=hz;exact⟨y,by rw[a5,aq6 b9];exact hy,rfl⟩
 have uM:∀k' y,lk ((k,none)::s.hp) k'=some y->lk (j9 (AV.fz k sz es) k s.hp) k'=some (y.map (AV.fz k sz es)):=by
  intro k' y hy;rw[a5]at hy;split at hy
  ·cases hy
  ·rename_i b9;rw[se,aq6 b9,hy];rfl
 have e1:bh (j9 (AV.fz k sz es) k s.hp) m=bh ((k,none)::s.hp) m:=by
  funext b;apply propext;constructor
  ·rintro⟨k',z,hz,hb⟩;obtain⟨y,hy,_⟩:=eW k' z hz;exact⟨k',y,hy,hb⟩
  ·rintro⟨k',y,hy,hb⟩;exact⟨k',_,uM k' y hy,hb⟩
 have e2:Im C.ext (j9 (AV.fz k sz es) k s.hp) m w=Im C.ext ((k,none)::s.hp) m w:=by funext b cs;simp only[Im,e1]
 refine⟨?_,⟨?_,?_,?_⟩,bA.frame,?_,?_,bA.defers,bA.nt⟩
 ·intro t x hx;simp only[AS.get,vl,apt]at hx;obtain⟨y,hy,rfl⟩:=hx;obtain⟨g1,g2⟩:=bA.slots t y hy;refine⟨g1,?_⟩;show Rep (Im C.ext (j9 (AV.fz k sz es) k s.hp) m w) _ _ _ _;rw[e2];exact z5 g2 hb
 ·intro k' z hz;obtain⟨y,hy,rfl⟩:=eW k' z hz;rw[e2];have:=bA.heap.blk k' y hy;cases y with
  |row sz' es'=>exact this
  |vec vs =>
   simp only[Blk.map];generalize m k'=o at this;cases this with
   |vec hw hc h1=>exact .vec hw hc h1
  |loop=>exact this.mapLoop _ (fun _ _ _ _ h=>z5 h hb)
  |box cs =>
   simp only[Blk.map];generalize m k'=o at this;cases this with
   |box hw hn h1 bn =>
    refine .box hw (by simpa using hn) ?_ ?_
    ·intro j x hx;simp only[apv,apt]at hx;obtain⟨y,hy,rfl⟩:=hx;exact AV.fz_one _ _ _ _ (h1 j y hy)
    ·intro j u x hu hx;simp only[apv,apt]at hx;obtain⟨y,hy,rfl⟩:=hx;exact z5 (bn j u y hu hy) hb
 ·intro k1 k2 z1 z2 b g1 g2;obtain⟨y1,uP,_⟩:=eW k1 z1 g1;obtain⟨y2,rE,_⟩:=eW k2 z2 g2;exact bA.heap.inj k1 k2 y1 y2 b uP rE
 ·intro k' z b hz hb;obtain⟨y,hy,_⟩:=eW k' z hz;exact bA.heap.sep k' y b hy hb
 ·intro k' z b hz hb;obtain⟨y,hy,_⟩:=eW k' z hz;exact bA.new k' y b hy hb
 ·intro k' z rC hz;obtain⟨y,hy,_⟩:=eW k' z hz;exact bA.keep k' y rC hy
mutual
def AV.rn(k d:Nat):AV->AV
  | .ms k' sz off len=>match amq k' k with
    |true=>.ms d sz off len
    |false=>.ms k' sz off len
  | .ptr k' off=>match amq k' k with
    |true=>.ptr d off
    |false=>.ptr k' off
  | .eptr k' sz i off=>match amq k' k with
    |true=>.eptr d sz i off
    |false=>.eptr k' sz i off
  | .agg cs=>.agg (AV.rns k d cs)
  | .tup cs=>.tup (AV.rns k d cs)
  | .fn f cs=>.fn f (AV.rns k d cs)
  | .opt b x=>.opt b (AV.rn k d x)
  | .yl k'=>match amq k' k with
    |true=>.yl d
    |false=>.yl k'
  | .cl f cs ds=>.cl f cs ds
  | .v x=>.v x
  | .lst sz l=>.lst sz l
  | .iptr l=>.iptr l
def AV.rns(k d:Nat):List AV->List AV
  |[]=>[]
  |x::l=>AV.rn k d x::AV.rns k d l
end
theorem AV.rns_eq(k d:Nat):∀l,AV.rns k d l=l.map (AV.rn k d)
 |[]=>rfl
 |x::l=>by simp only[AV.rns,aq2,AV.rns_eq k d l]
theorem AV.rn_one(k d:Nat)(x:AV)(h:x.one=true):(x.rn k d).one=true:=by
 cases x <;> simp only[AV.rn] <;> first |exact h |(split <;> rfl)
theorem VX{g:Nat->Array arh->Prop}{S:Nat->Nat->Prop}{k d:Nat}{m m':Nat->Option Nat}{v:arh}{x:AV}(h:Rep g S m v x)(hd:¬x.Names d)
  (h1:m' d=m k) (h2:∀k',k'≠d->m' k'=m k'):Rep g S m' v (x.rn k d):=by
 induction h with
 |v x=>exact .v x
 |lst0 a cap sz'=>exact .lst0 a cap sz'
 |lst u hb hc hl hs ho hu hr _=>exact .lst u hb hc hl hs ho hu hr
 |iptr u hb ho hu hr _=>exact .iptr u hb ho hu hr
 | @ptr _ k' off b hm =>
  simp only[AV.rn];split
  ·rename_i hk;obtain rfl:=apy hk;exact .ptr (h1.trans hm)
  ·exact .ptr ((h2 _ (fun e=>hd (e▸.ptr _ _))).trans hm)
 | @eptr _ k' sz i off b hm =>
  simp only[AV.rn];split
  ·rename_i hk;obtain rfl:=apy hk;exact .eptr (h1.trans hm)
  ·exact .eptr ((h2 _ (fun e=>hd (e▸.eptr _ _ _ _))).trans hm)
 |ms0 a k' sz' off =>
  simp only[AV.rn];split <;> exact .ms0 _ _ _ _
 |cl hn hr hn' hr' _ _=>exact .cl hn hr hn' hr'
 | @yl _ k' b hm =>
  simp only[AV.rn];split
  ·rename_i hk;obtain rfl:=apy hk;exact .yl (h1.trans hm)
  ·exact .yl ((h2 _ (fun e=>hd (e▸.yl _))).trans hm)
 | @ms _ k' sz' off len cap b hm hc hS =>
  simp only[AV.rn];split
  ·rename_i hk;obtain rfl:=apy hk;exact .ms (h1.trans hm) hc hS
  ·exact .ms ((h2 _ (fun e=>hd (e▸.ms _ _ _ _))).trans hm) hc hS
 |opt h h' ih=>exact .opt (fun hb=>ih hb (fun hn=>hd (.opt hn)) h1 h2) h'
 |agg hn h1' hr ih =>
  simp only[AV.rn,AV.rns_eq];refine .agg (by simpa using hn) ?_ ?_
  ·intro j c hc;simp only[apv,apt]at hc;obtain⟨y,hy,rfl⟩:=hc;exact AV.rn_one _ _ _ (h1' j y hy)
  ·intro j u c hu hc;simp only[apv,apt]at hc;obtain⟨y,hy,rfl⟩:=hc;exact ih j u y hu hy (fun hn=>hd (.agg (apo hy) hn)) h1 h2
 |tup hn hr ih =>
  simp only[AV.rn,AV.rns_eq];refine .tup (by simpa using hn) ?_;intro j u c hu hc;simp only[apv,apt]at hc;obtain⟨y,hy,rfl⟩:=hc;exact ih j u y hu hy (fun hn=>hd (.tup (apo hy) hn)) h1 h2
 |fn hn hr ih =>
  simp only[AV.rn,AV.rns_eq];refine .fn (by simpa using hn) ?_;intro j u c hu hc;simp only[apv,apt]at hc;obtain⟨y,hy,rfl⟩:=hc;exact ih j u y hu hy (fun hn=>hd (.fn (apo hy) hn)) h1 h2
def sN(k d:Nat)(y:Blk)(hp:Hp):Hp:=(d,some (y.map (AV.rn k d)))::j9 (AV.rn k d) k hp
theorem tZ{k d:Nat}{y:Blk}{hp:Hp}{k':Nat}{z:Blk}(h:lk (sN k d y hp) k'=some z) :
  ∃y',lk ((d,some y)::(k,none)::hp) k'=some y'/\z=y'.map (AV.rn k d):=by
 unfold sN at h;rw[a5]at h ⊢;split at h
 ·rename_i he;rw[aq7 he];cases h;exact⟨y,rfl,rfl⟩
 ·rename_i he;rw[aq6 he,a5];rw[se]at h;split at h
  ·cases h
  ·rename_i hk;rw[aq6 hk];simp only[apt]at h;obtain⟨y',hy',rfl⟩:=h;exact⟨y',hy',rfl⟩
theorem Wk.rk{k d:Nat}{y:Blk}(hk:s.blk k=some y)(hd:s.freshB d=true):Wk s ⟨mM (AV.rn k d) s.sl,sN k d y s.hp⟩:=by
 intro C m a w hr;have hfr:=AS.fresh_of hd;have bA:=hr.rk hk hfr;refine⟨fun k'=>if k'=d then m k else m k',?_⟩
 have uM:∀k' y',lk ((d,some y)::(k,none)::s.hp) k'=some y'->lk (sN k d y s.hp) k'=some (y'.map (AV.rn k d)):=by
  intro k' y' h;unfold sN;rw[a5]at h ⊢;split at h
  ·rename_i he;rw[aq7 he];cases h;rfl
  ·rename_i he;rw[aq6 he,se];rw[a5]at h;split at h
   ·cases h
   ·rename_i hk';rw[aq6 hk',h];rfl
 have e1:bh (sN k d y s.hp) (fun k'=>if k'=d then m k else m k')=bh ((d,some y)::(k,none)::s.hp) (fun k'=>if k'=d then m k else m k'):=by
  funext b;apply propext;constructor
  ·rintro⟨k',z,hz,hb⟩;obtain⟨y',hy',_⟩:=tZ hz;exact⟨k',y',hy',hb⟩
  ·rintro⟨k',y',hy',hb⟩;exact⟨k',_,uM k' y' hy',hb⟩
 have e2:Im C.ext (sN k d y s.hp) (fun k'=>if k'=d then m k else m k') w=Im C.ext ((d,some y)::(k,none)::s.hp) (fun k'=>if k'=d then m k else m k') w:=by
  funext b cs;simp only[Im,e1]
 have eM:=ia (ext:=C.ext) (Frame.refl (bh s.hp m) w) (hp':=(d,some y)::(k,none)::s.hp) (m':=fun k'=>if k'=d then m k else m k') (by
  intro k' z b hz hb;rw[a5]at hz;split at hz
  ·rename_i he;rw[aq7 he]at hb;exact .inl ⟨k,y,hk,hb⟩
  ·rename_i he;rw[aq6 he]at hb
   rw[a5]at hz;split at hz
   ·cases hz
   ·exact .inl ⟨k',z,hz,hb⟩)
 have II:∀v x,¬AV.Names x d->Rep (Im C.ext s.hp m w) (Sz w) m v x->Rep (Im C.ext ((d,some y)::(k,none)::s.hp) (fun k'=>if k'=d then m k else m k') w) (Sz w) (fun k'=>if k'=d then m k else m k') v (x.rn k d):=by
  intro v x hx h;exact VX (h.mono eM (fun _ _ h=>h) (fun _ _ _ h=>h)) hx (aq7 rfl) (fun k' b9=>aq6 b9)
 refine⟨?_,⟨?_,?_,?_⟩,bA.frame,?_,?_,bA.defers,bA.nt⟩
 ·intro t x hx;simp only[AS.get,vl,apt]at hx;obtain⟨z,hz,rfl⟩:=hx;obtain⟨g1,g2⟩:=hr.slots t z hz;refine⟨g1,?_⟩;show Rep (Im C.ext (sN k d y s.hp) _ w) _ _ _ _;rw[e2];exact II _ _ (hfr.2.2.1 t z hz) g2
 ·intro k' z hz;obtain⟨y',hy',rfl⟩:=tZ hz;rw[e2]
  have IJ:∃k0,lk s.hp k0=some y'/\(if k'=d then m k else m k')=m k0:=by
   rw[a5]at hy';split at hy'
   ·rename_i he;cases hy';exact⟨k,hk,aq7 he⟩
   ·rename_i he;rw[a5]at hy';split at hy'
    ·cases hy'
    ·exact⟨k',hy',aq6 he⟩
  obtain⟨k0,gz,uS⟩:=IJ;rw[uS];have hb:=hr.heap.blk k0 y' gz;have dN:=hfr.2.2.2 k0 y' gz;cases y' with
  |row sz es=>exact BlkRep.mono (w:=w) eM (fun _ _ h=>h) (fun _ _ h=>h.elim) rfl (fun _ _=>rfl) hb
  |vec vs=>exact BlkRep.mono (w:=w) eM (fun _ _ h=>h) (fun _ _ h=>h.elim) rfl (fun _ _=>rfl) hb
  |loop=>exact hb.mapLoop _ (fun t x v hx h=>II v x (fun hn=>dN ⟨t,x,so hx,hn⟩) h)
  |box cs =>
   simp only[Blk.map];generalize m k0=o at hb;cases hb with
   |box hw hn h1 bn =>
    refine .box hw (by simpa using hn) ?_ ?_
    ·intro j x hx;simp only[apv,apt]at hx;obtain⟨z,hz,rfl⟩:=hx;exact AV.rn_one _ _ _ (h1 j z hz)
    ·intro j u x hu hx;simp only[apv,apt]at hx;obtain⟨z,hz,rfl⟩:=hx;exact II u z (fun hn=>dN ⟨z,apo hz,hn⟩) (bn j u z hu hz)
 ·intro k1 k2 z1 z2 b g1 g2;obtain⟨y1,uP,_⟩:=tZ g1;obtain⟨y2,rE,_⟩:=tZ g2;exact bA.heap.inj k1 k2 y1 y2 b uP rE
 ·intro k' z b hz hb;obtain⟨y',hy',_⟩:=tZ hz;exact bA.heap.sep k' y' b hy' hb
 ·intro k' z b hz hb;obtain⟨y',hy',_⟩:=tZ hz;exact bA.new k' y' b hy' hb
 ·intro k' z rC hz;obtain⟨y',hy',_⟩:=tZ hz;exact bA.keep k' y' rC hy'
theorem Wk.virt(d sz:Nat)(hd:s.freshB d=true):Wk s ⟨s.sl,(d,some (.row sz []))::s.hp⟩ :=
 fun C m a w hr=>⟨_,hr.virt sz (AS.fresh_of hd)⟩
theorem Sub.nM(a:Option Addr)(d sz:Nat):Sub (.v (.slice a 0 0)) (.ms d sz 0 0):=fun g S m v h=>by cases h;exact .ms0 _ _ _ _
theorem Sub.trans{x y z:AV}(h:Sub x y)(h':Sub y z):Sub x z:=fun g S m v hr=>h' g S m v (h g S m v hr)
theorem aD.keep{x:AV}{H':Hp}(h:∀k z,lk H' k=some z->lk s.hp k=some z):aD s x x H':=by
 intro ext m w v hh hext hx;have eM:=ia (ext:=ext) (Frame.refl (bh s.hp m) w) (hp':=H') (m':=m) (fun k' z b hz hb=>.inl ⟨k',z,h k' z hz,hb⟩);refine⟨m,⟨?_,?_,?_⟩,fun k z b hz hb=>⟨k,z,h k z hz,hb⟩,fun k z _ hz=>⟨⟨z,h k z hz⟩,rfl⟩,hx.mono eM (fun _ _ h=>h) (fun _ _ _ h=>h)⟩
 ·intro k z hz;exact BlkRep.mono (w:=w) eM (fun _ _ h=>h) (fun _ _ _ h=>h) rfl (fun _ _=>rfl) (hh.blk k z (h k z hz))
 ·intro k k' z z' b h1 h2;exact hh.inj k k' z z' b (h _ _ h1) (h _ _ h2)
 ·intro k z b hz hb;exact hh.sep k z b (h k z hz) hb
theorem aD.sub{x r r':AV}{H':Hp}(h:aD s x r H')(hs:Sub r r'):aD s x r' H':=by
 intro ext m w v hh hext hx;obtain⟨m',h1,h2,h3,h4⟩:=h ext m w v hh hext hx;exact⟨m',h1,h2,h3,hs _ _ _ _ h4⟩
theorem aD.pure{x:AV}:aD s x x []:=.keep (fun k z h=>by cases h)
end Go.Lw
namespace Go.Lw
abbrev B:Nat:=4294967296
def val:List Nat->Nat
  |[]=>0
  |x::l=>x+4294967296*val l
def Ws(l:List Nat):Prop:=∀x∈l,x<4294967296
def mY:Nat->Nat->List Nat
  |0,_=>[]
  |f+1,n=>match n with
    |0=>[]
    |n+1=>((n+1)%4294967296)::mY f ((n+1)/4294967296)
def ofNat(n:Nat):List Nat:=mY (n.log2/32+1) n
def Nz(l:List Nat):Prop:=∀x,l.getLast?=some x->x≠0
theorem vO(a b:List Nat):val (a++b)=val a+4294967296^a.length*val b:=by
 induction a with
 |nil=>simp[val]
 |cons x a ih=>simp only[ans,val,ih,ap4,amp];grind
theorem cU(l:List Nat)(h:Ws l):val l<4294967296^l.length:=by
 induction l with
 |nil=>simp[val]
 |cons x l ih =>
  have h1:=h x (by simp);have h2:=ih (fun y hy=>h y (by simp[hy]));simp only[val,ap4,amp];omega
theorem AP(n:Nat):val (ana n 0)=0:=by
 induction n with
 |zero=>rfl
 |succ n ih=>simp[List.replicate_succ,val,ih]
theorem Y7(f:Nat):mY f 0=[]:=by cases f <;> rfl
theorem FZ(f n:Nat)(h:n≠0):mY (f+1) n=(n%4294967296)::mY f (n/4294967296):=by
 cases n with
 |zero=>exact ard rfl h
 |succ n=>rfl
theorem Qg:∀(f n:Nat),n<4294967296^f->val (mY f n)=n:=by
 intro f
 induction f with
 |zero=>intro n h;simp at h;subst h;rfl
 |succ f ih =>
  intro n h
  by_cases h0:n=0
  ·subst h0;rfl
  ·rw[FZ f n h0];simp only[val];rw[ih _ (by rw[amp]at h;exact Nat.div_lt_of_lt_mul (by rw[alx];exact h))];omega
theorem afl:∀(f n:Nat),Ws (mY f n):=by
 intro f
 induction f with
 |zero=>intro n x h;simp[mY]at h
 |succ f ih =>
  intro n
  by_cases h0:n=0
  ·subst h0;intro x h;simp[mY]at h
  ·rw[FZ f n h0];intro x h;rcases aqf.1 h with rfl |h
   ·omega
   ·exact ih _ x h
theorem Tu:∀(f n:Nat),n<4294967296^f->Nz (mY f n):=by
 intro f
 induction f with
 |zero=>intro n h x hx;simp[mY]at hx
 |succ f ih =>
  intro n h
  by_cases h0:n=0
  ·subst h0;intro x hx;simp[mY]at hx
  ·rw [FZ f n h0];have hd:n / 4294967296 < 4294967296 ^ f:=by rw [amp] at h; exact Nat.div_lt_of_lt_mul (by rw [alx]; exact h)
   intro x hx
   by_cases h1:n/4294967296=0
   ·rw[h1,Y7]at hx;simp at hx;omega
   ·have h2:=ih _ hd x;cases hq:mY f (n/4294967296)with
    |nil =>
     have:=Qg f _ hd;rw[hq]at this;simp[val]at this;omega
    |cons y ys =>
     rw[hq]at hx h2;rw[anu]at hx;exact h2 hx
theorem QP(n:Nat):n<4294967296^(n.log2/32+1):=by
 have h1:n<2^(n.log2+1):=Nat.lt_log2_self;have h2:(4294967296:Nat)=2^32:=by decide
 rw[h2,<- amd];exact aqd h1 (amk (by decide) oz)
theorem db(n:Nat):val (ofNat n)=n:=Qg _ _ (QP n)
theorem eQ(n:Nat):Ws (ofNat n):=afl _ _
theorem wz(n:Nat):Nz (ofNat n):=Tu _ _ (QP n)
theorem C9{x:Nat}{l:List Nat}(h:Nz (x::l)):Nz l:=by
 intro y hy;cases l with
 |nil=>simp at hy
 |cons z l=>exact h y (by rw[anu];exact hy)
theorem X1:∀(a b:List Nat),Ws a->Ws b->Nz a->Nz b->val a=val b->a=b:=by
 have key:∀(l:List Nat),Nz l->val l=0->l=[]:=by
  intro l
  induction l with
  |nil=>intro _ _;rfl
  |cons x l ih =>
   intro hn hv;simp only[val]at hv;have:=ih (C9 hn) oz;subst this;exact ard (by omega:x=0) (hn x rfl)
 intro a
 induction a with
 |nil=>intro b _ _ _ hb hv;exact(key b hb hv.symm).symm
 |cons x a ih =>
  intro b ha hb DN Aj hv;cases b with
  |nil=>exact key _ DN hv
  |cons y b =>
   have h1:=ha x (by simp);have h2:=hb y (by simp);simp only[val]at hv;have:=ih b (fun z hz=>ha z (by simp[hz])) (fun z hz=>hb z (by simp[hz])) (C9 DN) (C9 Aj) oz;subst this;rw[show x=y by omega]
theorem vG{l:List Nat}(h:Ws l)(hn:Nz l):ofNat (val l)=l :=
 X1 _ _ (eQ _) h (wz _) hn (db _)
theorem PO{l:List Nat}{n:Nat}(h:Ws l)(hn:Nz l)(hv:val l=n):l=ofNat n:=by subst hv;exact(vG h hn).symm
theorem acn:ofNat 0=[]:=rfl
theorem tD{l:List Nat}(hn:Nz l)(h:l≠[]):0<val l:=by
 rcases al2 (val l)with h0 |h0
 ·exfalso
  induction l with
  |nil=>exact h rfl
  |cons x l ih =>
   simp only[val]at h0
   by_cases hl:l=[]
   ·subst hl;exact hn x rfl oz
   ·exact ih (C9 hn) hl oz
 ·exact h0
theorem iF{n k:Nat}(h:n<4294967296^k):(ofNat n).length<=k:=by
 have hv:=db n;rcases apz k (ofNat n).length with hlt |hge
 ·exfalso;have b9:ofNat n ≠ []:=by intro e; rw [e] at hlt; simp at hlt
  have Ap:ofNat n=(ofNat n).dropLast++[(ofNat n).getLast b9]:=(anc b9).symm;have alm:(ofNat n).getLast b9≠0:=wz n _ (List.getLast?_eq_some_getLast b9)
  have ic:val (ofNat n)=val (ofNat n).dropLast+4294967296^(ofNat n).dropLast.length*(ofNat n).getLast b9:=by
   conv=>lhs;rw[Ap]
   rw[vO];simp[val]
  have bV:(ofNat n).dropLast.length=(ofNat n).length-1:=List.length_dropLast;have h1:4294967296^k<=4294967296^(ofNat n).dropLast.length:=amk (by decide) oz;have h2:4294967296^(ofNat n).dropLast.length*1<=4294967296^(ofNat n).dropLast.length*(ofNat n).getLast b9:=ap0 _ oz;omega
 ·exact hge
theorem Mn{l:List Nat}{i x:Nat}(h:l[i]?=some x):val (l.take (i+1))=val (l.take i)+4294967296^i*x:=by
 have hi:i<l.length:=by
  rcases apz i l.length with h' |h'
  ·exact h'
  ·rw[ap6 h']at h;cases h
 rw[List.take_add_one,h,vO];simp[val,ap7];rw[amb oz]
theorem gS{l:List Nat}{i:Nat}(h:l.length<=i):val (l.take i)=val l:=by rw[aqa h]
variable{P:arj}{N:Nat}{R:Array Oper}{s:AS}{pos:String}{after:Array Edge}
def Qe(s:AS)(u:Out):Bool:=u.upd.all fun p=>u.rd.contains p.1||s.freshB p.1
theorem BR{u:Out}(h:Qe s u=true):mG s u:=by
 intro k hk;obtain⟨p,hp,rfl⟩:=anx.1 hk;have:=ap3.1 h p hp;simp only[aqy]at this;rcases this with h |h
 ·exact .inl (by simpa using h)
 ·exact .inr (AS.fresh_of h)
theorem Vi{f:FuncId}{fn:Func}{c:Code}{rs:List ResultVar}{args:List AV}{r:AV}(hf:P.funcs[f]?=some fn)(hb:fn.body=some c)
  (hn : (fn.name == "runtime.NumGoroutine") = false) (Ao : fn.results = rs.toArray) (hN : fn.ntmps = N)
  (h:cq P N c (q7 P rs r []) ⟨q9 0 args,[]⟩):kK P f args r :=
 P8 hf hb hn Ao hN (fun k z h=>by cases h) h
theorem KF{x r:AV}(h:x=r):aD s (fD [x]) r []:=h▸aD.pure
theorem o7{x r:AV}(h:Sub x r):aD s (fD [x]) r []:=aD.pure.sub h
theorem oJ{x y r:AV}(h:AV.tup [x,y]=r):aD s (fD [x,y]) r []:=h▸aD.pure
theorem yU{x y z r:AV}(h:AV.tup [x,y,z]=r):aD s (fD [x,y,z]) r []:=h▸aD.pure
theorem fv{x r:AV}(h:Sub x r):aD s x r []:=aD.pure.sub h
theorem gX{d:Nat}{x y:arg}{k k':IntKind}{a b c:Int}{S T t:ari}
  (hx:Ev s x (.v (.int k a))) (hy:Ev s y (.v (.int k' b))) (hb:0<=b) (hc:a.fdiv (2^(min b.toNat k.bits))=c) (hN:aly d N=true) :
  Step P N R s ⟨some d,.binOp .shr S x y T,t,pos,after,none⟩ ⟨some (.v (.int k c)),[],az x++az y,[]⟩:=hc▸Z7 hx hy hb hN
theorem kH{d:Nat}{x y:arg}{k k':IntKind}{a b c:Int}{S T t:ari}
  (hx:Ev s x (.v (.int k a))) (hy:Ev s y (.v (.int k' b))) (hb:0<=b) (hc:k.wrap (a*2^(min b.toNat k.bits))=c) (hN:aly d N=true) :
  Step P N R s ⟨some d,.binOp .shl S x y T,t,pos,after,none⟩ ⟨some (.v (.int k c)),[],az x++az y,[]⟩:=hc▸adt hx hy hb hN
theorem ib{d:Nat}{x y:arg}{k:IntKind}{a b c:Int}{S T t:ari}
  (hx:Ev s x (.v (.int k a))) (hy:Ev s y (.v (.int k b))) (hb:b≠0) (hc:k.wrap (a.tdiv b)=c) (hN:aly d N=true) :
  Step P N R s ⟨some d,.binOp .quo S x y T,t,pos,after,none⟩ ⟨some (.v (.int k c)),[],az x++az y,[]⟩:=hc▸aex hx hy hb hN
theorem Dc{d:Nat}{x y:arg}{k:IntKind}{a b c:Int}{S T t:ari}
  (hx:Ev s x (.v (.int k a))) (hy:Ev s y (.v (.int k b))) (hb:b≠0) (hc:a.tmod b=c) (hN:aly d N=true) :
  Step P N R s ⟨some d,.binOp .rem S x y T,t,pos,after,none⟩ ⟨some (.v (.int k c)),[],az x++az y,[]⟩:=hc▸VC hx hy hb hN
theorem mN{d:Nat}{op:BinOp}{x y:arg}{k:IntKind}{a b c:Int}{S T t:ari}
  (hx:Ev s x (.v (.int k a))) (hy:Ev s y (.v (.int k b))) (cP:(match op with | .and | .or | .xor | .andNot=>true |_=>false)=true) (hc:tO op k a b=c) (hN:aly d N=true) :
  Step P N R s ⟨some d,.binOp op S x y T,t,pos,after,none⟩ ⟨some (.v (.int k c)),[],az x++az y,[]⟩:=hc▸WD hx hy cP hN
theorem fg{x y:arg}{k sz i:Nat}{es:List AV}{e v:AV}{T t:ari}{ti:TI}
  (hx:Ev s x (.eptr k sz i 0)) (hk:s.blk k=some (.row sz es)) (he:es[i]?=some e) (mg:e.cells.length=sz) (hy:Ev s y v) (hv:v.ok=true) (hnm:v.nm=[]) (hT:aJ P T=some ti)
  (bH:amq v.cells.length ti.size=true) (hs:amq ti.size sz=true) :
  Step P N R s ⟨none,.store T x y,t,pos,after,none⟩ ⟨none,[(k,some (.row sz (es.set i v)))],az x++az y,[k]⟩:=by
 have h1:=apy bH;have h2:=apy hs;refine Mr hx hk he hy hv hnm hT bH (by rw[al3];omega) ?_;unfold over;rw[List.take_zero,nil_append,aqm oz,append_nil]
theorem Sub.int{k:IntKind}{a b:Int}(h:a=b):Sub (.v (.int k a)) (.v (.int k b)):=h▸.refl _
theorem BlkSub.of{x y:Blk}(h:x=y):BlkSub x y:=h▸.refl _
theorem Sub.of{x y:AV}(h:x=y):Sub x y:=h▸.refl _
theorem ay{α:Type}{l:List α}{i:Nat}(h:i<l.length):∃x,l[i]?=some x:=⟨_,aps h⟩
theorem aA{α:Type}{f:α->AV}{l:List α}{i:Nat}{x:α}(h:l[i]?=some x):(l.map f)[i]?=some (f x):=by simp[h]
theorem Y3{c:Code}{Q:Exit->AS->Prop}{t sz:Nat}{es:List AV}(ht:s.get t=some (.lst sz es))(h:es.length<=bf->cq P N c Q s):cq P N c Q s:=by
 refine aaz (p:=es.length<=bf) ?_ h;intro C m a w hr;obtain⟨_,h2⟩:=hr.slots t _ ht;generalize a.tmps.getD t undef=u at h2;cases h2 with
 |lst0=>exact apx _
 |lst u hb hc hl=>exact hl
theorem lW{x y:Nat}(h:x+y<18446744073709551616):IntKind.u64.wrap (jv .add (x:Int) (y:Int))=((x+y:Nat):Int):=by
 show IntKind.u64.wrap ((x:Int)+y)=_;rw[IntWalk.u64_in _ oz];simp
theorem B3{x y:Nat}(h:x*y<18446744073709551616):IntKind.u64.wrap (jv .mul (x:Int) (y:Int))=((x*y:Nat):Int):=by
 show IntKind.u64.wrap ((x:Int)*y)=_;rw[<- Int.natCast_mul,IntWalk.u64_in _ oz]
theorem oK{x y:Nat}(hx:x<18446744073709551616)(hy:y<18446744073709551616) :
  IntKind.u64.wrap (jv .sub (x:Int) (y:Int))=((if y<=x then x-y else x+18446744073709551616-y:Nat):Int):=by
 show IntKind.u64.wrap ((x:Int)-y)=_;simp only[IntKind.wrap,IntKind.signed,IntKind.bits,aox,if_false,aoz];split <;> omega
theorem fm(x:Nat):IntKind.u32.wrap (x:Int)=((x%4294967296:Nat):Int):=by
 simp only[IntKind.wrap,IntKind.signed,IntKind.bits,aox,if_false,aoz];omega
theorem u64_in{x:Nat}(h:x<18446744073709551616):IntKind.u64.wrap (x:Int)=(x:Int):=IntWalk.u64_in _ oz
theorem u32_in{x:Nat}(h:x<4294967296):IntKind.u32.wrap (x:Int)=(x:Int):=IntWalk.u32_in _ oz
theorem i64_in{x:Int}(h:-9223372036854775808<=x/\x<=9223372036854775807):IntKind.i64.wrap x=x:=IntWalk.i64_in _ h
theorem jV(x n:Nat)(hn:n<=64):(x:Int).fdiv (2^(min (n:Int).toNat IntKind.u64.bits))=((x/2^n:Nat):Int):=by
 have:min (n:Int).toNat IntKind.u64.bits=n:=by simp[IntKind.bits];omega
 rw[this,aoc _ (Int.le_of_lt (Int.pow_pos (by decide)))];simp
theorem mU{x:Nat}(h:0<x)(hx:x<=bf):IntKind.i64.wrap (jv .sub (x:Int) 1)=((x-1:Nat):Int):=by
 show IntKind.i64.wrap ((x:Int)-1)=_;unfold bf at hx;rw[IntWalk.i64_in _ oz];omega
theorem MI{x:Nat}(hx:x<=bf):IntKind.i64.wrap (jv .add (x:Int) 1)=((x+1:Nat):Int):=by
 show IntKind.i64.wrap ((x:Int)+1)=_;unfold bf at hx;rw[IntWalk.i64_in _ oz];omega
theorem aN{x:Nat}(hx:x<=bf:=by unfold bf;omega):IntKind.i64.wrap (jv .add (x:Int) 1)=((x+1:Nat):Int):=MI hx
theorem m9{x y:Nat}(hx:x<=bf)(hy:y<=bf):IntKind.i64.wrap (jv .add (x:Int) (y:Int))=((x+y:Nat):Int):=by
 show IntKind.i64.wrap ((x:Int)+y)=_;unfold bf at hx hy;rw[IntWalk.i64_in _ oz];omega
abbrev aI:Nat:=1099511627776
def i64(n:Int):AV:=.v (.int .i64 n)
def u32(n:Nat):AV:=.v (.int .u32 n)
def u64(n:Nat):AV:=.v (.int .u64 n)
def bl(b:Bool):AV:=.v (.bool b)
def ws(l:List Nat):AV:=.lst 1 (l.map u32)
def ak(m:List Nat)(i:Nat):Nat:=m.getD i 0
theorem cI{m:List Nat}(h:Ws m)(i:Nat):ak m i<4294967296:=by
 unfold ak;rw[apq];cases hi:m[i]? with
 |none=>simp
 |some x=>exact h x (apo hi)
theorem mC{m:List Nat}{i:Nat}(h:i<m.length):m[i]?=some (ak m i):=by
 rw[aps h,ak,apq,aps h];rfl
theorem wk{m:List Nat}{i:Nat}(h:m.length<=i):ak m i=0:=by
 rw[ak,apq,ap6 h];rfl
theorem dc{m:List Nat}{i:Nat}(h:i<m.length):(m.map u32)[i]?=some (u32 (ak m i)):=aA (mC h)
theorem eV{l:List Nat}{i:Nat}:val (l.take (i+1))=val (l.take i)+4294967296^i*ak l i:=by
 rcases apz i l.length with h |h
 ·exact Mn (mC h)
 ·rw[wk h,gS h,gS oz];simp
theorem aa4{c:Code}{Q:Exit->AS->Prop}{α:Type}{f:α->AV}{l:List α}{t sz:Nat}(ht:s.get t=some (.lst sz (l.map f)))(h:l.length<=bf->cq P N c Q s):cq P N c Q s :=
 Y3 ht (fun hl=>h (by simpa using hl))
theorem Cq{k sz off len:Nat}{es:List AV}(h:off+len<=es.length):AV.fz k sz es (.ms k sz off len)=.lst sz ((es.drop off).take len):=by
 have h1:Nat.ble (off+len) es.length=true:=amg h;have h2:∀n,amq n n=true:=fun n=>alv n
 simp only[AV.fz,h1,h2,Bool.and_self]
theorem b8{k sz len:Nat}{es:List AV}(h:len=es.length):AV.fz k sz es (.ms k sz 0 len)=.lst sz es:=by
 subst h;rw[Cq oz,aq1,ap5]
theorem kp{m:List Nat}{i:Int}{n:Nat}(h:i=n)(hn:n<m.length):(m.map u32)[i.toNat]?=some (u32 (ak m n)):=by
 subst h;exact dc hn
theorem ko{α:Type}{f:α->AV}{l:List α}{i:Int}{n:Nat}{x:α}(h:i=n)(hx:l[n]?=some x):(l.map f)[i.toNat]?=some (f x):=by
 subst h;exact aA hx
theorem sL{d:Nat}{x ix:arg}{kk:IntKind}{i:Int}{k sz off len n:Nat}{T E t:ari}{ti te:TI}
  (hx:Ev s x (.ms k sz off len)) (hi:Ev s ix (.v (.int kk i))) (hT:aJ P T=some ti) (hk:ti.k=.slice E) (hE:aJ P E=some te) (bH:te.size=sz)
  (h0:i=(n:Int)) (he:n<len) (hN:aly d N=true) :
  Step P N R s ⟨some d,.indexAddr T x ix,t,pos,after,none⟩ ⟨some (.eptr k sz (off+n) 0),[],az x++az ix,[]⟩:=by
 subst h0;have:=qW (R:=R) (t:=t) (pos:=pos) (after:=after) hx hi hT hk hE bH oz oz hN
 rwa [aqo]at this
theorem S7{a b:List Nat}{i:Nat}(ha:i<a.length)(hb:i<b.length)(h:ak a i=ak b i):a[i]=b[i]:=by
 have h1:=mC ha;have h2:=mC hb;rw[aps ha]at h1;rw[aps hb]at h2;rw[Option.some.inj h1,Option.some.inj h2,h]
theorem eF{x y:Int}(h:-9223372036854775808<=x+y/\x+y<=9223372036854775807):IntKind.i64.wrap (jv .add x y)=x+y:=i64_in h
theorem fu{x y:Int}(h:-9223372036854775808<=x-y/\x-y<=9223372036854775807):IntKind.i64.wrap (jv .sub x y)=x-y:=i64_in h
theorem GS{x y:Int}(h:-9223372036854775808<=x*y/\x*y<=9223372036854775807):IntKind.i64.wrap (jv .mul x y)=x*y:=i64_in h
theorem cM{d:Nat}{x ix:arg}{kk:IntKind}{i:Int}{k sz len n:Nat}{T E t:ari}{ti te:TI}
  (hx:Ev s x (.ms k sz 0 len)) (hi:Ev s ix (.v (.int kk i))) (hT:aJ P T=some ti) (hk:ti.k=.slice E) (hE:aJ P E=some te) (bH:te.size=sz)
  (h0:i=(n:Int)) (he:n<len) (hN:aly d N=true) :
  Step P N R s ⟨some d,.indexAddr T x ix,t,pos,after,none⟩ ⟨some (.eptr k sz n 0),[],az x++az ix,[]⟩:=by
 have:=sL (R:=R) (t:=t) (pos:=pos) (after:=after) hx hi hT hk hE bH h0 he hN
 rwa [ams]at this
theorem o1{x w:Bool}(h:x=w):(x==w)=true:=by subst h;exact beq_self_eq_true x
theorem o2{c x w:Bool}(hc:c=true)(h:x=w):(c&&x==w)=true:=by subst h;subst hc;simp
theorem o3{c x w:Bool}(h:(c&&x==w)=true):c=true:=by cases c <;> simp_all
end Go.Lw
namespace Go.Lw
variable{P:arj}{N:Nat}{R:Array Oper}{s:AS}{pos:String}{after:Array Edge}
mutual
theorem AV.fz_id(k sz:Nat)(es:List AV):∀x:AV,¬x.Names k->x.fz k sz es=x
 | .ms k' sz' off len,h=>by
  have:amq k' k=false:=by
   cases hb:amq k' k
   ·rfl
   ·obtain rfl:=apy hb;exact ard (AV.Names.ms _ _ _ _) h
  simp only[AV.fz,this,aox]
 | .agg cs,h=>by simp only[AV.fz];rw[AV.fzs_id k sz es cs (fun c hc hn=>h (.agg hc hn))]
 | .tup cs,h=>by simp only[AV.fz];rw[AV.fzs_id k sz es cs (fun c hc hn=>h (.tup hc hn))]
 | .fn f cs,h=>by simp only[AV.fz];rw[AV.fzs_id k sz es cs (fun c hc hn=>h (.fn hc hn))]
 | .cl f cs ds,_=>by simp only[AV.fz]
 | .opt b x,h=>by simp only[AV.fz];rw[AV.fz_id k sz es x (fun hn=>h (.opt hn))]
 | .v x,_=>by simp only[AV.fz]
 | .lst sz l,_=>by simp only[AV.fz]
 | .iptr l,_=>by simp only[AV.fz]
 | .ptr k off,_=>by simp only[AV.fz]
 | .eptr k sz i off,_=>by simp only[AV.fz]
 | .yl k,_=>by simp only[AV.fz]
theorem AV.fzs_id(k sz:Nat)(es:List AV):∀l:List AV,(∀c∈l,¬c.Names k)->AV.fzs k sz es l=l
 |[],_=>by simp only[AV.fzs]
 |x::l,h=>by simp only[AV.fzs];rw[AV.fz_id k sz es x (h x (by simp)),AV.fzs_id k sz es l (fun c hc=>h c (by simp[hc]))]
end
theorem akk{k sz:Nat}{es:List AV}{x:Blk}(h:¬x.Names k):x.map (AV.fz k sz es)=x:=by
 cases x with
 |row=>rfl
 |vec=>rfl
 |box cs =>
  simp only[Blk.map];congr 1;rw[<- AV.fzs_eq];exact AV.fzs_id k sz es cs (fun c hc hn=>h ⟨c,hc,hn⟩)
 |loop d st pe sl =>
  simp only[Blk.map];congr 1
  induction sl with
  |nil=>rfl
  |cons p sl ih =>
   obtain⟨t,x⟩:=p;simp only[mM];rw[ih (fun⟨t',x',h1,h2⟩=>h ⟨t',x',aqq _ h1,h2⟩)];cases x with
   |none=>rfl
   |some x=>simp only[AV.fz_id k sz es x (fun hn=>h ⟨t,x,aqr ..,hn⟩)]
theorem ach{o:Oper}{d k sz n:Nat}{es:List AV}{rt rd:List Nat}(hd:o.dst=some d)(hn:n=es.length)(IK:d∉rd)(pa:d≠k)
  (h:Step P N R s o ⟨some (.ms d sz 0 n),[(d,some (.row sz es)),(k,none)],rt,rd⟩):Step P N R s o ⟨some (.lst sz es),[(d,none),(k,none)],rt,rd⟩:=by
 refine⟨fun s' aH eK C m a w Q next hC hr hnext=>?_⟩
 have hfr:s'.Fresh d:=by
  rcases eK d (by simp)with h |h
  ·exact ard h IK
  ·exact h
 refine h.run s' aH eK C m a w Q next hC hr (fun m' a' w' hr'=>?_);rw[hd]at hr'
 have hk:(s'.app (some d) ⟨some (.ms d sz 0 n),[(d,some (.row sz es)),(k,none)],rt,rd⟩).blk d=some (.row sz es):=by
  simp[AS.blk,AS.app,a5]
 obtain⟨m2,iG⟩:=Wk.freeze hk C m' a' w' hr';refine hnext m2 a' w' ?_;rw[hd];refine iG.congr ?_ ?_
 ·intro t;simp only[AS.get,vl,AS.app,a5];split
  ·subst hn;have e1:amq d d=true:=alv d;have e2:amq sz sz=true:=alv sz;have e3:Nat.ble (0+es.length) es.length=true:=amg oz;simp only[apm,AV.fz,e1,e2,e3,Bool.and_self,aq1,ap5]
  ·cases hx:lk s'.sl t with
   |none=>rfl
   |some x=>simp only[apm];rw[AV.fz_id _ _ _ _ (hfr.2.2.1 t x hx)]
 ·intro k';simp only[AS.blk,se,AS.app,ans,nil_append,a5]
  by_cases h1:k'=d
  ·rw[aq7 h1,aq7 h1]
  ·rw[aq6 h1,aq6 h1,aq6 h1];split
   ·rfl
   ·cases hx:lk s'.hp k' with
    |none=>rfl
    |some x=>simp only[apm];rw[akk (hfr.2.2.2 k' x hx)]
theorem pY{d k sz len:Nat}{es xs:List AV}{x y:arg}{T E t:ari}{ti te:TI}
  (hx:Ev s x (.ms k sz 0 len)) (hk:s.blk k=some (.row sz es)) (bV:len=es.length) (hy:Ev s y (.lst sz xs)) (hT:aJ P T=some ti) (nk:ti.k=.slice E) (hE:aJ P E=some te)
  (bH:te.size=sz) (dl:(amq te.zero.length te.size&&aly 0 te.size&&aly 0 te.bytes)=true) (hb:(len+xs.length)*te.bytes<=140737488355328) (pa:amq d k=false)
  (hN:aly d N=true) :
  Step P N R s ⟨some d,.call ⟨.builtin .append,#[x,y],#[T,T]⟩,t,pos,after,none⟩
   ⟨some (.lst sz (es++xs)),[(d,none),(k,none)],az x++az y,[k]⟩ :=
 ach rfl (by rw[aqk,bV]) (by simpa using al1 pa) (al1 pa) (cF hx hk bV hy hT nk hE bH dl hb pa hN)
theorem Pi{ρ:arg->arh}{d:Option Tmp}{x y:arg}{T t:ari}{w w':ark}{v:arh}
  (h:(Builtin.copy_ #[T,T] t #[ρ x,ρ y]).run P w=.ok v w') :
  (execOp ρ ⟨d,.call ⟨.builtin .copy,#[x,y],#[T,T]⟩,t,pos,after,none⟩).run P w=.ok (.value v) w':=by
 simp[execOp,resolve,invoke,builtin,h]
set_option maxHeartbeats 1000000 in
theorem YL{d k sz len:Nat}{es xs:List AV}{x y:arg}{T E t:ari}{ti te:TI}
  (hx:Ev s x (.ms k sz 0 len)) (hk:s.blk k=some (.row sz es)) (bV:len=es.length) (hy:Ev s y (.lst sz xs)) (hT:aJ P T=some ti) (nk:ti.k=.slice E) (hE:aJ P E=some te)
  (bH:te.size=sz) (iT:aly 0 te.size=true) (hb:xs.length<=len) (hN:aly d N=true) :
  Step P N R s ⟨some d,.call ⟨.builtin .copy,#[x,y],#[T,T]⟩,t,pos,after,none⟩
   ⟨some (.v (.int .i64 xs.length)),[(k,some (.row sz (xs++es.drop xs.length)))],az x++az y,[k]⟩:=by
 refine HW rfl ?_;intro s' aH eK C m a w next hC hr hnext;subst bH;subst bV
 rw[al5]at hN iT;have fc:lk s'.hp k=some (.row te.size es):=(aH.2 k (by simp)).trans hk;have hd:d<C.nt:=by omega
 have jc:=(hx.agree aH (fun _ h=>ap2.2 (.inl h))).rep hr;have qw:=(hy.agree aH (fun _ h=>ap2.2 (.inr h))).rep hr;obtain⟨dd2,h3,h4,-,hu⟩:=f6 hT w;obtain rfl:=mb (h4.trans nk);obtain⟨ll,kW⟩:∃ll,ll=es.length:=⟨_,rfl⟩
 rw[<- kW]at jc
 have RX:∀(w':ark),RelM C ⟨s'.sl,(k,some (.row te.size (xs++es.drop xs.length)))::s'.hp⟩ m a w'->next (a.put (some d) (goInt xs.length)) w':=by
  intro w' hr';refine hnext m _ _ ?_;have:=hr'.put d (.int .i64 xs.length) (some (.v (.int .i64 xs.length))) (fun z hz=>by cases hz;exact⟨aqd hd hr'.nt,.v _⟩);simpa[AS.app,Act.put,goInt]using this
 have RY:∀(b1 a1:Option Addr)(c1 c2 l1:Nat),a.eval x=.slice b1 l1 c1->a.eval y=.slice a1 0 c2->xs=[] ->
   (⟨some d,.call ⟨.builtin .copy,#[x,y],#[T,T]⟩,t,pos,after,none⟩:Oper).upon P a next (fun _ _ _=>False) ((execOp a.eval ⟨some d,.call ⟨.builtin .copy,#[x,y],#[T,T]⟩,t,pos,after,none⟩).run P w):=by
  intro b1 a1 c1 c2 l1 e1 e2 e3;subst e3
  have qB:(Builtin.firstCells te.size 0 (.slice a1 0 c2)).run P w=.ok #[] w:=by
   cases a1 with
   |none=>rfl
   |some a1=>exact run_firstCells_some w _ _ a1 _ _ [] (by simp) (by simp)
  have gO:(Builtin.copy_ #[T,T] t #[.slice b1 l1 c1,.slice a1 0 c2]).run P w=.ok (goInt 0) w:=by
   have e0:Nat.min 0 l1=0:=Nat.zero_min _;cases b1 with
   |none=>simp[Builtin.copy_,h3,kj hE,Builtin.lenOf,e0,qB]
   |some b1=>simp[Builtin.copy_,h3,kj hE,Builtin.lenOf,e0,qB,storeCells]
  rw[Pi (ρ:=a.eval) (by rw[e1,e2];exact gO)];refine RX w ?_;refine RelM.congr (s:=s') (fun t=>rfl) ?_ hr;intro k';simp only[AS.blk,a5];split
  ·subst_vars;rw[fc];rfl
  ·rfl
 rcases OP qw iT with⟨rfl,a1,cap1,mj⟩ |⟨b1,off1,cap1,cs,mj,fJ,eM,aks,s7,gP,iU,bA⟩
 ·generalize ig:a.eval x=u at jc;cases jc with
  |ms0 a0=>exact RY _ _ _ _ _ ig mj rfl
  |ms hm hc hS=>exact RY _ _ _ _ _ ig mj rfl
 ·obtain ⟨akt, aku, t1, f1, oy⟩:=eM;have fI:(cs.extract off1 (off1 + xs.length * te.size)).toList.length = xs.length * te.size:=by simp; omega
  have sZ:∀(j:Nat) v,(cs.extract off1 (off1+xs.length*te.size)).toList[j]?=some v->w.cell? ((⟨b1,off1,none⟩:Addr).add j)=some v:=by
   intro j v hj;rw[mX,vB oy];rw[apd,ao5]at hj;split at hj
   ·exact hj
   ·cases hj
  have kV:∀u∈(cs.extract off1 (off1+xs.length*te.size)).toList,u.oneCell'=true:=by
   intro u hu;obtain⟨p,hp,rfl⟩:=an4.1 hu;rw[fI]at hp;have hi':p/te.size<xs.length:=by rw[al9 iT];exact hp
   have he:=aps hi';have mg:=gP _ _ he;have lG:p%te.size<te.size:=alw _ iT;have o9:=aps (show p%te.size<(xs[p/te.size]).cells.length by omega);have w9:p/te.size*te.size+p%te.size=p:=by rw[alx];exact amy _ _
   have qD:cs[off1+p/te.size*te.size+p%te.size]?=some ((cs.extract off1 (off1+xs.length*te.size)).toList[p]'oz):=by
    rw[al4,w9];simp only[Array.getElem_toList,Array.getElem_extract];exact apa oz
   exact(bA _ _ _ _ _ he o9 qD).one (iU _ _ _ _ he o9)
  generalize ig:a.eval x=u at jc;cases jc with
  |ms0 a0=>omega
  | @ms _ _ _ _ _ cap b hm hc hS =>
   subst kW;obtain⟨c,t2,hw,hn,hl,iI,xc,no⟩:=xF hr.heap fc hm;have ID:xs.length*te.size<=es.length*te.size:=aqi _ hb;have qB:=run_firstCells_some (P:=P) w te.size xs.length ⟨b1,off1,none⟩ xs.length cap1 _ fI sZ;have ep:=H5 (P:=P) (cs.extract off1 (off1+xs.length*te.size)).toList c w 0 0 hw (by rw[fI];omega) kV;simp only[amj]at ep;have akz:Nat.min xs.length es.length=xs.length:=amb hb
   have gO:(Builtin.copy_ #[T,T] t #[.slice (some ⟨b,0*te.size,none⟩) es.length cap,.slice (some ⟨b1,off1,none⟩) xs.length cap1]).run P w =
     .ok (goInt xs.length) { w with heap:=w.heap.setIfInBounds b (.cells (over c.toList 0 (cs.extract off1 (off1+xs.length*te.size)).toList).toArray t2 (0,0)) }:=by
    rw[Nat.zero_mul];generalize(cs.extract off1 (off1+xs.length*te.size)).toList=news at qB ep ⊢;simp[Builtin.copy_,h3,kj hE,Builtin.lenOf,akz,qB,ep]
   rw[Pi (ρ:=a.eval) (by rw[ig,mj];exact gO)];refine RX _ ?_
   have cB:(over c.toList 0 (cs.extract off1 (off1+xs.length*te.size)).toList).toArray.size=c.size:=by
    simp only[am6];rw[yG _ _ _ (by rw[fI];simp;omega)];simp
   refine hr.write (x':=.row te.size (xs++es.drop xs.length)) fc hm hw cB rfl (fun g S hg hS hw'=>?_)
   have Ap:∀(i:Nat)(e:AV),(xs++es.drop xs.length)[i]?=some e->(i<xs.length/\xs[i]?=some e)\/(xs.length<=i/\es[i]?=some e):=by
    intro i e he;rcases apz i xs.length with h |h
    ·rw[aqc h]at he;exact .inl ⟨h,he⟩
    ·rw[aqb h,aqv,show xs.length+(i-xs.length)=i by omega]at he;exact .inr ⟨h,he⟩
   refine .row hw' ?_ (by simp;omega) ?_ ?_ ?_
   ·rw [cB];have:(xs ++ es.drop xs.length).length = es.length:=by simp; omega
    rw[this];exact hn
   ·intro i e he;rcases Ap i e he with⟨_,h⟩ |⟨_,h⟩
    ·exact gP i e h
    ·exact iI i e h
   ·intro i j e z he hz;rcases Ap i e he with⟨_,h⟩ |⟨_,h⟩
    ·exact iU i j e z h hz
    ·exact xc i j e z h hz
   ·intro i j e u z he hz hu;refine Rep.mono hg hS ?_ (fun _ _ _ h=>h);rw [ant,mS _ _ _ (by rw [fI]; simp; omega),aq6 oz,fI] at hu;rcases Ap i e he with ⟨hi,h⟩ | ⟨hi,h⟩
    ·have hj:j<te.size:=by
      rw[<- gP i e h];rcases apz j e.cells.length with h |h
      ·exact h
      ·rw[ap6 h]at hz;cases hz
     have:=qH (sz:=te.size) hi;rw[aq7 oz,apd,ao5,aq7 oz]at hu;exact bA i j e z u h hz (by rw[<- hu];congr 1;omega)
    ·have h9:xs.length*te.size<=i*te.size:=aqi _ hi;rw[aq6 oz,apd]at hu;exact no i j e u z h hz hu
theorem Sub.lst{sz:Nat}{es es':List AV}(hn:es.length=es'.length)(h:∀(i:Nat)(e e':AV),es[i]?=some e->es'[i]?=some e'->oo e e'):Sub (.lst sz es) (.lst sz es'):=by
 intro g S m v hv;cases hv with
 |lst0 a cap =>
  have:es'=[]:=anr (by rw[<- hn];rfl);subst this;exact .lst0 _ _ _
 | @lst _ b off cap _ _ cs u hb hc hl hs h1 hu hr =>
  have hg:∀(i:Nat)(e':AV),es'[i]?=some e'->∃e,es[i]?=some e/\oo e e':=by
   intro i e' he';obtain⟨e,he⟩:=l0 hn.symm he';exact⟨e,he,h i e e' he he'⟩
  have:=Rep.lst (g:=g) (S:=S) (m:=m) (b:=b) (off:=off) (cap:=cap) (sz:=sz) (es:=es') u hb oz oz
   (fun i e' he'=>by obtain⟨e,he,hc⟩:=hg i e' he';rw[<- hc.1];exact hs i e he)
   (fun i j e' x' he' hx'=>by
    obtain⟨e,he,hc⟩:=hg i e' he';obtain⟨x,hx⟩:=l0 hc.1.symm hx';exact(hc.2 j x x' hx hx').1)
   (fun i j e' x' he' hx'=>by
    obtain⟨e,he,hc⟩:=hg i e' he';obtain⟨x,hx⟩:=l0 hc.1.symm hx';exact hu i j e x he hx)
   (fun i j e' x' he' hx'=>by
    obtain⟨e,he,hc⟩:=hg i e' he';obtain⟨x,hx⟩:=l0 hc.1.symm hx';exact(hc.2 j x x' hx hx').2 _ _ _ _ (hr i j e x he hx))
  rwa [<- hn]at this
end Go.Lw
namespace Go.Lw
variable{P:arj}{N:Nat}{R:Array Oper}{s:AS}{pos:String}{after:Array Edge}
mutual
def AV.fb(k:Nat)(xs:List AV):AV->AV
  | .ptr k' off=>match amq k' k with
    |true=>.iptr (xs.drop off)
    |false=>.ptr k' off
  | .agg cs=>.agg (AV.fbs k xs cs)
  | .tup cs=>.tup (AV.fbs k xs cs)
  | .fn f cs=>.fn f (AV.fbs k xs cs)
  | .opt b x=>.opt b (AV.fb k xs x)
  | .v x=>.v x
  | .lst sz l=>.lst sz l
  | .iptr l=>.iptr l
  | .ms k sz off len=>.ms k sz off len
  | .eptr k sz i off=>.eptr k sz i off
  | .yl k=>.yl k
  | .cl f cs ds=>.cl f cs ds
def AV.fbs(k:Nat)(xs:List AV):List AV->List AV
  |[]=>[]
  |x::l=>AV.fb k xs x::AV.fbs k xs l
end
theorem AV.fbs_eq(k:Nat)(xs:List AV):∀l,AV.fbs k xs l=l.map (AV.fb k xs)
 |[]=>rfl
 |x::l=>by simp only[AV.fbs,aq2,AV.fbs_eq k xs l]
theorem AV.fb_one(k:Nat)(xs:List AV)(x:AV)(h:x.one=true):(x.fb k xs).one=true:=by
 cases x <;> simp only[AV.fb] <;> first |exact h |(split <;> rfl)
theorem H8{g:Nat->Array arh->Prop}{S:Nat->Nat->Prop}{k:Nat}{xs:List AV}{m:Nat->Option Nat}{v:arh}{x:AV}(h:Rep g S m v x)
  (hb:∀b,m k=some b->∃c:Array arh,g b c/\c.size=xs.length/\(∀(j:Nat)(x:AV),xs[j]?=some x->x.one=true) /\
   ∀(j:Nat)(u:arh)(x:AV),c[j]?=some u->xs[j]?=some x->Rep g S eP u x):Rep g S m v (x.fb k xs):=by
 induction h with
 |v x=>exact .v x
 |lst0 a cap sz'=>exact .lst0 a cap sz'
 |lst u hb' hc hl hs h1 hu hr _=>exact .lst u hb' hc hl hs h1 hu hr
 |iptr u hb' h1 hu hr _=>exact .iptr u hb' h1 hu hr
 |ms0 a k' sz' off=>exact .ms0 _ _ _ _
 |ms hm hc hS=>exact .ms hm hc hS
 |eptr h=>exact .eptr h
 |yl h=>exact .yl h
 |opt h h' ih=>exact .opt (fun uQ=>ih uQ hb) h'
 |agg hn h1 hr ih =>
  simp only[AV.fb,AV.fbs_eq];refine .agg (by simpa using hn) ?_ ?_
  ·intro j c hc;simp only[apv,apt]at hc;obtain⟨y,hy,rfl⟩:=hc;exact AV.fb_one _ _ _ (h1 j y hy)
  ·intro j u c hu hc;simp only[apv,apt]at hc;obtain⟨y,hy,rfl⟩:=hc;exact ih j u y hu hy hb
 |tup hn hr ih =>
  simp only[AV.fb,AV.fbs_eq];refine .tup (by simpa using hn) ?_;intro j u c hu hc;simp only[apv,apt]at hc;obtain⟨y,hy,rfl⟩:=hc;exact ih j u y hu hy hb
 |fn hn hr ih =>
  simp only[AV.fb,AV.fbs_eq];refine .fn (by simpa using hn) ?_;intro j u c hu hc;simp only[apv,apt]at hc;obtain⟨y,hy,rfl⟩:=hc;exact ih j u y hu hy hb
 |cl hn hr hn' hr' _ _=>exact .cl hn hr hn' hr'
 | @ptr mm k' off b hm =>
  simp only[AV.fb];split
  ·rename_i h1;obtain rfl:=apy h1;obtain⟨c,IH,bH,ho,hr⟩:=hb b hm
   have jd:∀(j:Nat)(x:AV),(xs.drop off)[j]?=some x->∃u,c[off+j]?=some u:=by
    intro j x hx;rw[aqv]at hx
    have hi:off+j<xs.length:=by
     rcases apz (off+j) xs.length with h |h
     ·exact h
     ·rw[ap6 h]at hx;cases hx
    exact⟨_,apa oz⟩
   refine .iptr (fun j=>c.getD (off+j) undef) IH (fun j x hx=>?_) (fun j x hx=>?_) (fun j x hx=>?_)
   ·rw[aqv]at hx;exact ho _ x hx
   ·obtain⟨u,hu⟩:=jd j x hx;rw[ap1,hu];rfl
   ·obtain⟨u,hu⟩:=jd j x hx;rw[aqv]at hx;rw[ap1,hu];exact hr _ u x hu hx
  ·exact .ptr hm
theorem Wk.freezeB{k:Nat}{xs:List AV}(hk:s.blk k=some (.box xs))(hnm:(xs.all fun x=>x.nm.isEmpty)=true):Wk s ⟨mM (AV.fb k xs) s.sl,j9 (AV.fb k xs) k s.hp⟩:=by
 intro C m a w hr;refine⟨m,?_⟩
 have uR:∀k' z,lk ((k,none)::s.hp) k'=some z->lk s.hp k'=some z:=by
  intro k' z hz;rw[a5]at hz;split at hz
  ·cases hz
  ·exact hz
 have bA:=hr.fewer uR
 have hb:∀b,m k=some b->∃c:Array arh,Im C.ext ((k,none)::s.hp) m w b c/\c.size=xs.length/\(∀(j:Nat)(x:AV),xs[j]?=some x->x.one=true) /\
   ∀(j:Nat)(u:arh)(x:AV),c[j]?=some u->xs[j]?=some x->Rep (Im C.ext ((k,none)::s.hp) m w) (Sz w) eP u x:=by
  intro b hm;obtain⟨c,t,hw,hn,ho,bn⟩:=CV hr.heap hk hm;have eM:=ia (ext:=C.ext) (Frame.refl (bh s.hp m) w) (hp':=(k,none)::s.hp) (m':=m) (fun k' z b' hz hb'=>.inl ⟨k',z,uR k' z hz,hb'⟩);refine⟨c,⟨(hr.heap.sep k _ b hk hm).1,?_,t,(0,0),hw⟩,hn,ho,fun j u x hu hx=>(bn j u x hu hx).mono eM (fun _ _ h=>h) (fun k' _ hn _=>?_)⟩
  ·rintro⟨k',z,hz,hb'⟩;have:=hr.heap.inj k k' _ z b hk (uR k' z hz) hm hb';subst this;rw[a5,aq7 rfl]at hz;cases hz
  ·have h9:=ap3.1 hnm x (apo hx);have h8:=AV.Names.mem hn;rw[List.isEmpty_iff.1 h9]at h8;cases h8
 have eW:∀k' z,lk (j9 (AV.fb k xs) k s.hp) k'=some z->∃y,lk ((k,none)::s.hp) k'=some y/\z=y.map (AV.fb k xs):=by
  intro k' z hz;rw[se]at hz;split at hz
  ·cases hz
  ·rename_i b9;simp only[apt]at hz;obtain⟨y,hy,rfl⟩:=hz;exact⟨y,by rw[a5,aq6 b9];exact hy,rfl⟩
 have uM:∀k' y,lk ((k,none)::s.hp) k'=some y->lk (j9 (AV.fb k xs) k s.hp) k'=some (y.map (AV.fb k xs)):=by
  intro k' y hy;rw[a5]at hy;split at hy
  ·cases hy
  ·rename_i b9;rw[se,aq6 b9,hy];rfl
 have e1:bh (j9 (AV.fb k xs) k s.hp) m=bh ((k,none)::s.hp) m:=by
  funext b;apply propext;constructor
  ·rintro⟨k',z,hz,hb⟩;obtain⟨y,hy,_⟩:=eW k' z hz;exact⟨k',y,hy,hb⟩
  ·rintro⟨k',y,hy,hb⟩;exact⟨k',_,uM k' y hy,hb⟩
 have e2:Im C.ext (j9 (AV.fb k xs) k s.hp) m w=Im C.ext ((k,none)::s.hp) m w:=by funext b cs;simp only[Im,e1]
 refine⟨?_,⟨?_,?_,?_⟩,bA.frame,?_,?_,bA.defers,bA.nt⟩
 ·intro t x hx;simp only[AS.get,vl,apt]at hx;obtain⟨y,hy,rfl⟩:=hx;obtain⟨g1,g2⟩:=bA.slots t y hy;refine⟨g1,?_⟩;show Rep (Im C.ext (j9 (AV.fb k xs) k s.hp) m w) _ _ _ _;rw[e2];exact H8 g2 hb
 ·intro k' z hz;obtain⟨y,hy,rfl⟩:=eW k' z hz;rw[e2];have:=bA.heap.blk k' y hy;cases y with
  |row sz' es'=>exact this
  |vec vs =>
   simp only[Blk.map];generalize m k'=o at this;cases this with
   |vec hw hc h1=>exact .vec hw hc h1
  |loop=>exact this.mapLoop _ (fun _ _ _ _ h=>H8 h hb)
  |box cs =>
   simp only[Blk.map];generalize m k'=o at this;cases this with
   |box hw hn h1 bn =>
    refine .box hw (by simpa using hn) ?_ ?_
    ·intro j x hx;simp only[apv,apt]at hx;obtain⟨y,hy,rfl⟩:=hx;exact AV.fb_one _ _ _ (h1 j y hy)
    ·intro j u x hu hx;simp only[apv,apt]at hx;obtain⟨y,hy,rfl⟩:=hx;exact H8 (bn j u y hu hy) hb
 ·intro k1 k2 z1 z2 b g1 g2;obtain⟨y1,uP,_⟩:=eW k1 z1 g1;obtain⟨y2,rE,_⟩:=eW k2 z2 g2;exact bA.heap.inj k1 k2 y1 y2 b uP rE
 ·intro k' z b hz hb;obtain⟨y,hy,_⟩:=eW k' z hz;exact bA.heap.sep k' y b hy hb
 ·intro k' z b hz hb;obtain⟨y,hy,_⟩:=eW k' z hz;exact bA.new k' y b hy hb
 ·intro k' z rC hz;obtain⟨y,hy,_⟩:=eW k' z hz;exact bA.keep k' y rC hy
def xQ(P:arj)(t:ari):Bool:=match P.underlying t with |some (.int .i64)=>true |_=>false
theorem EY{P:arj}{t:ari}(h:xQ P t=true):P.underlying t=some (.int .i64):=by
 unfold xQ at h;split at h
 ·assumption
 ·cases h
def E3(P:arj)(T:ari):Bool:=match P.underlying T with
  |some (.struct fs)=>(match fs.toList with
    | [f, g] => f.name != "_" && g.name != "_" && amq f.offset 0 && amq g.offset 1 && xQ P f.type && xQ P g.type
    |_=>false)&&!P.stoodInHeld T&&!P.eqGuardType P.depth T
  |_=>false
theorem X6{P:arj}{T:ari}(h:E3 P T=true)(w:ark)(a b c d:Int) :
  (Op.equalIn 10000 T (.agg #[.int .i64 a,.int .i64 b]) (.agg #[.int .i64 c,.int .i64 d])).run P w=.ok (a==c&&b==d) w/\P.eqGuardType P.depth T=false:=by
 unfold E3 at h;split at h
 ·rename_i fs hu;rw[apw,apw]at h;obtain⟨⟨h,h1⟩,h2⟩:=h;split at h
  ·rename_i f g hfs;simp only [apw] at h;obtain ⟨⟨⟨⟨⟨g1,g2⟩,g3⟩,g4⟩,g5⟩,g6⟩:=h;have hF:P.fieldsOf T = fs:=by unfold Program.fieldsOf; rw [hu]
   have hs:P.stoodInHeld T=false:=by simpa using h1
   refine ⟨?_,by simpa using h2⟩;have u5:=EY g5;have u6:=EY g6;have o3:=apy g3;have o4:=apy g4;have n1 : f.name ≠ "_" := by simpa using g1
   have n2 : g.name ≠ "_" := by simpa using g2
   rw[run_equalIn_struct w 9999 T _ _ (by rw[hF];exact hu) hs,hF,hfs]
   have e1:∀(x:Int)(y:Int),(part f.type #[.int .i64 x,.int .i64 y] f.offset).run P w=.ok (.int .i64 x) w:=by
    intro x y;simp[part,isAgg,run_underlying u5,o3]
   have e2:∀(x:Int)(y:Int),(part g.type #[.int .i64 x,.int .i64 y] g.offset).run P w=.ok (.int .i64 y) w:=by
    intro x y;simp[part,isAgg,run_underlying u6,o4]
   have e3:∀(x y:Int),(Op.equalIn 9999 f.type (.int .i64 x) (.int .i64 y)).run P w=.ok (x==y) w:=fun x y=>run_equalIn_int w 9998 f.type .i64 .i64 x y u5
   have e4:∀(x y:Int),(Op.equalIn 9999 g.type (.int .i64 x) (.int .i64 y)).run P w=.ok (x==y) w:=fun x y=>run_equalIn_int w 9998 g.type .i64 .i64 x y u6
   simp only[Op.eqFields,n1,n2,ne_eq,not_false_eq_true,if_true,arm,e1,e2,e3,e4,arl,Sem.run_ite];cases(a==c) <;> cases(b==d) <;> simp
  ·cases h
 ·cases h
theorem Yb{d:Nat}{x y:arg}{a b c e:Int}{S T t:ari}(hx:Ev s x (.agg [.v (.int .i64 a),.v (.int .i64 b)]))(hy:Ev s y (.agg [.v (.int .i64 c),.v (.int .i64 e)]))
  (hS:E3 P S=true) (hN:aly d N=true) :
  Step P N R s ⟨some d,.binOp .eql S x y T,t,pos,after,none⟩ ⟨some (.v (.bool (a==c&&b==e))),[],az x++az y,[]⟩ :=
 fj rfl rfl hN fun s' aH C m ac w hr=>⟨.bool (a==c&&b==e),by
  have h:=(hx.agree aH (fun _ h=>ap2.2 (.inl h))).rep hr;have h':=(hy.agree aH (fun _ h=>ap2.2 (.inr h))).rep hr
  have pair:∀{v:arh}{p q:Int},Rep (Im C.ext s'.hp m w) (Sz w) m v (.agg [.v (.int .i64 p),.v (.int .i64 q)])->v=.agg #[.int .i64 p,.int .i64 q]:=by
   intro v p q hv;cases hv with
   | @agg _ vs _ hn h1 bn =>
    have i0:0<vs.size:=by rw[hn];simp
    have i1:1<vs.size:=by rw[hn];simp
    have r0:=bn 0 vs[0] _ (by simp[i0]) rfl;have r1:=bn 1 vs[1] _ (by simp[i1]) rfl;generalize dl:vs[0]=z0 at r0;generalize iT:vs[1]=z1 at r1;cases r0;cases r1
    congr 1;refine Array.ext (by rw[hn];rfl) (fun i hi _=>?_)
    match i,hi with
    |0,_=>exact dl
    |1,_=>exact iT
    |i+2,hi=>rw[hn]at hi;simp at hi;omega
  have hu:=pair h;have hv:=pair h';obtain⟨r1,r2⟩:=X6 hS w a b c e;simp only[execOp,hu,hv,arm,run_eqGuard_agg w .eql S x y _ _ r2,arl,run_eql_struct,r1,arn],.v _⟩
end Go.Lw
namespace Go.Lw
theorem SlW.k {sl l : di} {x y : AV} {t : Nat} (hl : SlW sl l) (h : lk sl t = some y := by exact rfl)
  (hs:Sub y x:=by first |exact Sub.refl _ |exact Sub.nil _ _ _ |exact Sub.nM _ _ _ |exact Sub.int oz):SlW sl ((t,some x)::l):=.cons h hs hl
open Go.Proofs
abbrev FP(f:FuncId)(a:List AV)(r:AV):Prop:=kK prog f a r
theorem Xa:prog.follows .mixedOrders=true:=by kernel_rfl
theorem T3:aJ prog 3=some ⟨1,8,[.int .i64 0],.int .i64,[]⟩:=by kernel_rfl
theorem T4:aJ prog 4=some ⟨1,1,[.bool false],.bool,[]⟩:=by kernel_rfl
theorem T5:aJ prog 5=some ⟨1,1,[.int .u8 0],.int .u8,[]⟩:=by kernel_rfl
theorem T9:aJ prog 9=some ⟨1,16,[.string ⟨#[]⟩],.string,[]⟩:=by kernel_rfl
theorem T22:aJ prog 22=some ⟨1,24,[.slice none 0 0],.slice 139,[]⟩:=by kernel_rfl
theorem T23:aJ prog 23=some ⟨1,24,[.slice none 0 0],.slice 135,[]⟩:=by kernel_rfl
theorem T24:aJ prog 24=some ⟨1,24,[.slice none 0 0],.slice 151,[]⟩:=by kernel_rfl
theorem T26:aJ prog 26=some ⟨4,88,[.string ⟨#[]⟩,.slice none 0 0,.slice none 0 0,.slice none 0 0],.struct,[(0,1),(1,1),(2,1),(3,1)]⟩:=by kernel_rfl
theorem T33:aJ prog 33=some ⟨1,24,[.slice none 0 0],.slice 48,[]⟩:=by kernel_rfl
theorem T35:aJ prog 35=some ⟨1,16,[.nilIface],.iface 1,[]⟩:=by kernel_rfl
theorem T38:aJ prog 38=some ⟨1,24,[.slice none 0 0],.slice 115,[]⟩:=by kernel_rfl
theorem T41:aJ prog 41=some ⟨1,8,[.int .i64 0],.int .i64,[]⟩:=by kernel_rfl
theorem T42:aJ prog 42=some ⟨1,24,[.slice none 0 0],.slice 53,[]⟩:=by kernel_rfl
theorem T44:aJ prog 44=some ⟨1,24,[.slice none 0 0],.struct,[(0,1)]⟩:=by kernel_rfl
theorem T45:aJ prog 45=some ⟨1,24,[.slice none 0 0],.slice 55,[]⟩:=by kernel_rfl
theorem T46:aJ prog 46=some ⟨1,24,[.slice none 0 0],.slice 3,[]⟩:=by kernel_rfl
theorem T48:aJ prog 48=some ⟨3,72,[.slice none 0 0,.slice none 0 0,.slice none 0 0],.struct,[(0,1),(1,1),(2,1)]⟩:=by kernel_rfl
theorem T52:aJ prog 52=some ⟨1,24,[.slice none 0 0],.slice 106,[]⟩:=by kernel_rfl
theorem T53:aJ prog 53=some ⟨1,24,[.slice none 0 0],.slice 106,[]⟩:=by kernel_rfl
theorem T55:aJ prog 55=some ⟨4,96,[.slice none 0 0,.slice none 0 0,.slice none 0 0,.slice none 0 0],.struct,[(0,1),(1,1),(2,1),(3,1)]⟩:=by kernel_rfl
theorem T65:aJ prog 65=some ⟨2,16,[.int .i64 0,.int .i64 0],.struct,[(0,1),(1,1)]⟩:=by kernel_rfl
theorem T104:aJ prog 104=some ⟨1,24,[.slice none 0 0],.slice 354,[]⟩:=by kernel_rfl
theorem T106:aJ prog 106=some ⟨3,56,[.bool false,.slice none 0 0,.slice none 0 0],.struct,[(0,1),(1,1),(2,1)]⟩:=by kernel_rfl
theorem T115:aJ prog 115=some ⟨4,64,[.bool false,.slice none 0 0,.slice none 0 0,.bool false],.struct,[(0,3),(3,1)]⟩:=by kernel_rfl
theorem T117:aJ prog 117=some ⟨2,48,[.slice none 0 0,.slice none 0 0],.struct,[(0,1),(1,1)]⟩:=by kernel_rfl
theorem T124:aJ prog 124=some ⟨6,112,[.bool false,.slice none 0 0,.slice none 0 0,.bool false,.slice none 0 0,.slice none 0 0],.struct,[(0,3),(3,3)]⟩:=by kernel_rfl
theorem T130:aJ prog 130=some ⟨1,24,[.slice none 0 0],.slice 169,[]⟩:=by kernel_rfl
theorem T135:aJ prog 135=some ⟨7,64,[.string ⟨#[]⟩,.int .i64 0,.int .i64 0,.int .i64 0,.int .i64 0,.int .i64 0,.int .i64 0],.struct,[(0,1),(1,1),(2,1),(3,1),(4,1),(5,1),(6,1)]⟩:=by kernel_rfl
theorem T137:aJ prog 137=some ⟨1,24,[.slice none 0 0],.slice 141,[]⟩:=by kernel_rfl
theorem T139:aJ prog 139=some ⟨2,40,[.string ⟨#[]⟩,.slice none 0 0],.struct,[(0,1),(1,1)]⟩:=by kernel_rfl
theorem T141:aJ prog 141=some ⟨7,128,[.string ⟨#[]⟩,.bool false,.slice none 0 0,.slice none 0 0,.bool false,.slice none 0 0,.slice none 0 0],.struct,[(0,1),(1,3),(4,3)]⟩:=by kernel_rfl
theorem T147:aJ prog 147=some ⟨1,8,[.nilFunc],.other,[]⟩:=by kernel_rfl
theorem T149:aJ prog 149=some ⟨9,176,[.string ⟨#[]⟩,.slice none 0 0,.slice none 0 0,.slice none 0 0,.slice none 0 0,.slice none 0 0,.nilFunc,.bool false,.slice none 0 0],.struct,[(0,4),(4,1),(5,1),(6,1),(7,1),(8,1)]⟩:=by kernel_rfl
theorem T151:aJ prog 151=some ⟨2,24,[.string ⟨#[]⟩,.int .i64 0],.struct,[(0,1),(1,1)]⟩:=by kernel_rfl
theorem T169:aJ prog 169=some ⟨4,64,[.int .i64 0,.slice none 0 0,.slice none 0 0,.int .i64 0],.struct,[(0,1),(1,1),(2,1),(3,1)]⟩:=by kernel_rfl
theorem T180:aJ prog 180=some ⟨2,40,[.slice none 0 0,.nilIface],.struct,[(0,1),(1,1)]⟩:=by kernel_rfl
theorem T182:aJ prog 182=some ⟨12,240,[.string ⟨#[]⟩,.slice none 0 0,.slice none 0 0,.slice none 0 0,.int .i64 0,.slice none 0 0,.slice none 0 0,.int .i64 0,.slice none 0 0,.slice none 0 0,.slice none 0 0,.nilIface],.struct,[(0,4),(4,4),(8,3),(11,1)]⟩:=by kernel_rfl
theorem T185:aJ prog 185=some ⟨14,272,[.bool false,.slice none 0 0,.slice none 0 0,.bool false,.slice none 0 0,.slice none 0 0,.slice none 0 0,.slice none 0 0,.bool false,.slice none 0 0,.slice none 0 0,.bool false,.slice none 0 0,.slice none 0 0],.struct,[(0,6),(6,2),(8,6)]⟩:=by kernel_rfl
theorem T191:aJ prog 191=some ⟨3,72,[.slice none 0 0,.slice none 0 0,.slice none 0 0],.struct,[(0,2),(2,1)]⟩:=by kernel_rfl
theorem T200:aJ prog 200=some ⟨19,392,[.bool false,.slice none 0 0,.slice none 0 0,.bool false,.slice none 0 0,.slice none 0 0,.slice none 0 0,.slice none 0 0,.bool false,.slice none 0 0,.slice none 0 0,.bool false,.slice none 0 0,.slice none 0 0,.slice none 0 0,.slice none 0 0,.slice none 0 0,.slice none 0 0,.slice none 0 0],.struct,[(0,6),(6,2),(8,6),(14,1),(15,1),(16,1),(17,2)]⟩:=by kernel_rfl
theorem T239:aJ prog 239=some ⟨2,32,[.bool false,.slice none 0 0],.struct,[(0,1),(1,1)]⟩:=by kernel_rfl
theorem T252:aJ prog 252=some ⟨1,24,[.slice none 0 0],.slice 257,[]⟩:=by kernel_rfl
theorem T257:aJ prog 257=some ⟨3,56,[.slice none 0 0,.slice none 0 0,.int .i64 0],.struct,[(0,1),(1,1),(2,1)]⟩:=by kernel_rfl
theorem T292:aJ prog 292=some ⟨2,40,[.slice none 0 0,.nilIface],.struct,[(0,1),(1,1)]⟩:=by kernel_rfl
theorem T301:aJ prog 301=some ⟨2,40,[.slice none 0 0,.nilIface],.struct,[(0,1),(1,1)]⟩:=by kernel_rfl
theorem T316:aJ prog 316=some ⟨1,8,[.pointer none],.pointer 322,[]⟩:=by kernel_rfl
theorem T320:aJ prog 320=some ⟨1,24,[.slice none 0 0],.slice 4,[]⟩:=by kernel_rfl
theorem T322:aJ prog 322=some ⟨8,184,[.string ⟨#[]⟩,.slice none 0 0,.slice none 0 0,.slice none 0 0,.slice none 0 0,.slice none 0 0,.slice none 0 0,.slice none 0 0],.struct,[(0,4),(4,1),(5,1),(6,1),(7,1)]⟩:=by kernel_rfl
theorem T352:aJ prog 352=some ⟨1,8,[.int .u64 0],.int .u64,[]⟩:=by kernel_rfl
theorem T354:aJ prog 354=some ⟨1,4,[.int .u32 0],.int .u32,[]⟩:=by kernel_rfl
theorem T355:aJ prog 355=some ⟨1,8,[.int .u64 0],.int .u64,[]⟩:=by kernel_rfl
theorem T387:aJ prog 387=some ⟨1,24,[.slice none 0 0],.slice 191,[]⟩:=by kernel_rfl
theorem T390:aJ prog 390=some ⟨1,24,[.slice none 0 0],.slice 117,[]⟩:=by kernel_rfl
theorem T429:aJ prog 429=some ⟨2,48,[.slice none 0 0,.slice none 0 0],.struct,[(0,1),(1,1)]⟩:=by kernel_rfl
theorem T446:aJ prog 446=some ⟨1,8,[.int .i64 0],.int .i64,[]⟩:=by kernel_rfl
theorem T460:aJ prog 460=some ⟨1,24,[.slice none 0 0],.slice 124,[]⟩:=by kernel_rfl
theorem T465:aJ prog 465=some ⟨1,24,[.slice none 0 0],.slice 185,[]⟩:=by kernel_rfl
theorem T470:aJ prog 470=some ⟨1,8,[.int .u64 0],.int .u64,[]⟩:=by kernel_rfl
theorem T476:aJ prog 476=some ⟨1,8,[.nilFunc],.other,[]⟩:=by kernel_rfl
theorem nT{k:Nat}{x:Blk}{m:Nat->Option Nat}{b:Nat}:bh [(k,some x)] m b↔m k=some b:=by
 constructor
 ·rintro⟨k',y,hy,hb⟩;rw[a5]at hy;split at hy
  ·rename_i e;rw[<- e]at *;exact hb
  ·cases hy
 ·intro h;exact⟨k,x,by rw[a5,aq7 rfl],h⟩
theorem i9{k k':Nat}{x:Option Blk}{z:Blk}(h:lk [(k,x)] k'=some z):k'=k/\x=some z:=by
 rw[a5]at h;split at h
 ·rename_i e;exact⟨e,h⟩
 ·cases h
theorem nQ{ext:Nat->Prop}{k d:Nat}{x y:Blk}{m m2:Nat->Option Nat}{w:ark}(h:m2 d=m k):Im ext [(d,some y)] m2 w=Im ext [(k,some x)] m w:=by
 funext b cs;apply propext;have:bh [(d,some y)] m2 b↔bh [(k,some x)] m b:=by rw[nT,nT,h]
 simp only[Im,this]
theorem wd{ext:Nat->Prop}{k d sz:Nat}{es:List AV}{m m2:Nat->Option Nat}{w:ark}(h:m2 d=m k)(hr:HeapRel ext [(k,some (.row sz es))] m w):HeapRel ext [(d,some (.row sz es))] m2 w:=by
 refine⟨?_,?_,?_⟩
 ·intro k' z hz;obtain⟨rfl,h9⟩:=i9 hz;cases h9;have h1:=hr.blk k _ (by rw[a5,aq7 rfl]);rw[nQ h (y:=.row sz es) (x:=.row sz es)];exact BlkRep.mono (w:=w) (fun _ _ h=>h) (fun _ _ h=>h) (fun _ _ hn=>hn.elim) h (fun _ _=>rfl) h1
 ·intro k1 k2 z z' b h1 h2 _ _;rw[(i9 h1).1,(i9 h2).1]
 ·intro k' z b hz hb;obtain⟨rfl,h9⟩:=i9 hz;cases h9;exact hr.sep k _ b (by rw[a5,aq7 rfl]) (h▸hb)
mutual
def AV.sc:AV->Bool
  | .v _=>true
  | .agg cs=>AV.scs cs
  | .tup cs=>AV.scs cs
  |_=>false
def AV.scs:List AV->Bool
  |[]=>true
  |x::l=>x.sc&&AV.scs l
end
theorem AV.scs_mem:∀{l:List AV}{c:AV},AV.scs l=true->c∈l->c.sc=true
 |x::l,c,h,hc=>by
  simp only[AV.scs,apw]at h;rcases aqf.1 hc with rfl |hc
  ·exact h.1
  ·exact AV.scs_mem h.2 hc
theorem H0{g g':Nat->Array arh->Prop}{S S':Nat->Nat->Prop}{m m':Nat->Option Nat}{v:arh}{x:AV}(hx:x.sc=true)(h:Rep g S m v x):Rep g' S' m' v x:=by
 induction h with
 |v=>exact .v _
 |agg hn h1 hr ih=>exact .agg hn h1 (fun j u c hu hc=>ih j u c hu hc (AV.scs_mem hx (apo hc)))
 |tup hn hr ih=>exact .tup hn (fun j u c hu hc=>ih j u c hu hc (AV.scs_mem hx (apo hc)))
 |_=>cases hx
def Blk.sc:Blk->Bool
  | .row _ es=>es.all fun e=>e.cells.all AV.sc
  | .box cs=>cs.all AV.sc
  | .loop _ _ _ _=>false
  | .vec _=>true
theorem afc{g g':Nat->Array arh->Prop}{S S':Nat->Nat->Prop}{m m':Nat->Option Nat}{w:ark}{o:Option Nat}{x:Blk}(hx:x.sc=true)(h:BlkRep g S m w o x):BlkRep g' S' m' w o x:=by
 cases h with
 |none=>exact .none _
 |box hw hn h1 hr =>
  refine .box hw hn h1 (fun j u x hu hc=>H0 ?_ (hr j u x hu hc));exact ap3.1 hx x (apo hc)
 |row hw hn hl hs h1 hr =>
  refine .row hw hn hl hs h1 (fun i j e u x he hc hu=>H0 ?_ (hr i j e u x he hc hu));exact ap3.1 (ap3.1 hx e (apo he)) x (apo hc)
 |loop=>cases hx
 |vec hw hc h1=>exact .vec hw hc h1
theorem ma{g:Nat->Array arh->Prop}{S:Nat->Nat->Prop}{m m':Nat->Option Nat}{v:arh}{x:AV}(hx:x.nm=[])(h:Rep g S m v x):Rep g S m' v x :=
 h.mono (fun _ _ h=>h) (fun _ _ h=>h) (fun k b hk=>by have:=hk.mem;rw[hx]at this;cases this)
theorem Con.rk{P:arj}{f:FuncId}{k sz off len:Nat}{xs es es':List AV}{r:AV}(d:Nat)(pb:(xs.all fun x=>x.nm.isEmpty)=true)(hr:r.nm=[])
  (h:Con P f (.ms k sz off len::xs) [(k,some (.row sz es))] r [(k,some (.row sz es'))]):Con P f (.ms d sz off len::xs) [(d,some (.row sz es))] r [(d,some (.row sz es'))]:=by
 refine⟨h.ok,?_⟩;intro ext m w vs hext cQ dW dC
 have h1 := h.ret ext (fun _ => m d) w vs hext (wd (k := d) rfl cQ) (by simpa using dW) (by
  intro j v x hv hx;rw[nQ (d:=k) (k:=d) (y:=.row sz es) (x:=.row sz es) (m2:=fun _=>m d) (m:=m) rfl]
  match j,hx with
  |0,hx =>
   cases hx;have h2:=dC 0 v _ hv rfl;cases h2 with
   |ms0 a=>exact .ms0 a _ _ _
   |ms hm hc hS=>exact .ms hm hc hS
  |j+1,hx =>
   have h2:=dC (j+1) v x hv hx;refine ma ?_ h2;have:=ap3.1 pb x (apo hx);simpa using this)
 refine Calls.mono h1 ?_;rintro e w' ⟨v,m',rfl,hf,hh,hn,hk,bn⟩
 have ho:bh [(k,some (Blk.row sz es))] (fun _=>m d)=bh [(d,some (Blk.row sz es))] m:=by
  funext b;apply propext;rw[nT,nT]
 refine⟨v,fun _=>m' k,rfl,ho▸hf,wd (k:=k) rfl hh,?_,?_,?_⟩
 ·intro k' x b hx hb;rw[<- ho];exact hn k _ b (by rw[a5,aq7 rfl]) hb
 ·intro k' x y hx hy;obtain⟨rfl,_⟩:=i9 hx;exact hk k _ _ (by rw[a5,aq7 rfl]) (by rw[a5,aq7 rfl])
 ·rw[nQ (d:=d) (k:=k) (y:=.row sz es') (x:=.row sz es') (m2:=fun _=>m' k) (m:=m') rfl];exact ma hr bn
theorem Con.borrowF{P:arj}{f:FuncId}{args args':List AV}{H H':Hp}{r:AV}(k sz:Nat)(es:List AV)(hk:lk H k=none)(hk':lk H' k=none)(hl:args'.length=args.length)
  (ta:∀(j:Nat)(x':AV),args'[j]?=some x'->args[j]?=some x'\/args[j]?=some (x'.fz k sz es))
  (hr:r.sc=true) (hH':∀k' x,lk H' k'=some x->x.sc=true) (h:Con P f args H r H') :
  Con P f args' ((k,some (.row sz es))::H) r ((k,some (.row sz es))::H'):=by
 refine⟨h.ok,?_⟩;intro ext m w vs hext cQ dW dC
 have lF:∀k' z,lk H k'=some z->lk ((k,some (.row sz es))::H) k'=some z:=by
  intro k' z hz;rw[a5];split
  ·rename_i e;rw[e,hk]at hz;cases hz
  ·exact hz
 have IL:∀b,bh H m b->bh ((k,some (.row sz es))::H) m b:=fun b ⟨k',z,h1,h2⟩=>⟨k',z,lF k' z h1,h2⟩
 have eM:∀b cs,Im ext ((k,some (.row sz es))::H) m w b cs->Im ext H m w b cs:=fun b cs ⟨h1,h2,h3⟩=>⟨h1,fun h'=>h2 (IL b h'),h3⟩
 have ak0:HeapRel ext H m w:=by
  refine⟨?_,?_,?_⟩
  ·intro k' z hz;exact BlkRep.mono (w:=w) eM (fun _ _ h=>h) (fun _ _ _ h=>h) rfl (fun _ _=>rfl) (cQ.blk k' z (lF k' z hz))
  ·intro k1 k2 z z' b h1 h2;exact cQ.inj k1 k2 z z' b (lF _ _ h1) (lF _ _ h2)
  ·intro k' z b hz;exact cQ.sep k' z b (lF _ _ hz)
 have fc:lk ((k,some (Blk.row sz es))::H) k=some (.row sz es):=by rw[a5,aq7 rfl]
 have qv:=cQ.blk k _ fc
 have IM:∀b,m k=some b->¬bh H m b:=by
  rintro b hb ⟨k',z,hz,hb'⟩;have:=cQ.inj k k' _ _ b fc (lF _ _ hz) hb hb';subst this;rw[hk]at hz;cases hz
 have h1 := h.ret ext m w vs hext ak0 (by rw [dW, hl]) (by
  intro j v x hv hx
  have hj:j<args'.length:=by
   rw[hl];rcases apz j args.length with h |h
   ·exact h
   ·rw[ap6 h]at hx;cases hx
  have hx':=aps hj;have h2:=dC j v _ hv hx';rcases ta j _ hx' with h3 |h5
  ·rw[hx]at h3;cases h3
   exact h2.mono eM (fun _ _ h=>h) (fun _ _ _ h=>h)
  ·rw[hx]at h5;cases h5
   have h6:=z5 (g:=Im ext H m w) (k:=k) (sz:=sz) (es:=es) (h2.mono eM (fun _ _ h=>h) (fun _ _ _ h=>h)) (by
    intro b hb;rw[hb]at qv;cases qv with
    | @row _ _ _ c t hw hn hl hs h1 hr =>
     exact⟨c,⟨(cQ.sep k _ b fc hb).1,IM b hb,t,_,hw⟩,hn,hl,hs,h1,fun i j e u x he hx hu=>(hr i j e u x he hx hu).mono eM (fun _ _ h=>h) (fun _ _ _ h=>h)⟩)
   exact h6)
 refine Calls.mono h1 ?_;rintro e w' ⟨v,m',rfl,hf,hh,hn,uN,bn⟩
 have xe:∀k' z,lk ((k,some (Blk.row sz es))::H') k'=some z->(k'=k/\z=.row sz es)\/(k'≠k/\lk H' k'=some z):=by
  intro k' z hz;rw[a5]at hz;split at hz
  ·rename_i e;cases hz;exact .inl ⟨e,rfl⟩
  ·rename_i e;exact .inr ⟨e,hz⟩
 have Ar:Frame (bh ((k,some (.row sz es))::H) m) w w':=⟨hf.os,hf.tape,hf.output,hf.size,hf.sz,fun b h1 h2=>hf.keep b h1 (fun h'=>h2 (IL b h'))⟩
 have eK:∀k' x b,lk ((k,some (Blk.row sz es))::H') k'=some x->(if k'=k then m k else m' k')=some b->bh ((k,some (.row sz es))::H) m b\/w.heap.size<=b:=by
  intro k' x b hx hb;rcases xe k' x hx with⟨rfl,rfl⟩ |⟨h2,h3⟩
  ·rw[aq7 rfl]at hb;exact .inl ⟨k',_,fc,hb⟩
  ·rw[aq6 h2]at hb;rcases hn k' x b h3 hb with h4 |h4
   ·exact .inl (IL b h4)
   ·exact .inr h4
 have ak1:=ia (ext:=ext) Ar (hp':=(k,some (.row sz es))::H') (m':=fun k'=>if k'=k then m k else m' k') eK;refine⟨v,fun k'=>if k'=k then m k else m' k',rfl,Ar,⟨?_,?_,?_⟩,eK,?_,H0 hr bn⟩
 ·intro k' z hz;rcases xe k' z hz with⟨rfl,rfl⟩ |⟨h2,h3⟩
  ·rw[aq7 rfl];exact BlkRep.mono ak1 (fun b n h=>hf.sz b n h) (fun _ _ hn=>hn.elim) rfl (fun b hb=>hf.keep b (cQ.sep k' _ b fc hb).2 (IM b hb)) qv
  ·rw[aq6 h2];exact afc (hH' k' z h3) (hh.blk k' z h3)
 ·intro k1 k2 z z' b h1 h2 cE bF
  have key:∀k' z,k'≠k->lk H' k'=some z->m k=some b->m' k'=some b->False:=by
   intro k' z b9 hz hb hb';rcases hn k' z b hz hb' with h4 |h4
   ·exact IM b hb h4
   ·have:=(cQ.sep k _ b fc hb).2;omega
  rcases xe k1 z h1 with⟨rfl,rfl⟩ |⟨h3,h4⟩ <;> rcases xe k2 z' h2 with⟨h5,rfl⟩ |⟨h5,h6⟩
  ·exact h5.symm
  ·rw[aq7 rfl]at cE;rw[aq6 h5]at bF
   exact(key k2 z' h5 h6 cE bF).elim
  ·rw[aq6 h3]at cE;rw[aq7 h5]at bF
   exact(key k1 z h3 h4 bF cE).elim
  ·rw[aq6 h3]at cE;rw[aq6 h5]at bF
   exact hh.inj k1 k2 z z' b h4 h6 cE bF
 ·intro k' z b hz hb;rcases xe k' z hz with⟨rfl,rfl⟩ |⟨h2,h3⟩
  ·rw[aq7 rfl]at hb;have:=cQ.sep k' _ b fc hb;exact⟨this.1,aqd this.2 hf.size⟩
  ·rw[aq6 h2]at hb;exact hh.sep k' z b h3 hb
 ·intro k' x y hx hy;rcases xe k' y hy with⟨rfl,rfl⟩ |⟨h2,h3⟩
  ·exact aq7 rfl
  ·have hx' : lk H k' = some x := by rw [a5, aq6 h2] at hx; exact hx
   exact(aq6 h2).trans (uN k' x y hx' h3)
theorem aeg{k sz off len:Nat}{es:List AV}(h:off+len<=es.length):AV.fz k sz es (.ms k sz off len)=.lst sz ((es.drop off).take len):=by
 have e1:Nat.ble (off+len) es.length=true:=amg h;have e2:∀n,amq n n=true:=fun n=>alv n
 simp only[AV.fz,e1,e2,Bool.and_self]
theorem Con.borrow{P:arj}{f:FuncId}{args args':List AV}{H H':Hp}{r:AV}(k sz:Nat)(es:List AV)(hk:lk H k=none)(hk':lk H' k=none)(hl:args'.length=args.length)
  (ta:∀(j:Nat)(x':AV),args'[j]?=some x'->args[j]?=some x'\/(∃off len,x'=.ms k sz off len/\off+len<=es.length/\args[j]?=some (.lst sz ((es.drop off).take len))))
  (hr:r.sc=true) (hH':∀k' x,lk H' k'=some x->x.sc=true) (h:Con P f args H r H') :
  Con P f args' ((k,some (.row sz es))::H) r ((k,some (.row sz es))::H') :=
 Con.borrowF k sz es hk hk' hl (fun j x' hj=>by
  rcases ta j x' hj with h |⟨off,len,rfl,h1,h2⟩
  ·exact .inl h
  ·exact .inr (by rw[aeg h1];exact h2)) hr hH' h
theorem Con.freeze{P:arj}{f:FuncId}{args:List AV}{k sz off len:Nat}{es:List AV}(hl:off+len<=es.length)
  (h:Con P f args [] (.ms k sz off len) [(k,some (.row sz es))]):kK P f args (.lst sz ((es.drop off).take len)):=by
 refine⟨h.ok,?_⟩;intro ext m w vs hext cQ dW dC;refine Calls.mono (h.ret ext m w vs hext cQ dW dC) ?_;rintro e w' ⟨v,m',rfl,hf,hh,hn,uN,bn⟩;have fc:lk [(k,some (Blk.row sz es))] k=some (.row sz es):=by rw[a5,aq7 rfl]
 have qv:=hh.blk k _ fc;have eM:∀b cs,Im ext [(k,some (.row sz es))] m' w' b cs->Im ext [] m' w' b cs:=fun b cs ⟨h1,h2,h3⟩=>⟨h1,(fun⟨_,_,h',_⟩=>by cases h'),h3⟩
 refine⟨v,m',rfl,hf,⟨(fun k z h=>by cases h),(fun k k' z z' b h=>by cases h),(fun k z b h=>by cases h)⟩,(fun k x b h=>by cases h),(fun k x y h=>by cases h),?_⟩
 have h6:=z5 (g:=Im ext [] m' w') (k:=k) (sz:=sz) (es:=es) (bn.mono eM (fun _ _ h=>h) (fun _ _ _ h=>h)) (by
  intro b hb;rw[hb]at qv;cases qv with
  | @row _ _ _ c t hw hn hl hs h1 hr =>
   exact⟨c,⟨(hh.sep k _ b fc hb).1,(fun⟨_,_,h',_⟩=>by cases h'),t,_,hw⟩,hn,hl,hs,h1,fun i j e u x he hx hu=>(hr i j e u x he hx hu).mono eM (fun _ _ h=>h) (fun _ _ _ h=>h)⟩)
 have h7:AV.fz k sz es (.ms k sz off len)=.lst sz ((es.drop off).take len):=by
  have e1:Nat.ble (off+len) es.length=true:=amg hl;have e2:∀n,amq n n=true:=fun n=>alv n
  simp only[AV.fz,e1,e2,Bool.and_self]
 rwa [h7]at h6
theorem Con.rekeyR{P:arj}{f:FuncId}{k sz off len off' len':Nat}{xs es es':List AV}(d:Nat)(pb:(xs.all fun x=>x.nm.isEmpty)=true)
  (h:Con P f (.ms k sz off len::xs) [(k,some (.row sz es))] (.ms k sz off' len') [(k,some (.row sz es'))]) :
  Con P f (.ms d sz off len::xs) [(d,some (.row sz es))] (.ms d sz off' len') [(d,some (.row sz es'))]:=by
 refine⟨h.ok,?_⟩;intro ext m w vs hext cQ dW dC
 have h1 := h.ret ext (fun _ => m d) w vs hext (wd (k := d) rfl cQ) (by simpa using dW) (by
  intro j v x hv hx;rw[nQ (d:=k) (k:=d) (y:=.row sz es) (x:=.row sz es) (m2:=fun _=>m d) (m:=m) rfl]
  match j,hx with
  |0,hx =>
   cases hx;have h2:=dC 0 v _ hv rfl;cases h2 with
   |ms0 a=>exact .ms0 a _ _ _
   |ms hm hc hS=>exact .ms hm hc hS
  |j+1,hx =>
   have h2:=dC (j+1) v x hv hx;refine ma ?_ h2;have:=ap3.1 pb x (apo hx);simpa using this)
 refine Calls.mono h1 ?_;rintro e w' ⟨v,m',rfl,hf,hh,hn,hk,bn⟩
 have ho:bh [(k,some (Blk.row sz es))] (fun _=>m d)=bh [(d,some (Blk.row sz es))] m:=by
  funext b;apply propext;rw[nT,nT]
 refine⟨v,fun _=>m' k,rfl,ho▸hf,wd (k:=k) rfl hh,?_,?_,?_⟩
 ·intro k' x b hx hb;rw[<- ho];exact hn k _ b (by rw[a5,aq7 rfl]) hb
 ·intro k' x y hx hy;obtain⟨rfl,_⟩:=i9 hx;exact hk k _ _ (by rw[a5,aq7 rfl]) (by rw[a5,aq7 rfl])
 ·rw[nQ (d:=d) (k:=k) (y:=.row sz es') (x:=.row sz es') (m2:=fun _=>m' k) (m:=m') rfl];cases bn with
  |ms0 a=>exact .ms0 a _ _ _
  |ms hm hc hS=>exact .ms hm hc hS
end Go.Lw
namespace Go.Lw
variable{P:arj}{N:Nat}{R:Array Oper}{s:AS}{pos:String}{after:Array Edge}
theorem Step.weaken{o:Oper}{u u':Out}(h:Step P N R s o u)(aH:∀s',jF s s' u'->jF s s' u)(nf:∀s',jF s s' u'->mG s' u)
  (hw:∀s',jF s s' u'->Wk (s'.app o.dst u) (s'.app o.dst u')):Step P N R s o u':=by
 refine⟨fun s' oB _ C m a w Q next hC hr hnext=>?_⟩
 exact h.run s' (aH s' oB) (nf s' oB) C m a w Q next hC hr (fun m' a' w' hr'=>by
  obtain⟨m'',hr''⟩:=hw s' oB C m' a' w' hr';exact hnext m'' a' w' hr'')
theorem sj{d f k sz:Nat}{es:List AV}{args:Array arg}{ts:Array ari}{xs:List AV}{r:AV}{t:ari}
  (fe:Con P f xs [(k,some (.row sz es))] r [(k,some (.row sz es))]) (ha:EvL s args.toList xs) (hk:s.blk k=some (.row sz es)) (cT:lY s [(k,some (.row sz es))] [(k,some (.row sz es))] r=true) (hN:aly d N=true) :
  Step P N R s ⟨some d,.call ⟨.value (.func f),args,ts⟩,t,pos,after,none⟩ ⟨some r,[],gE args.toList,[k]⟩:=by
 refine Step.weaken (aK (d:=d) fe ha (fun k' z h=>by
  obtain⟨rfl,h9⟩:=i9 h;cases h9;exact hk) cT hN) (fun s' h=>h) (fun s' h k' hk'=>?_) (fun s' h=>?_)
 ·left;simp only[ap8,eO,aq2,map_nil,ap2,aqf,aqg,or_false]at hk' ⊢;rcases hk' with h9 |h9 <;> exact h9
 ·intro C m a w hr;refine⟨m,hr.weak (fun t x hx=>⟨x,hx,.refl _⟩) (fun k' x hx=>⟨x,?_,.refl _⟩)⟩;have hb:lk s'.hp k=some (.row sz es):=(h.2 k (am8.2 rfl)).trans hk;show lk ([(k,some (.row sz es))]++eO [(k,some (.row sz es))]++s'.hp) k'=some x;have hx':lk s'.hp k'=some x:=hx;simp only[eO,aq2,map_nil,ans,nil_append,a5]
  by_cases e:k'=k
  ·rw[aq7 e];rw[e,hb]at hx';exact hx'
  ·rw[aq6 e,aq6 e];exact hx'
theorem Con.rekey1{P:arj}{f:FuncId}{k sz off len:Nat}{xs es es':List AV}{y r:AV}(d:Nat)(hy:y.nm=[])(pb:(xs.all fun x=>x.nm.isEmpty)=true)(hr:r.nm=[])
  (h:Con P f (y :: .ms k sz off len::xs) [(k,some (.row sz es))] r [(k,some (.row sz es'))]):Con P f (y :: .ms d sz off len::xs) [(d,some (.row sz es))] r [(d,some (.row sz es'))]:=by
 refine⟨h.ok,?_⟩;intro ext m w vs hext cQ dW dC
 have h1 := h.ret ext (fun _ => m d) w vs hext (wd (k := d) rfl cQ) (by simpa using dW) (by
  intro j v x hv hx;rw[nQ (d:=k) (k:=d) (y:=.row sz es) (x:=.row sz es) (m2:=fun _=>m d) (m:=m) rfl]
  match j,hx with
  |0,hx =>
   cases hx;exact ma hy (dC 0 v _ hv rfl)
  |1,hx =>
   cases hx;have h2:=dC 1 v _ hv rfl;cases h2 with
   |ms0 a=>exact .ms0 a _ _ _
   |ms hm hc hS=>exact .ms hm hc hS
  |j+2,hx =>
   have h2:=dC (j+2) v x hv hx;refine ma ?_ h2;have:=ap3.1 pb x (apo hx);simpa using this)
 refine Calls.mono h1 ?_;rintro e w' ⟨v,m',rfl,hf,hh,hn,hk,bn⟩
 have ho:bh [(k,some (Blk.row sz es))] (fun _=>m d)=bh [(d,some (Blk.row sz es))] m:=by
  funext b;apply propext;rw[nT,nT]
 refine⟨v,fun _=>m' k,rfl,ho▸hf,wd (k:=k) rfl hh,?_,?_,?_⟩
 ·intro k' x b hx hb;rw[<- ho];exact hn k _ b (by rw[a5,aq7 rfl]) hb
 ·intro k' x y hx hy;obtain⟨rfl,_⟩:=i9 hx;exact hk k _ _ (by rw[a5,aq7 rfl]) (by rw[a5,aq7 rfl])
 ·rw[nQ (d:=d) (k:=k) (y:=.row sz es') (x:=.row sz es') (m2:=fun _=>m' k) (m:=m') rfl];exact ma hr bn
end Go.Lw
namespace Go.Lw
variable{P:arj}{N:Nat}{Q:Exit->AS->Prop}
inductive TyT where
  |lf
  |nd (l:TyT) (k:Nat) (t:TI) (r:TyT)
def TyT.get:TyT->Nat->Option TI
  | .lf,_=>none
  | .nd l k t r,n=>match amq n k with
    |true=>some t
    |false=>match aly n k with
      |true=>l.get n
      |false=>r.get n
inductive TyT.Ok(P:arj):TyT->Prop
  |lf:TyT.Ok P .lf
  |nd {l r:TyT} {k:Nat} {t:TI} (hl:TyT.Ok P l) (h:aJ P k=some t) (hr:TyT.Ok P r):TyT.Ok P (.nd l k t r)
theorem TyT.Ok.get{T:TyT}(h:T.Ok P){n:Nat}{t:TI}(hg:T.get n=some t):aJ P n=some t:=by
 induction h with
 |lf=>cases hg
 |nd _ h _ ihl ihr =>
  unfold TyT.get at hg;split at hg
  ·rename_i hb;rw[apy hb,h];exact hg
  ·split at hg
   ·exact ihl hg
   ·exact ihr hg
structure Tys(P:arj) where
  tab:TyT
  ok:tab.Ok P
  mix:P.follows .mixedOrders=true
def jE(P:arj)[Inhabited (Tys P)](n:Nat):Option TI:=(default:Tys P).tab.get n
theorem jg[Inhabited (Tys P)]{n:Nat}{t:TI}(h:jE P n=some t):aJ P n=some t:=(default:Tys P).ok.get h
inductive AllP:List Prop->Prop
  |nil:AllP []
  |cons {p:Prop} {l:List Prop} (h:p) (hl:AllP l):AllP (p::l)
theorem AllP.app{a b:List Prop}(h:AllP (a++b)):AllP a/\AllP b:=by
 induction a with
 |nil=>exact⟨.nil,h⟩
 |cons p a ih =>
  cases h with |cons h hl=>exact⟨.cons h (ih hl).1,(ih hl).2⟩
def AV.optB:AV->Option (Bool×AV)
  | .opt b x=>some (b,x)
  |_=>none
theorem AV.optB_some{x y:AV}{b:Bool}(h:x.optB=some (b,y)):x=.opt b y:=by cases x <;> simp_all [AV.optB]
def fE(g:Bool)(G:Prop)(s:AS):arg->Option (AV×List Prop)
  | .tmp t=>match s.get t with
    |some x=>match g with
      |true=>match x.optB with
        |some (b,y)=>some (y,[G->b=true])
        |none=>some (x,[])
      |false=>some (x,[])
    |none=>none
  | .const c=>some (.v c,[])
  | .func f=>some (.v (.func (.func f) #[] #[]),[])
  | .global _=>none
theorem fN{g:Bool}{G:Prop}{s:AS}{o:arg}{x:AV}{ob:List Prop}(h:fE g G s o=some (x,ob))(ho:AllP ob)(hG:G):Ev s o x:=by
 cases o with
 |tmp t =>
  simp only[fE]at h;split at h
  ·rename_i y hy;split at h
   ·split at h
    ·rename_i b z hz;cases h;cases ho with
     |cons h1 _=>exact .opt (by rw[hy,AV.optB_some hz]) (h1 hG)
    ·cases h;exact .tmp hy
   ·cases h;exact .tmp hy
  ·cases h
 |const c=>cases h;exact .const c
 |func f=>cases h;exact .func f
 |global n=>cases h
def sR:List AV->Option (List AV)
  |[]=>some []
  |x::l=>match sR l with
    |some r=>some (x::r)
    |none=>none
theorem vZ:∀{l r:List AV},sR l=some r->r=l
 |[],r,h=>by cases h;rfl
 |x::l,r,h=>by
  unfold sR at h;split at h
  ·rename_i r' hr;cases h;rw[vZ hr]
  ·cases h
def sO(g:Bool)(G:Prop)(s:AS):List arg->Option (List AV×List Prop)
  |[]=>some ([],[])
  |o::os=>match fE g G s o with
    |some (x,a)=>match sO g G s os with
      |some (xs,b)=>some (x::xs,a++b)
      |none=>none
    |none=>none
theorem vA{g:Bool}{G:Prop}{s:AS}(hG:G):∀{os:List arg}{xs:List AV}{ob:List Prop},sO g G s os=some (xs,ob)->AllP ob->EvL s os xs
 |[],xs,ob,h,ho=>by cases h;exact .nil
 |o::os,xs,ob,h,ho=>by
  unfold sO at h;split at h
  ·rename_i x a h1;split at h
   ·rename_i ys b h2;cases h;exact .cons (fN h1 ho.app.1 hG) (vA hG h2 ho.app.2)
   ·cases h
  ·cases h
def A8(g:Bool)(G:Prop)(s:AS):List (Nat×arg)->Option (List (Nat×AV)×List Prop)
  |[]=>some ([],[])
  |p::os=>match fE g G s p.2 with
    |some (x,a)=>match A8 g G s os with
      |some (xs,b)=>some ((p.1,x)::xs,a++b)
      |none=>none
    |none=>none
theorem JX{g:Bool}{G:Prop}{s:AS}(hG:G):∀{os:List (Nat×arg)}{xs:List (Nat×AV)}{ob:List Prop},A8 g G s os=some (xs,ob)->AllP ob->EvP s os xs
 |[],xs,ob,h,ho=>by cases h;exact .nil
 |p::os,xs,ob,h,ho=>by
  unfold A8 at h;split at h
  ·rename_i x a h1;split at h
   ·rename_i ys b h2;cases h;exact .cons (fN h1 ho.app.1 hG) (JX hG h2 ho.app.2)
   ·cases h
  ·cases h
structure R1 where
  x:AV
  rt:List Nat
  rd:List Nat
  ob:List Prop
def v8:IntKind->Nat
  | .i8=>0 | .i16=>1 | .i32=>2 | .i64=>3 | .u8=>4 | .u16=>5 | .u32=>6 | .u64=>7
theorem La{a b:IntKind}(h:amq (v8 a) (v8 b)=true):a=b:=by cases a <;> cases b <;> first |rfl |(exact ard h (by decide))
def Oh:BinOp->Bool
  | .eql | .neq | .lss | .leq | .gtr | .geq=>true
  |_=>false
def yH(ti:TI)(l:List AV):Option AV:=match ti.ag with
  |true=>match sR (l.take ti.size)with
    |some r=>some (.agg r)
    |none=>none
  |false=>match amq ti.size 1,l with
    |true,x::_=>some x
    |_,_=>none
theorem Id{ti:TI}{l:List AV}{x:AV}(h:yH ti l=some x):(ti.ag||amq ti.size 1)=true/\x=oG ti.ag (l.take ti.size):=by
 unfold yH at h;split at h
 ·rename_i ha;split at h
  ·rename_i r hr;cases h;rw[ha,vZ hr];exact⟨rfl,rfl⟩
  ·cases h
 ·rename_i ha;split at h
  ·rename_i h1;cases h
   rw[ha,apy h1];exact⟨rfl,rfl⟩
  ·cases h
section
variable{s:AS}{R:Array Oper}{d:Nat}{t T:ari}{pos:String}{after:Array Edge}{r:R1}
def yJ(ti:TI)(x:arg)(f:Nat)(ob:List Prop)(y:AV):Option R1:=match ti.k with
  | .struct=>match ti.fs[f]? with
    |some (o,n)=>match aly 0 n with
      |true=>match y with
        | .ptr k off=>some ⟨.ptr k (off+o),az x,[],ob⟩
        | .eptr k sz i off=>some ⟨.eptr k sz i (off+o),az x,[],ob⟩
        | .iptr xs=>some ⟨.iptr (xs.drop o),az x,[],ob⟩
        |_=>none
      |false=>none
    |none=>none
  |_=>none
theorem ag6{x:arg}{y:AV}{f:Nat}{ti:TI}{ob:List Prop}(hx:Ev s x y)(hT:aJ P T=some ti)(h:yJ ti x f ob y=some r)(hN:aly d N=true) :
  Step P N R s ⟨some d,.fieldAddr T x f,t,pos,after,none⟩ ⟨some r.x,[],r.rt,r.rd⟩:=by
 unfold yJ at h;split at h
 ·rename_i hk;split at h
  ·rename_i o n hf;split at h
   ·rename_i hn;split at h
    ·cases h;exact aib hx hT hk hf hn hN
    ·cases h;exact acc hx hT hk hf hn hN
    ·cases h;exact XY hx hT hk hf hn hN
    ·cases h
   ·cases h
  ·cases h
 ·cases h
theorem Zh{x:arg}{y:AV}{f:Nat}{ti:TI}{ob:List Prop}(h:yJ ti x f ob y=some r):r.ob=ob:=by
 unfold yJ at h
 repeat' split at h
 all_goals first |(cases h;rfl) |cases h
end
variable[Inhabited (Tys P)]
def yQ(P:arj)[Inhabited (Tys P)](s:AS)(ti:TI)(x:arg)(ob:List Prop):AV->Option R1
  | .ptr k off=>match s.blk k with
    |some (.box cs)=>match Nat.ble (off+ti.size) cs.length with
      |true=>match yH ti (cs.drop off)with
        |some v=>some ⟨v,az x,[k],ob⟩
        |none=>none
      |false=>none
    |_=>none
  | .iptr xs=>match aly 0 ti.size&&Nat.ble ti.size xs.length with
    |true=>match yH ti xs with
      |some v=>some ⟨v,az x,[],ob⟩
      |none=>none
    |false=>none
  |_=>none
def QG:arh->Prop:=fun v=>v=.nilIface\/∃T u,v=.iface T u
def z4(P:arj)[Inhabited (Tys P)](op:BinOp)(S:ari)(x y:arg)(ob:List Prop)(vx vy:arh):Option R1:=match vy with
  | .int k b=>match vx with
    | .int k' a=>match Oh op&&amq (v8 k) (v8 k')with
      |true=>some ⟨.v (.bool (aa op a b)),az x++az y,[],ob⟩
      |false=>none
    |_=>none
  | .string b=>match vx with
    | .string a=>match op with
      | .eql=>some ⟨.v (.bool (a.toList==b.toList)),az x++az y,[],ob⟩
      | .neq=>some ⟨.v (.bool !(a.toList==b.toList)),az x++az y,[],ob⟩
      |_=>none
    |_=>none
  | .bool b=>match vx with
    | .bool a=>match jE P S with
      |some ti=>match ti.k with
        | .bool=>match op with
          | .eql=>some ⟨.v (.bool (a==b)),az x++az y,[],ob⟩
          | .neq=>some ⟨.v (.bool (a != b)),az x++az y,[],ob⟩
          |_=>none
        |_=>none
      |none=>none
    |_=>none
  | .nilIface=>match y with
    | .const _=>match jE P S with
      |some ti=>match ti.k with
        | .iface _=>match op with
          | .eql=>some ⟨.v (.bool (gI vx)),az x++[],[],QG vx::ob⟩
          | .neq=>some ⟨.v (.bool !(gI vx)),az x++[],[],QG vx::ob⟩
          |_=>none
        |_=>none
      |none=>none
    |_=>none
  |_=>none
def yC(P:arj)[Inhabited (Tys P)](x:arg)(T:ari)(ob:List Prop)(y:AV):Option R1:=match jE P T with
  |some ti=>match ti.k with
    | .slice _=>match y with
      | .ms _ _ _ len=>some ⟨.v (.int .i64 len),az x,[],ob⟩
      | .v (.slice _ n _)=>some ⟨.v (.int .i64 n),az x,[],ob⟩
      |_=>none
    | .string=>match y with
      | .v (.string b)=>some ⟨.v (.int .i64 b.size),az x,[],ob⟩
      |_=>none
    |_=>none
  |none=>none
def Of:TK->Bool
  | .int _ | .struct | .pointer _ | .string=>true
  |_=>false
def DC:Nat->List (Nat×arg)->Bool
  |_,[]=>true
  |n,p::l=>amq p.1 n&&DC (n+1) l
theorem MX:∀{l:List (Nat×arg)}{n:Nat},DC n l=true->l=qK n (l.map (·.2))
 |[],n,_=>rfl
 |(i,o)::l,n,h=>by
  simp only[DC,apw]at h;have h1:=apy h.1;subst h1;simp only[aq2,qK];rw[<- MX h.2]
def FG{α:Type}:List α->Bool
  |[]=>true
  |_=>false
theorem YH{α:Type}{l:List α}(h:FG l=true):l=[]:=by cases l <;> simp_all [FG]
def pG(g:Bool)(G:Prop)(b w:Bool):Prop:=match g with
  |true=>G/\b=w
  |false=>b=w
theorem Nx{g:Bool}{G:Prop}{b w:Bool}(hG:G)(h:b=w):pG g G b w:=by cases g <;> first |exact h |exact⟨hG,h⟩
def BG(P:arj)[Inhabited (Tys P)](g:Bool)(G:Prop)(s:AS):Op->Option R1
  | .move x=>match fE g G s x with
    |some (v,ob)=>some ⟨v,az x,[],ob⟩
    |none=>none
  | .assign x=>match fE g G s x with
    |some (v,ob)=>some ⟨v,az x,[],ob⟩
    |none=>none
  | .load T x=>match fE g G s x with
    |some (v,ob)=>match jE P T with
      |some ti=>yQ P s ti x ob v
      |none=>none
    |none=>none
  | .fieldAddr T x f=>match fE g G s x with
    |some (v,ob)=>match jE P T with
      |some ti=>yJ ti x f ob v
      |none=>none
    |none=>none
  | .extract x i=>match fE g G s x with
    |some (.tup xs,ob)=>match xs[i]? with
      |some y=>some ⟨y,az x,[],ob⟩
      |none=>none
    |_=>none
  | .unOp .not _ x=>match fE g G s x with
    |some (.v (.bool b),ob)=>some ⟨.v (.bool !b),az x,[],ob⟩
    |_=>none
  | .binOp op S x y _=>match fE g G s y with
    |some (.v vy,ob)=>match fE g G s x with
      |some (.v vx,ob')=>z4 P op S x y (ob'++ob) vx vy
      |_=>none
    |_=>none
  | .makeInterface T x=>match fE g G s x with
    |some (.v v,ob)=>match jE P T with
      |some ti=>match Of ti.k with
        |true=>some ⟨.v (.iface T v),az x,[],ob⟩
        |false=>none
      |none=>none
    |_=>none
  | .nilCheck x=>match fE g G s x with
    |some (.ptr k off,ob)=>some ⟨.ptr k off,az x,[],ob⟩
    |some (.iptr xs,ob)=>some ⟨.iptr xs,az x,[],ob⟩
    |_=>none
  | .makeFunc (.func f) first caps=>match first.toList with
    |[]=>match sO g G s caps.toList with
      |some (xs,ob)=>some ⟨.fn f xs,gE caps.toList,[],ob⟩
      |none=>none
    |_=>match caps.toList with
      |[]=>match sO g G s first.toList with
        |some (xs,ob)=>match xs.all fun x=>x.nm.isEmpty with
          |true=>some ⟨.cl f xs [],gE first.toList,[],ob⟩
          |false=>none
        |none=>none
      |_=>none
  | .build T parts=>match jE P T with
    |some ti=>match ti.k with
      | .struct=>match ti.zero.all Value.oneCell'&&ti.fs.all fun p=>aly 0 p.2 with
        |true=>match A8 g G s parts.toList with
          |some (xs,ob)=>match zZ (fun i=>ti.fs[i]?) (ti.zero.map .v) xs with
            |some l=>match sR l with
              |some l=>some ⟨.agg l,vK parts.toList,[],ob⟩
              |none=>none
            |none=>none
          |none=>none
        |false=>none
      |_=>none
    |none=>none
  | .buildSlice T n parts=>match n with
    |0=>none
    |n+1=>match jE P T with
      |some ti=>match ti.k with
        | .slice E=>match jE P E with
          |some te=>match sO g G s (parts.toList.map (·.2))with
            |some (es,ob)=>match DC 0 parts.toList&&te.zero.all Value.oneCell'&&amq te.zero.length te.size&&(es.all fun e=>amq e.cells.length te.size&&e.ok) &&
                FG (AV.nms es)&&amq (n+1) es.length&&Nat.ble ((n+1)*te.size) 16777216&&Nat.ble (n+1) 16777216 with
              |true=>some ⟨.lst te.size es,gE (parts.toList.map (·.2)),[],ob⟩
              |false=>none
            |none=>none
          |none=>none
        |_=>none
      |none=>none
  | .pick c x y=>match fE g G s c with
    |some (.v (.bool b),ob)=>match fE true (pG g G b true) s x with
      |some (.v (.bool bx),ob')=>match fE true (pG g G b false) s y with
        |some (.v (.bool bz),ob'')=>some ⟨.v (.bool (cond b bx bz)),az c++(az x++az y),[],ob++(ob'++ob'')⟩
        |_=>none
      |_=>none
    |_=>none
  | .call ⟨.builtin .len,args,ts⟩=>match args.toList with
    |[x]=>match ts.toList with
      |[T]=>match fE g G s x with
        |some (y,ob)=>yC P x T ob y
        |none=>none
      |_=>none
    |_=>none
  |_=>none
section
variable{g:Bool}{G:Prop}{s:AS}{R:Array Oper}{d:Nat}{t T:ari}{pos:String}{after:Array Edge}{r:R1}
theorem akn{x:arg}{y:AV}{ti:TI}{ob:List Prop}(hx:Ev s x y)(hT:aJ P T=some ti)(h:yQ P s ti x ob y=some r)(hN:aly d N=true) :
  Step P N R s ⟨some d,.load T x,t,pos,after,none⟩ ⟨some r.x,[],r.rt,r.rd⟩:=by
 unfold yQ at h;split at h
 ·split at h
  ·split at h
   ·split at h
    ·cases h;rename_i hk _ h1 _ v hv;obtain⟨h2,rfl⟩:=Id hv;exact ad0 hx hk hT h1 h2 hN
    ·cases h
   ·cases h
  ·cases h
 ·split at h
  ·split at h
   ·cases h;rename_i h1 _ v hv;obtain⟨h2,rfl⟩:=Id hv;exact Ww hx hT h1 h2 hN
   ·cases h
  ·cases h
 ·cases h
theorem XF{op:BinOp}{x y:arg}{vx vy:arh}{S:ari}{ob:List Prop}(hx:Ev s x (.v vx))(hy:Ev s y (.v vy))(h:z4 P op S x y ob vx vy=some r)(ho:AllP r.ob)
  (hN:aly d N=true):Step P N R s ⟨some d,.binOp op S x y T,t,pos,after,none⟩ ⟨some r.x,[],r.rt,r.rd⟩:=by
 unfold z4 at h;split at h
 ·split at h
  ·split at h
   ·rename_i hc;cases h
    simp only[apw]at hc;cases La hc.2;exact ZM hx hy (by have:=hc.1;cases op <;> simp_all [Oh]) hN
   ·cases h
  ·cases h
 ·split at h
  ·split at h
   ·cases h;exact afn hx hy hN
   ·cases h;exact aar hx hy hN
   ·cases h
  ·cases h
 ·split at h
  ·split at h
   ·rename_i ti dX;split at h
    ·rename_i hk;split at h
     ·cases h;exact afh hx hy (jg dX) hk hN
     ·cases h;exact Vk hx hy (jg dX) hk hN
     ·cases h
    ·cases h
   ·cases h
  ·cases h
 ·split at h
  ·rename_i c;have hc:c = .nilIface:=by cases hy; rfl
   subst hc;split at h
   ·rename_i ti dX;split at h
    ·rename_i hk;split at h
     ·cases h;cases ho with |cons h1 _=>exact ah9 hx h1 (jg dX) hk hN
     ·cases h;cases ho with |cons h1 _=>exact WY hx h1 (jg dX) hk hN
     ·cases h
    ·cases h
   ·cases h
  ·cases h
 ·cases h
theorem abu{op:BinOp}{x y:arg}{vx vy:arh}{S:ari}{ob:List Prop}(h:z4 P op S x y ob vx vy=some r)(ho:AllP r.ob):AllP ob:=by
 unfold z4 at h
 repeat' split at h
 all_goals first |(cases h;exact ho) |(cases h;cases ho;assumption) |cases h
theorem ago{x:arg}{y:AV}{ob:List Prop}(hx:Ev s x y)(h:yC P x T ob y=some r)(hN:aly d N=true) :
  Step P N R s ⟨some d,.call ⟨.builtin .len,#[x],#[T]⟩,t,pos,after,none⟩ ⟨some r.x,[],r.rt,r.rd⟩:=by
 unfold yC at h;split at h
 ·rename_i ti dX;have dX:=jg dX;split at h
  ·rename_i hk;split at h
   ·cases h;exact aas hx dX hk hN
   ·cases h;exact aii hx dX hk hN
   ·cases h
  ·rename_i hk;split at h
   ·cases h;exact ajk hx dX hk hN
   ·cases h
  ·cases h
 ·cases h
theorem af7{x:arg}{y:AV}{ti:TI}{ob:List Prop}(h:yQ P s ti x ob y=some r):r.ob=ob:=by
 unfold yQ at h
 repeat' split at h
 all_goals first |(cases h;rfl) |cases h
theorem Wf{x:arg}{y:AV}{ob:List Prop}(h:yC P x T ob y=some r):r.ob=ob:=by
 unfold yC at h
 repeat' split at h
 all_goals first |(cases h;rfl) |cases h
theorem Fb{op:Op}(h:BG P g G s op=some r)(ho:AllP r.ob)(hG:G)(hN:aly d N=true):Step P N R s ⟨some d,op,t,pos,after,none⟩ ⟨some r.x,[],r.rt,r.rd⟩:=by
 unfold BG at h;split at h
 ·split at h
  ·rename_i h1;cases h;exact ab1 (fN h1 ho hG) hN
  ·cases h
 ·split at h
  ·rename_i h1;cases h;exact UI (fN h1 ho hG) hN
  ·cases h
 ·split at h
  ·rename_i h1;split at h
   ·rename_i ti dX;rw[af7 h]at ho;exact akn (fN h1 ho hG) (jg dX) h hN
   ·cases h
  ·cases h
 ·split at h
  ·rename_i h1;split at h
   ·rename_i ti dX;rw[Zh h]at ho;exact ag6 (fN h1 ho hG) (jg dX) h hN
   ·cases h
  ·cases h
 ·split at h
  ·rename_i h1;split at h
   ·rename_i hy;cases h;exact Vm (fN h1 ho hG) hy hN
   ·cases h
  ·cases h
 ·split at h
  ·rename_i h1;cases h;exact Yl (fN h1 ho hG) hN
  ·cases h
 ·split at h
  ·rename_i h1;split at h
   ·rename_i h2;have:=(abu h ho).app;exact XF (fN h2 this.1 hG) (fN h1 this.2 hG) h ho hN
   ·cases h
  ·cases h
 ·split at h
  ·rename_i h1;split at h
   ·rename_i ti dX;split at h
    ·rename_i hk;cases h
     exact age (fN h1 ho hG) hN (jg dX) (by
      generalize ti.k=k at hk;cases k <;> simp_all [Of])
    ·cases h
   ·cases h
  ·cases h
 ·split at h
  ·rename_i h1;cases h;exact akh (fN h1 ho hG) hN
  ·rename_i h1;cases h;exact TN (fN h1 ho hG) hN
  ·cases h
 ·rename_i f first caps
  split at h
  ·rename_i hf;have:first = #[]:=by apply ao4.1; simpa using hf
   subst this;split at h
   ·rename_i h1;cases h;exact abj (vA hG h1 ho) hN
   ·cases h
  ·split at h
   ·rename_i hf;have:caps = #[]:=by apply ao4.1; simpa using hf
    subst this;split at h
    ·rename_i h1;split at h
     ·rename_i h2;cases h;exact Tr (vA hG h1 ho) h2 hN
     ·cases h
    ·cases h
   ·cases h
 ·split at h
  ·rename_i ti dX;split at h
   ·rename_i hk;split at h
    ·rename_i hz;simp only[apw]at hz;split at h
     ·rename_i h1;split at h
      ·rename_i hl;split at h
       ·rename_i hr;cases h;exact Y5 (JX hG h1 ho) (jg dX) hk hz.1 hz.2 (by rw[hl,vZ hr]) hN
       ·cases h
      ·cases h
     ·cases h
    ·cases h
   ·cases h
  ·cases h
 ·rename_i T n parts;split at h
  ·cases h
  ·rename_i n;split at h
   ·rename_i ti dX;split at h
    ·rename_i E hk;split at h
     ·rename_i te hte;split at h
      ·rename_i es ob h1;split at h
       ·rename_i hc;cases h;simp only[apw]at hc;obtain⟨⟨⟨⟨⟨⟨⟨c1,c2⟩,c3⟩,c4⟩,c5⟩,c6⟩,c7⟩,c8⟩:=hc;exact aid (by rw[<- MX c1]) (vA hG h1 ho) (jg dX) hk (jg hte) c2 c3 (by simpa only[apw]using c4) (YH c5) (apy c6) c7 c8 hN
       ·cases h
      ·cases h
     ·cases h
    ·cases h
   ·cases h
 ·split at h
  ·rename_i h1;split at h
   ·rename_i h2;split at h
    ·rename_i h3;cases h;have hp:=ho.app;have hq:=hp.2.app;exact acf (fN h1 hp.1 hG) (fun hb=>fN h2 hq.1 (Nx hG hb)) (fun hb=>fN h3 hq.2 (Nx hG hb)) hN
    ·cases h
   ·cases h
  ·cases h
 ·rename_i args ts;split at h
  ·rename_i x hx;split at h
   ·rename_i T hT;have e1:args = #[x]:=by apply ao4.1; simpa using hx
    have e2:ts=#[T]:=by apply ao4.1;simpa using hT
    subst e1;subst e2
    split at h
    ·rename_i h1;rw[Wf h]at ho;exact ago (fN h1 ho hG) h hN
    ·cases h
   ·cases h
  ·cases h
 ·cases h
end
end Go.Lw
namespace Go.Lw
variable{P:arj}{N:Nat}{R:Array Oper}{s:AS}{pos:String}{after:Array Edge}{Q:Exit->AS->Prop}
theorem TO{ρ:arg->arh}{o:Oper}{g:arg}{l:Nat}{args:Array arg}{ts:Array ari}(ho:o.op=.call ⟨.value g,args,ts⟩)
  (hρ:ρ g=.func (.yield l) #[] #[]):(execOp ρ o).run P=(Instr.yield l (args.map ρ)).run P:=by
 obtain⟨dst,op,type,pos,after,guard⟩:=o;subst ho;funext w;simp[execOp,resolve,hρ,Deferred.ofValue,invoke]
def wV(P:arj)(vs:Array arh)(w:ark)(R:Ending->ark->Prop):Prop :=
  ∃l f ts x y,vs[0]?=some (.func (.yield l) #[] #[])/\(Instr.yield l (vs.toList.drop 1).toArray).run P w=.ok (.round l f ts x y) w/\∀ro n,RoundIn (Fw ro) n P l f ts x y w R
theorem wV.mono{vs:Array arh}{w:ark}{R R':Ending->ark->Prop}(h:wV P vs w R)(hr:∀e w',R e w'->R' e w'):wV P vs w R':=by
 obtain⟨l,f,ts,x,y,h1,h2,h3⟩:=h;exact⟨l,f,ts,x,y,h1,h2,fun ro n=>(h3 ro n).mono hr⟩
def AO(P:arj)(k:Nat)(xs:List AV)(H:Hp)(r:AV)(H':Hp):Prop:=Eg (wV P) (.yl k::xs) H r H'
theorem ajl{d:Nat}{g:arg}{k:Nat}{args:Array arg}{ts:Array ari}{xs:List AV}{H H':Hp}{r:AV}{t:ari}
  (hg:Ev s g (.yl k)) (fe:AO P k xs H r H') (ha:EvL s args.toList xs) (hH:∀k z,lk H k=some z->s.blk k=some z) (cT:lY s H H' r=true) (hN:aly d N=true) :
  Step P N R s ⟨some d,.call ⟨.value g,args,ts⟩,t,pos,after,none⟩ ⟨some r,H'++eO H,az g++gE args.toList,H.map (·.1)⟩:=by
 refine⟨fun s' aH eK C m a w Q next hC hr hnext=>?_⟩;rw[aq7 (q5 rfl _)];intro ro n;have oB:jF s s' ⟨none,[],az g++gE args.toList,[]⟩:=⟨aH.1,fun k hk=>by cases hk⟩
 have ha':=ha.agree oB (fun _ h=>ap2.2 (.inr h));have lI:=(hg.agree oB (fun _ h=>ap2.2 (.inl h))).rep hr
 have kU:∃l,a.eval g=.func (.yield l) #[] #[]:=by
  generalize a.eval g=u at lI;cases lI;exact⟨_,rfl⟩
 obtain⟨l,kU⟩:=kU;rw[TO rfl kU];simp only[lY,apw,ap3]at cT;obtain⟨uO,An⟩:=cT
 have hc := hr.called (run := wV P) (fun _ _ _ _ h h' => wV.mono h h') fe (vs := #[Value.func (.yield l) #[] #[]] ++ args.map a.eval) (by have := ha'.length; simp at this ⊢; omega) (by
   intro j v x hv hx;cases j with
   |zero =>
    cases hx;rw[ao7,aq7 (by show 0<1;omega)]at hv;cases hv;rw[<- kU];exact lI
   |succ j =>
    refine ha'.rep hr j v x ?_ (by simpa using hx);rw[ao7,aq6 (by show ¬j+1<1;omega)]at hv;have h9:(Array.map a.eval args)[j]?=some v:=hv;simpa using h9)
  (fun k z hz=>by rw[<- hH k z hz];exact aH.2 k (r7 hz)) (by
  intro k z hz;rcases eK k (by simp only[ap8,ap2];exact .inl (r7 hz))with h |h
  ·obtain⟨p,hp,rfl⟩:=anx.1 h;exact .inl (kA.1 (uO p hp))
  ·exact .inr h) (by
  intro k hk;obtain⟨p,hp,rfl⟩:=anx.1 hk;exact uO p hp) An
 obtain⟨l',f,ts',x,y,h1,h2,h3⟩:=hc
 have hl:l'=l:=by
  rw[ao7,aq7 (by show 0<1;omega)]at h1;cases h1;rfl
 subst hl;have e1:((#[Value.func (.yield l') #[] #[]]++args.map a.eval).toList.drop 1).toArray=args.map a.eval:=by simp;rw[<- Array.toList_map,Array.toArray_toList]
 rw[e1]at h2;rw[h2];refine⟨(fun h=>by cases h),(h3 ro (n-1)).mono ?_⟩;rintro e w' ⟨v,m'',rfl,hr',bn,_⟩;rw[al5]at hN;have:=hr'.put d v (some r) (fun z hz=>by cases hz;exact⟨by have:=hr'.nt;omega,bn⟩);exact hnext m'' _ _ (by simpa[AS.app,Act.put]using this)
theorem adf{d j g:Nat}{op:Op}{t:ari}{want b:Bool}{x:AV}{upd:Hp}{rt rd:List Nat}
  (hj:(R[j]?).bind (·.dst)=some g) (hb:s.get g=some (.v (.bool b))) (hN:aly d N=true)
  (nf:b≠want->∀k∈upd.map (·.1),k∈rd/\lk upd k=s.blk k)
  (h:b=want->Step P N R s ⟨some d,op,t,pos,after,none⟩ ⟨some x,upd,rt,rd⟩) :
  Step P N R s ⟨some d,op,t,pos,after,some (j,want)⟩ ⟨some (.opt (b==want) x),upd,g::rt,rd⟩:=by
 refine⟨fun s' aH eK C m a w Q next hC hr hnext=>?_⟩;have hg:=hr.slots g _ ((aH.1 g (by simp)).trans hb)
 have rD:a.tmps[g]?=some (.bool b):=by
  obtain⟨h1,h2⟩:=hg;generalize hu:a.tmps.getD g undef=u at h2;cases h2;simp only[ap1]at hu;rw[apa h1]at hu ⊢;simpa using hu
 have hy:yielded R a.tmps j=some b:=by simp[yielded,hj,rD]
 have hd:d<a.tmps.size:=by rw[al5]at hN;have:=hr.nt;omega
 by_cases ow:b=want
 ·subst ow;have er:Region.wanted ⟨some d,op,t,pos,after,some (j,b)⟩ (yielded R a.tmps) = true:=by simp [Region.wanted,hy]
  rw[aq7 er];have:=(h rfl).run s' ⟨fun t ht=>aH.1 t (by simp[show t∈rt from ht]),aH.2⟩ eK C m a w Q next hC hr (fun m' a' w' h'=>hnext m' a' w' ?_)
  ·rw[aq7 (q5 rfl _)]at this;exact this
  ·refine⟨fun t y hy=>?_,h'.heap,h'.frame,h'.new,h'.keep,h'.defers,h'.nt⟩;simp only[lr]at hy;split at hy
   ·rename_i ni;cases hy;have:=h'.slots t x (by simp only[lr,aq7 ni]);exact⟨this.1,.opt (fun _=>this.2) (fun h=>by simp at h)⟩
   ·rename_i ni;exact h'.slots t y (by simp only[lr,aq6 ni];exact hy)
 ·have er : ¬ Region.wanted ⟨some d, op, t, pos, after, some (j, want)⟩ (yielded R a.tmps) = true := by simp [Region.wanted, hy, ow]
  rw[aq6 er];have:=hr.put d undef (some (.opt (b==want) x)) (fun y hy=>by cases hy;exact⟨hd,.opt (fun h=>ard (beq_iff_eq.1 h) ow) (fun _=>rfl)⟩);refine hnext m _ _ ?_;refine RelM.congr (s:=⟨(d,some (.opt (b==want) x))::s'.sl,s'.hp⟩) (fun t=>rfl) (fun k=>?_) (by simpa[Act.put]using this);simp only[AS.app,AS.blk,sf];split
  ·rename_i hk;obtain⟨h1,h2⟩:=nf ow k hk;rw[h2];exact aH.2 k h1
  ·rfl
theorem RelM.setLoop{C:Ctx}{m:Nat->Option Nat}{a:Act}{w:ark}(h:RelM C s m a w){k l:Nat}{d:LpD}{st:LoopState}{pe:Option Code}{sl:di}{r:Loop}
  (hk:lk s.hp k=some (.loop d st pe sl)) (hm:m k=some l) (hl:w.heap[l]?=some (.loop r)) (st':LoopState) (pe':Option Code) :
  RelM C ⟨s.sl,(k,some (.loop d st' pe' sl))::s.hp⟩ m a (w.putObj l (.loop { r with state:=st',pending:=pe' })):=by
 have hlt:=(h.heap.sep k _ l hk hm).2;have gx:∀b',b'≠l->(w.putObj l (.loop { r with state:=st',pending:=pe' })).heap[b']?=w.heap[b']? := fun b' hb=>World.putObj_heap_other hb
 have cS:∀k' y,lk ((k,some (Blk.loop d st' pe' sl))::s.hp) k'=some y->∃z,lk s.hp k'=some z:=by
  intro k' y hy;rw[a5]at hy;split at hy
  ·subst_vars;exact⟨_,hk⟩
  ·exact⟨y,hy⟩
 have hf:Frame (bh s.hp m) w (w.putObj l (.loop { r with state:=st',pending:=pe' })):=by
  refine⟨rfl,rfl,rfl,by simp,?_,?_⟩
  ·rintro b' n ⟨c1,t1,f1,h1,h2⟩;refine⟨c1,t1,f1,?_,h2⟩;rw[gx,h1];rintro rfl;rw[hl]at h1;cases h1
  ·intro b' hb' hn;refine gx b' ?_;rintro rfl;exact hn ⟨k,_,hk,hm⟩
 have bU:∀k' y b',lk ((k,some (Blk.loop d st' pe' sl))::s.hp) k'=some y->m k'=some b'->bh s.hp m b'\/w.heap.size<=b':=by
  intro k' y b' hy hb';obtain⟨z,hz⟩:=cS k' y hy;exact .inl ⟨k',z,hz,hb'⟩
 refine h.update hf (fun t y k' b' _ _ hb'=>hb') bU (fun k' y _ hy=>⟨cS k' y hy,rfl⟩) ⟨?_,?_,?_⟩
 ·intro k' y hy
  by_cases e:k'=k
  ·subst e;rw[a5,aq7 rfl]at hy;cases hy;have hb:=h.heap.blk k' _ hk;rw[hm]at hb ⊢;cases hb with
   |loop hw h1 h2 h3 h4 h5 hn hr =>
    rw[hl]at hw;cases hw
    exact .loop (World.putObj_heap_same hlt) rfl rfl h3 h4 h5 hn (fun t x hx=>⟨(hr t x hx).1,(hr t x hx).2.mono (ia hf bU) hf.sz (fun _ _ _ h=>h)⟩)
  ·rw[a5,aq6 e]at hy;refine BlkRep.mono (ia hf bU) hf.sz (fun k'' b' _ hb'=>hb') rfl ?_ (h.heap.blk k' y hy);intro b' hb';refine gx b' ?_;rintro rfl;exact e (h.heap.inj k' k y _ b' hy hk hb' hm)
 ·intro k1 k2 y1 y2 b' h1 h2 cE bF;obtain⟨z1,iT⟩:=cS k1 y1 h1;obtain⟨z2,jy⟩:=cS k2 y2 h2;exact h.heap.inj k1 k2 z1 z2 b' iT jy cE bF
 ·intro k' y b' hy hb';obtain⟨z,hz⟩:=cS k' y hy;have:=h.heap.sep k' z b' hz hb';exact⟨this.1,aqd this.2 hf.size⟩
def xw:List Tmp->List AV->di->di
  |p::ps,x::xs,sl=>xw ps xs ((p,some x)::sl)
  |_,_,sl=>sl
theorem RelM.params{C:Ctx}{m:Nat->Option Nat}{w:ark}{hp:Hp}:∀(ps:List Tmp)(xs:List AV)(vs:List arh)(sl:di)(a:Act),RelM C ⟨sl,hp⟩ m a w->vs.length=xs.length->(∀p∈ps,p<C.nt) ->
  (∀(j:Nat) v x,vs[j]?=some v->xs[j]?=some x->Rep (Im C.ext hp m w) (Sz w) m v x) ->
  RelM C ⟨xw ps xs sl,hp⟩ m { a with tmps:=(ps.zip vs).foldl (fun t (p,v)=>t.setIfInBounds p v) a.tmps } w
 |[],_,_,sl,a,h,_,_,_=>by simpa[xw]using h
 |p::ps,[],[],sl,a,h,_,_,_=>by simpa[xw]using h
 |p::ps,x::xs,v::vs,sl,a,h,hl,hp,hr=>by
  have h1:=h.put p v (some x) (fun y hy=>by cases hy;exact⟨aqd (hp p (by simp)) h.nt,hr 0 v x rfl rfl⟩);exact RelM.params ps xs vs _ _ h1 (by simpa using hl) (fun q hq=>hp q (by simp[hq])) (fun j v' x' hv hx=>hr (j+1) v' x' hv hx)
def ai8(k:Nat)(d:LpD)(r:AV)(H':Hp):Exit->AS->Prop
  | .normal,s=>∃pe sl,lk s.hp k=some (.loop d .busy pe sl)/\aD ⟨s.sl,(k,some (.loop d .ready none sl))::s.hp⟩ (.v (.bool true)) r H'
  | .ret,s=>∃pe sl,lk s.hp k=some (.loop d .busy pe sl)/\aD ⟨s.sl,(k,some (.loop d .done (some .ret) sl))::s.hp⟩ (.v (.bool false)) r H'
  |_,_=>False
def Wa(P:arj)(k:Nat)(d:LpD)(r:AV)(H':Hp)(e:Exit)(s:AS):Prop :=
  e=.normal/\∃pe sl,lk s.hp k=some (.loop d .ready pe sl)/\cq P d.nt d.body (ai8 k d r H') ⟨s.sl,(k,some (.loop d .busy pe sl))::s.hp⟩
theorem RelM.loopAt{C:Ctx}{m:Nat->Option Nat}{a:Act}{w:ark}(h:RelM C s m a w){k l:Nat}{d:LpD}{st:LoopState}{pe:Option Code}{sl:di}
  (hk:lk s.hp k=some (.loop d st pe sl)) (hm:m k=some l):∃r:Loop,w.heap[l]?=some (.loop r)/\r.state=st/\r.pending=pe:=by
 have hb:=h.heap.blk k _ hk;rw[hm]at hb;cases hb with
 |loop hw h1 h2=>exact⟨_,hw,h1,h2⟩
theorem ac7{k:Nat}{d:LpD}{xs:List AV}{H:Hp}{r:AV}{H':Hp}{sl:di}(hH:∀k z,lk H k=some z->1000<=k)(hk:lk H k=some (.loop d .ready none sl))
  (hl:xs.length=d.params.size) (qu:∀p∈d.params.toList,p<d.nt) (h:cq P d.nt d.assign (Wa P k d r H') ⟨xw d.params.toList xs sl,H⟩):AO P k xs H r H':=by
 intro ext m w vs hext cQ dW dC;have hs:vs.size=xs.length+1:=dW;have h0:vs[0]?=some vs[0]:=apa oz;have hy:=dC 0 _ _ h0 rfl;generalize vs[0]=v0 at h0 hy;cases hy with
 | @yl _ _ l hm =>
  have hb:=cQ.blk k _ hk;rw[hm]at hb;cases hb with
  | @loop _ r0 _ _ _ _ hw h1 h2 h3 h4 h5 hn hr =>
   have RZ:=hH k _ hk
   let C:Ctx:=⟨w,ext,bh H m,m,d.nt,hext,some l⟩
   have no:RelM C ⟨sl,H⟩ m { tmps:=r0.tmps,defers:=[] } w :=
    ⟨fun t x hx=>hr t x hx,cQ,Frame.refl _ _,fun k x b h1 h2=>.inl ⟨k,x,h1,h2⟩,fun _ _ _ _=>rfl,wL.nil _ _,hn⟩
   have ta:((vs.toList.drop 1).toArray).size=r0.params.size:=by rw[h3];simp;omega
   have bA:=no.params d.params.toList xs (vs.toList.drop 1) sl _ (by simp;omega) qu (fun j v x hv hx=>dC (j+1) v x (by simpa[ama]using hv) (by simpa using hx))
   have e1:(r0.params.zip (vs.toList.drop 1).toArray).foldl (fun tmps (t,a)=>tmps.setIfInBounds t a) r0.tmps=(d.params.toList.zip (vs.toList.drop 1)).foldl (fun t (p,v)=>t.setIfInBounds p v) r0.tmps:=by
    rw[h3,<- Array.foldl_toList,Array.toList_zip]
   refine⟨l,r0.fn,_,r0.assign,r0.body,h0,run_yield hw ta,fun ro n=>roundIn_of_wpIn (F:=Fw ro) trivial ?_⟩;rw[e1,h4,h5];refine wpIn_mono (h C m _ w n rfl bA) ?_;rintro e a1 w1 ⟨s1,m1,⟨rfl,pe1,sl1,f8,ak2⟩,IN⟩;have je:m1 k=some l:=(IN.keep k _ RZ f8).trans hm;obtain⟨r1,oy,ak3,ak4⟩:=IN.loopAt f8 je;have iG:=IN.setLoop f8 je oy .busy pe1;refine⟨_,run_beginRound oy ak3,?_⟩;have e2:({ r1 with state:=.busy }:Loop)={ r1 with state:=.busy,pending:=pe1 }:=by rw[<- ak4]
   rw[e2];refine wpIn_mono (ak2 C m1 a1 _ n rfl iG) ?_;rintro e a3 w3 ⟨s3,m3,hq,s8⟩
   have fin:∀(jump:Option Code)(pe:Option Code)(sl3:di),lk s3.hp k=some (.loop d .busy pe sl3) ->
     aD ⟨s3.sl,(k,some (.loop d (if jump.isNone then .ready else .done) jump sl3))::s3.hp⟩ (.v (.bool jump.isNone)) r H' ->
     ∃v w',(Instr.endRound l jump).run P w3=.ok v w'/\∃v' m',Ending.returned v=.returned v'/\Frame (bh H m) w w'/\HeapRel ext H' m' w' /\
      (∀k x b,lk H' k=some x->m' k=some b->bh H m b\/w.heap.size<=b)/\(∀k x y,lk H k=some x->lk H' k=some y->m' k=m k)/\Rep (Im ext H' m' w') (Sz w') m' v' r:=by
    intro jump pe sl3 qG mf;have R3:m3 k=some l:=(s8.keep k _ RZ qG).trans hm;obtain⟨r3,At,R4,R5⟩:=s8.loopAt qG R3;have qF:=s8.setLoop qG R3 At (if jump.isNone then .ready else .done) jump;obtain⟨m'',g3,g4,g5,g6⟩:=mf ext m3 _ _ qF.heap (fun b hb=>qF.ext_lt hb) (.v (.bool jump.isNone));refine⟨_,_,run_endRound jump At,_,m'',rfl,qF.frame,g3,?_,?_,g6⟩
    ·intro k' z b hk' hb';obtain⟨k2,z2,dj,bF⟩:=g4 k' z b hk' hb';exact qF.new k2 z2 b dj bF
    ·intro k' z y hk' hy';obtain⟨⟨y',rE⟩,h8⟩:=g5 k' y (hH k' z hk') hy';rw[h8];exact qF.keep k' y' (hH k' z hk') rE
   cases e with
   |normal =>
    obtain⟨pe,sl3,qG,mf⟩:=hq;exact fin none pe sl3 qG mf
   |ret =>
    obtain⟨pe,sl3,qG,mf⟩:=hq;exact fin (some .ret) pe sl3 qG mf
   |_=>exact hq.elim
theorem Fx{x y:Code}(h:cq P N x (fun e s=>match e with | .normal=>oc P N y Q s |e=>Q e s) s):oc P N (.seq x y) Q s:=by
 intro C m a w n ov hN hr;refine wpIn_seq (wpIn_mono (h C m a w n hN hr) ?_);rintro e a' w' ⟨s',m',hq,hr'⟩;cases e with
 |normal=>exact hq C m' a' w' n ov hN hr'
 |_=>exact⟨s',m',hq,hr'⟩
theorem agm{x y:Code}(h:oc P N x (fun e s=>match e with | .normal=>oc P N y Q s |e=>Q e s) s):oc P N (.seq x y) Q s:=by
 intro C m a w n ov hN hr;refine wpIn_seq (wpIn_mono (h C m a w n ov hN hr) ?_);rintro e a' w' ⟨s',m',hq,hr'⟩;cases e with
 |normal=>exact hq C m' a' w' n ov hN hr'
 |_=>exact⟨s',m',hq,hr'⟩
theorem ae3{id:Nat}{c:Code}(h:oc P N c (Dn id (Q .normal) Q) s):oc P N (.block id c) Q s:=by
 intro C m a w n ov hN hr;refine wpIn_block (wpIn_mono (h C m a w n ov hN hr) ?_);rintro e a' w' ⟨s',m',hq,hr'⟩;cases e with
 |exit id' =>
  simp only[Exit.inBlock];simp only[Dn]at hq;split at hq
  ·rename_i hb;rw[aq7 (apy hb)];exact⟨s',m',hq,hr'⟩
  ·rename_i hb;rw[aq6 (al1 hb)];exact⟨s',m',hq,hr'⟩
 |_=>exact⟨s',m',hq,hr'⟩
theorem RelM.mark{C:Ctx}{m:Nat->Option Nat}{a:Act}{w:ark}(hr:RelM C s m a w) :
  RelM C s m { a with defers:=wj w.heap.size::a.defers } { w with heap:=w.heap.push (.deferred (some [])) }:=by
 have hf:=G0 (bh s.hp m) w (.deferred (some []));have bU:∀k' y b',lk s.hp k'=some y->m k'=some b'->bh s.hp m b'\/w.heap.size<=b':=fun k' y b' h1 h2=>.inl ⟨k',y,h1,h2⟩
 have bA:RelM C s m a { w with heap:=w.heap.push (.deferred (some [])) }:=by
  refine hr.update hf (fun t y k' b' _ _ hb'=>hb') bU (fun k' y _ hy=>⟨⟨y,hy⟩,rfl⟩) ⟨?_,hr.heap.inj,?_⟩
  ·intro k y hk;refine BlkRep.mono (ia hf bU) hf.sz (fun _ _ _ h=>h) rfl ?_ (hr.heap.blk k y hk);intro b hb;have:=(hr.heap.sep k y b hk hb).2;show(w.heap.push _)[b]?=_;rw[ao9,aq6 oz]
  ·intro k y b hk hb;have:=hr.heap.sep k y b hk hb;refine⟨this.1,?_⟩;have:=this.2;simp;omega
 refine⟨bA.slots,bA.heap,bA.frame,bA.new,bA.keep,?_,bA.nt⟩;obtain⟨Ds,e,hn,hD⟩:=hr.defers;have eK:(w.heap.push (.deferred (some [])))[w.heap.size]?=some (Obj.deferred (some [])):=by simp
 refine⟨w.heap.size::Ds,by simp[e],List.nodup_cons.2 ⟨fun hm=>?_,hn⟩,?_⟩
 ·have:=hr.heap.lt (hD _ hm).2;omega
 ·intro D hm;rcases aqf.1 hm with rfl |hm
  ·exact⟨hr.frame.size,eK⟩
  ·obtain⟨h1,h2⟩:=hD D hm;refine⟨h1,?_⟩;have:=hr.heap.lt h2;show(w.heap.push _)[D]?=_;rw[ao9,aq6 oz];exact h2
theorem LK{g:arg}{ps:Array Tmp}{assign body:Code}{f:FuncId}{caps:List AV}{k:Nat}{H H':Hp}{r:AV}{st:LoopState}{pe:Option Code}{sl0 sl':di}
  (hg:Ev s g (.fn f caps)) (dD:∀t x,lk sl0 t=some x->s.get t=some x) (R6:(GD sl0).contains k=false) (hfr:s.freshB k=true) (fe:Con P f (.yl k::caps) H r H')
  (hH:∀k' z,lk H k'=some z->lk ((k,some (.loop ⟨ps,assign,body,N⟩ .ready none sl0))::s.hp) k'=some z) (cT:lY s H H' r=true)
  (hkH:kP H k=true) (eK:(H'.all fun p=>kP H p.1)=true) (xd:lk H' k=some (.loop ⟨ps,assign,body,N⟩ st pe sl')) (ep:st≠.busy)
  (w9:pe=none/\Q .normal ⟨s.sl,(k,none)::(H'++eO H++s.hp)⟩\/pe=some .ret/\Q .ret ⟨s.sl,(k,none)::(H'++eO H++s.hp)⟩) :
  oc P N (.rangeFunc g ps assign body) Q s:=by
 intro C m a w n ov hN hr;rw[ov];simp only[lY,apw,ap3]at cT eK;obtain⟨uO,An⟩:=cT;have lI:=hg.rep hr;generalize kU:a.eval g=u at lI;cases lI with
 | @fn _ _ cvs _ hn' bn =>
  refine wpIn_rangeFunc (F:=Fw none) fun fn _=>?_
  have R7:=AS.fresh_of hfr;have bA:=hr.mark
  have hnm:¬(Blk.loop ⟨ps,assign,body,N⟩ .ready none sl0).Names k:=by
   rintro⟨t,x,hx,hn⟩;have h9:k∈GD sl0:=List.mem_flatMap.2 ⟨_,hx,hn.mem⟩;have h8:=List.elem_eq_true_of_mem h9;rw[List.contains]at R6;rw[R6]at h8;cases h8
  have iG:=bA.alloc (k:=k) R7 (.loop { state:=.ready,pending:=none,fn,tmps:=a.tmps,params:=ps,assign,body,defers:=w.heap.size }) (.loop ⟨ps,assign,body,N⟩ .ready none sl0) hnm
   (fun g' S' m' w' h1 h2 h3 h4 => .loop h4 rfl rfl rfl rfl rfl (by have := hr.nt; rw [hN] at this; exact this) (fun t x hx => by
    obtain⟨g1,g2⟩:=bA.slots t x (dD t x hx);exact⟨g1,g2.mono h1 h2 (fun k' b hk hb=>h3 k' b (fun e=>R7.2.2.1 t x (dD t x hx) (e▸hk)) hb)⟩))
  have ak5:(w.heap.push (Obj.deferred (some []))).size=w.heap.size+1:=by simp
  have bH:∀k',k'=k->(if k'=k then some (w.heap.push (Obj.deferred (some []))).size else m k')=some (w.heap.size+1):=fun k' e=>by rw[aq7 e,ak5]
  have hc := iG.called (run := Calls P f) (fun _ _ _ _ h h' => Calls.mono h h') fe.ret (vs := #[Value.func (.yield (w.heap.size + 1)) #[] #[]] ++ cvs) (by simp [hn']; omega) (by
    intro j v x hv hx;cases j with
    |zero =>
     cases hx;rw[ao7,aq7 (by show 0<1;omega)]at hv;cases hv;exact .yl (bH k rfl)
    |succ j =>
     rw[ao7,aq6 (by show ¬j+1<1;omega)]at hv;have h9:cvs[j]?=some v:=hv;have hx':caps[j]?=some x:=hx;have ak6:({ a with defers:=wj w.heap.size::a.defers }:Act).eval g=.func (.func f) #[] cvs:=by cases g <;> exact kU
     have ak7:jF s ⟨s.sl,(k,some (.loop ⟨ps,assign,body,N⟩ .ready none sl0))::s.hp⟩ ⟨none,[],az g,[]⟩:=⟨fun _ _=>rfl,fun k hk=>by cases hk⟩
     have h8:=(hg.agree ak7 (fun _ h=>h)).rep iG;rw[ak6]at h8;cases h8 with
     |fn s9 IP=>exact IP j v x h9 hx')
   hH (by
    intro k' z hz;have:=eK _ (so hz);exact .inl (kA.1 this)) (by
    intro k' hk';obtain⟨p,hp,rfl⟩:=anx.1 hk';exact uO p hp) An
  let W2:=(w.alloc (.deferred (some []))).alloc (.loop { state:=.ready,pending:=none,fn,tmps:=a.tmps,params:=ps,assign,body,defers:=w.heap.size })
  refine⟨w.heap.size+1,[wj w.heap.size],W2,{ target:=.fn (.func f) cvs,args:=#[.func (.yield (w.heap.size+1)) #[] #[]] },W2,f,
   #[Value.func (.yield (w.heap.size+1)) #[] #[]]++cvs,W2,run_enterLoop_outer fn a.tmps ps assign body,?_,fun _ _=>trivial,?_,(fun h=>by cases h),(callsIn_wide (n:=n-1)).2 (Calls.mono hc ?_)⟩
  ·simp only[resolve,kU];simp[go_sem]
  ·simp[invoke,go_sem,fe.ok _ _]
  ·rintro e w' ⟨v,m'',rfl,s8,_,fc⟩;obtain⟨y,hy⟩:=kA.1 hkH;have hm:m'' k=some (w.heap.size+1):=(fc k y _ hy xd).trans (bH k rfl)
   have R8:lk (H'++eO H++(k,some (Blk.loop ⟨ps,assign,body,N⟩ .ready none sl0))::s.hp) k=some (.loop ⟨ps,assign,body,N⟩ st pe sl'):=by
    rw[aqt,sf,aq7 (r7 xd)];exact xd
   obtain⟨r3,At,R4,R5⟩:=s8.loopAt R8 hm
   have qF:=(s8.setLoop R8 hm At .exhausted pe).fewer (hp':=(k,none)::(H'++eO H++s.hp)) (by
    intro k' z hz;rw[a5]at hz;split at hz
    ·cases hz
    ·rename_i b9;rw[a5,aq6 b9];rw[aqt,sf]at hz ⊢;split at hz
     ·rename_i h1;rw[aq7 h1];exact hz
     ·rename_i h1;rw[aq6 h1]
      rw[sf]at hz ⊢;split at hz
      ·rename_i h2;rw[aq7 h2];exact hz
      ·rename_i h2;rw[aq6 h2,a5,aq6 b9];exact hz)
   have gO:=run_endLoop (P:=P) At (by rw[R4];exact ep);rw[R5]at gO;refine⟨pe,_,gO,?_⟩;rcases w9 with⟨rfl,hq⟩ |⟨rfl,hq⟩
   ·exact⟨_,m'',hq,qF⟩
   ·exact wpIn_ret ⟨_,m'',hq,qF⟩
theorem yE{f:FuncId}{caps:List AV}(hnm:(caps.all fun x=>x.nm.isEmpty)=true):Sub (.fn f caps) (.cl f [] caps):=by
 intro g S m v h;cases h with
 |fn hn hr =>
  exact .cl rfl (fun j u c hu hc => by simp at hc) hn (fun j u c hu hc => (hr j u c hu hc).mono (fun _ _ h => h) (fun _ _ h => h) (fun k b hk => by
   have h1:=ap3.1 hnm c (apo hc);have h2:=hk.mem;simp only[List.isEmpty_iff]at h1;rw[h1]at h2;cases h2))
theorem Vl{ρ:arg->arh}{o:Oper}{g:arg}{f:FuncId}{pre caps:Array arh}{args:Array arg}{ts:Array ari}{w:ark}{vs:Array arh}(ho:o.op=.call ⟨.value g,args,ts⟩)
  (hρ:ρ g=.func (.func f) pre caps) (cT:zM P f) (dW:pre++args.map ρ++caps=vs):(execOp ρ o).run P w=.ok (.enter f vs) w:=by
 subst dW;have:=cT (pre++args.map ρ++caps) w;rw[Array.append_assoc]at this;obtain⟨dst,op,type,pos,after,guard⟩:=o;subst ho;simp[execOp,resolve,hρ,Deferred.ofValue,invoke,this]
theorem VP{d:Nat}{g:arg}{f:FuncId}{pre caps:List AV}{args:Array arg}{ts:Array ari}{xs:List AV}{H H':Hp}{r:AV}{t:ari}
  (hg:Ev s g (.cl f pre caps)) (fe:Con P f (pre++xs++caps) H r H') (ha:EvL s args.toList xs) (hH:∀k z,lk H k=some z->s.blk k=some z) (cT:lY s H H' r=true) (hN:aly d N=true) :
  Step P N R s ⟨some d,.call ⟨.value g,args,ts⟩,t,pos,after,none⟩ ⟨some r,H'++eO H,az g++gE args.toList,H.map (·.1)⟩:=by
 refine Fn rfl (fun d' h=>by cases h;exact⟨hN,rfl⟩) fe hH cT fun s' aH C m a w hr=>?_
 have oB:jF s s' ⟨none,[],az g++gE args.toList,[]⟩:=⟨aH,fun k hk=>by cases hk⟩
 have ha':=ha.agree oB (fun _ h=>ap2.2 (.inr h));have lI:=(hg.agree oB (fun _ h=>ap2.2 (.inl h))).rep hr;generalize hv:a.eval g=u at lI;cases lI with
 | @cl _ _ pvs cvs _ _ hn bn hn' ak8 =>
  have hl:=ha'.length;simp only[apc]at hl;refine⟨pvs++args.map a.eval++cvs,Vl rfl hv fe.ok rfl,by simp[hn,hn',hl],?_⟩;intro j v x hv' hx;rw[ao7]at hv';rw[List.getElem?_append]at hx;simp only[ao6,Array.size_map,aqk,hn,hl]at hv' hx;split at hv'
  ·rename_i h1;rw[aq7 h1]at hx;rw[ao7]at hv';rw[List.getElem?_append]at hx;split at hv'
   ·rename_i h2;rw[aq7 oz]at hx;exact(bn j v x hv' hx).mono (fun _ _ h=>h) (fun _ _ h=>h) (fun k b _ h=>by cases h)
   ·rename_i h2;rw[aq6 oz]at hx;rw[hn]at hv';exact ha'.rep hr _ v x (by simpa using hv') hx
  ·rename_i h1;rw[aq6 h1]at hx;exact(ak8 _ v x hv' hx).mono (fun _ _ h=>h) (fun _ _ h=>h) (fun k b _ h=>by cases h)
end Go.Lw
namespace Go.Lw
variable{P:arj}{N:Nat}{Q:Exit->AS->Prop}
def Bu(s:AS)(g:Nat)(want:Bool):Option (Prop×Bool):=match s.get g with
  |some x=>match x with
    | .v (.bool b)=>some (b=want,b==want)
    | .opt c (.v (.bool b))=>some (c=true/\b=want,c&&b==want)
    |_=>none
  |none=>none
inductive Want where
  |ar (op:BinOp) (k:IntKind) (a b:Int)
  |cv (k:IntKind) (n:Int)
  |ln (es:List AV)
  |ix (es:List AV) (i:Int)
  |cl (f:FuncId) (xs:List AV)
def xL(P:arj)(w:Want)(x:AV):Prop:=match w with
  | .ar op k a b=>∃n,k.wrap (jv op a b)=n/\x=.v (.int k n)
  | .cv k n=>∃m,k.wrap n=m/\x=.v (.int k m)
  | .ln es=>∃n:Nat,es.length=n/\x=.v (.int .i64 n)
  | .ix es i=>0<=i/\∃e,es[i.toNat]?=some e/\x=.iptr e.cells
  | .cl f xs=>kK P f xs x/\x.nm=[]
inductive Fr where
  |seq (c:Code)
  |blk (id:Nat)
  |lp (K:AS->Prop)
def dA(P:arj)(N:Nat)(Q:Exit->AS->Prop):List Fr->Exit->AS->Prop
  |[],e,s=>Q e s
  | .seq c::k,e,s=>match e with
    | .normal=>cq P N c (dA P N Q k) s
    |e=>dA P N Q k e s
  | .blk id::k,e,s=>match e with
    | .exit id'=>match amq id' id with
      |true=>dA P N Q k .normal s
      |false=>dA P N Q k (.exit id') s
    |e=>dA P N Q k e s
  | .lp K::k,e,s=>match e with
    | .normal=>K s
    |e=>dA P N Q k e s
inductive Cf where
  |code (c:Code) (k:List Fr) (s:AS)
  |ops (id i:Nat) (R:List Oper) (draw:Bool) (s0:AS) (ops:List Oper) (us:List Out) (k:List Fr) (s:AS)
  |ap (o:Oper) (u:Out) (id i:Nat) (R:List Oper) (draw:Bool) (s0:AS) (ops:List Oper) (us:List Out) (k:List Fr) (s:AS)
  |ex (e:Exit) (k:List Fr) (s:AS)
  |st (w:Want) (rt:List Nat) (o:Oper) (id i:Nat) (R:List Oper) (draw:Bool) (s0:AS) (ops:List Oper) (us:List Out) (k:List Fr) (s:AS)
  |sg (G:Prop) (b:Bool) (w:Want) (rt:List Nat) (o:Oper) (id i:Nat) (R:List Oper) (draw:Bool) (s0:AS) (ops:List Oper) (us:List Out) (k:List Fr) (s:AS)
def Gd(P:arj)(N:Nat)(Q:Exit->AS->Prop):Cf->Prop
  | .code c k s=>cq P N c (dA P N Q k) s
  | .ops _ _ R draw s0 ops us k s=>kc P N R.toArray ops s us (fun s' us'=>(draw=true->chk R us' s0=true)/\dA P N Q k .normal s')
  | .ap o u _ _ R draw s0 ops us k s=>kc P N R.toArray ops (s.app o.dst u) (us++[u]) (fun s' us'=>(draw=true->chk R us' s0=true)/\dA P N Q k .normal s')
  | .ex e k s=>dA P N Q k e s
  | .st w rt o _ _ R draw s0 ops us k s=>(∀x,xL P w x->Step P N R.toArray s o ⟨some x,[],rt,[]⟩)->kc P N R.toArray (o::ops) s us (fun s' us'=>(draw=true->chk R us' s0=true)/\dA P N Q k .normal s')
  | .sg G b w rt o _ _ R draw s0 ops us k s=>(∀x,(G->xL P w x)->Step P N R.toArray s o ⟨some (.opt b x),[],rt,[]⟩)->kc P N R.toArray (o::ops) s us (fun s' us'=>(draw=true->chk R us' s0=true)/\dA P N Q k .normal s')
theorem ai5{x y:Code}{k:List Fr}{s:AS}(h:cq P N x (dA P N Q (.seq y::k)) s):cq P N (.seq x y) (dA P N Q k) s :=
 aep fun K hK=>mZ h fun e s he=>by
  cases e with
  |normal=>exact hK s he
  |_=>exact he
theorem ahr{id:Nat}{c:Code}{k:List Fr}{s:AS}(h:cq P N c (dA P N Q (.blk id::k)) s):cq P N (.block id c) (dA P N Q k) s :=
 akb (mZ h fun e s he=>by
  cases e with
  |exit id' =>
   show match amq id' id with |true=>_ |false=>_
   simp only[dA]at he;split at he
   ·exact he
   ·exact he
  |_=>exact he)
theorem Ek{R:Array Oper}{K K':AS->List Out->Prop}(hk:∀s us,K s us->K' s us):∀{ops:List Oper}{s:AS}{us:List Out},kc P N R ops s us K->kc P N R ops s us K'
 |[],s,us,h=>hk s us h
 |_::_,s,us,⟨u,h1,h2,h3⟩=>⟨u,h1,h2,Ek hk h3⟩
def B4:List Oper->Bool
  |[]=>true
  |o::l=>match o.op with
    | .defer _=>false
    |_=>B4 l
theorem JR:∀{l:List Oper},B4 l=true->l.all nd=true
 |[],_=>rfl
 |o::l,h=>by
  unfold B4 at h;simp only[all_cons,apw];split at h
  ·cases h
  ·rename_i hd;refine⟨?_,JR h⟩;unfold nd;split
   ·rename_i c hc;exact ard hc (hd c)
   ·rfl
theorem ae0{id:Nat}{A:Array Oper}{d:Bool}{k:List Fr}{s:AS}(dN:A.toList.all nd=true)(hd:d=true->P.follows .mixedOrders=true)
  (h:kc P N A.toList.toArray A.toList s [] (fun s' us'=>(d=true->chk A.toList us' s=true)/\dA P N Q k .normal s')):cq P N (.region id A d) (dA P N Q k) s:=by
 have e:A=A.toList.toArray:=by simp
 cases d with
 |false =>
  rw[e]
  exact UA dN (by
   exact Ek (fun s us h=>h.2) h)
 |true =>
  rw[e];exact ado dN (hd rfl) (Ek (fun s us h=>⟨h.1 rfl,h.2⟩) h)
variable[Inhabited (Tys P)]
def HL(P:arj)[Inhabited (Tys P)](s:AS)(d:Nat):Op->Option (Out×List Prop)
  | .alloc T=>match jE P T with
    |some ti=>match ti.zero.all Value.oneCell' with
      |true=>match sR (ti.zero.map .v)with
        |some l=>some (⟨some (.ptr d 0),[(d,some (.box l))],[],[]⟩,[])
        |none=>none
      |false=>none
    |none=>none
  | .box _ x=>match fE false True s x with
    |some (v,ob)=>match v.ok with
      |true=>match sR v.cells with
        |some l=>some (⟨some (.ptr d 0),[(d,some (.box l))],az x,[]⟩,ob)
        |none=>none
      |false=>none
    |none=>none
  |_=>none
def HD(P:arj)[Inhabited (Tys P)](s:AS):Op->Option (Out×List Prop)
  | .store T x y=>match fE false True s x with
    |some (.ptr k off,ob)=>match fE false True s y with
      |some (v,ob')=>match s.blk k with
        |some (.box cs)=>match jE P T with
          |some ti=>match v.ok&&amq v.cells.length ti.size&&Nat.ble (off+ti.size) cs.length with
            |true=>match sR (over cs off v.cells)with
              |some l=>some (⟨none,[(k,some (.box l))],az x++az y,[k]⟩,ob++ob')
              |none=>none
            |false=>none
          |none=>none
        |_=>none
      |none=>none
    |_=>none
  |_=>none
def Dg(s:AS)(r:Out×List Prop):Option (Out×List Prop):=match Qe s r.1 with
  |true=>some r
  |false=>none
def Gk(P:arj)[Inhabited (Tys P)](N:Nat)(R:List Oper)(s:AS)(o:Oper):Option (Out×List Prop):=match o.guard with
  |none=>match o.dst with
    |some d=>match aly d N with
      |true=>match BG P false True s o.op with
        |some ⟨x,rt,rd,ob⟩=>some (⟨some x,[],rt,rd⟩,ob)
        |none=>match HL P s d o.op with
          |some r=>Dg s r
          |none=>none
      |false=>none
    |none=>match HD P s o.op with
      |some r=>Dg s r
      |none=>none
  |some (j,want)=>match R[j]? with
    |some og=>match og.dst with
      |some g=>match o.dst with
        |some d=>match aly d N with
          |true=>match Bu s g want with
            |some (G,b)=>match BG P true G s o.op with
              |some ⟨x,rt,rd,ob⟩=>some (⟨some (.opt b x),[],g::rt,rd⟩,ob)
              |none=>none
            |none=>none
          |false=>none
        |none=>none
      |none=>none
    |none=>none
theorem Kr{s:AS}{r r':Out×List Prop}(h:Dg s r=some r'):r'=r/\mG s r.1:=by
 unfold Dg at h;split at h
 ·rename_i hn;cases h;exact⟨rfl,BR hn⟩
 ·cases h
theorem ag9{s:AS}{R:Array Oper}{d:Nat}{op:Op}{t:ari}{pos:String}{after:Array Edge}{r:Out×List Prop}(h:HL P s d op=some r)(ho:AllP r.2)(hN:aly d N=true) :
  Step P N R s ⟨some d,op,t,pos,after,none⟩ r.1:=by
 unfold HL at h;split at h
 ·split at h
  ·rename_i ti dX;split at h
   ·rename_i hz;split at h
    ·rename_i l hl;cases h;cases vZ hl;exact Xd (jg dX) hz hN
    ·cases h
   ·cases h
  ·cases h
 ·split at h
  ·rename_i v ob h1;split at h
   ·rename_i hv;split at h
    ·rename_i l hl;cases h;cases vZ hl;exact We (fN h1 ho trivial) hv hN
    ·cases h
   ·cases h
  ·cases h
 ·cases h
theorem ad6{s:AS}{R:Array Oper}{op:Op}{t:ari}{pos:String}{after:Array Edge}{r:Out×List Prop}(h:HD P s op=some r)(ho:AllP r.2) :
  Step P N R s ⟨none,op,t,pos,after,none⟩ r.1:=by
 unfold HD at h;split at h
 ·split at h
  ·rename_i h1;split at h
   ·rename_i h2;split at h
    ·rename_i hk;split at h
     ·rename_i ti dX;split at h
      ·rename_i hc;simp only[apw]at hc;split at h
       ·rename_i l hl;cases h;cases vZ hl
        exact Zf (fN h1 ho.app.1 trivial) hk (fN h2 ho.app.2 trivial) hc.1.1 (jg dX) hc.1.2 hc.2
       ·cases h
      ·cases h
     ·cases h
    ·cases h
   ·cases h
  ·cases h
 ·cases h
theorem UY{R:List Oper}{s:AS}{o:Oper}{u:Out}{ob:List Prop}(h:Gk P N R s o=some (u,ob))(ho:AllP ob):Step P N R.toArray s o u/\mG s u:=by
 obtain⟨dst,op,ty,pos,after,guard⟩:=o;unfold Gk at h;simp only at h;split at h
 ·split at h
  ·rename_i d;split at h
   ·rename_i hN;split at h
    ·rename_i h1;cases h;exact⟨Fb h1 ho trivial hN,fun k hk=>by simp at hk⟩
    ·split at h
     ·rename_i r h1;obtain⟨h2,h3⟩:=Kr h;subst h2;exact⟨ag9 h1 ho hN,h3⟩
     ·cases h
   ·cases h
  ·split at h
   ·rename_i r h1;obtain⟨h2,h3⟩:=Kr h;subst h2;exact⟨ad6 h1 ho,h3⟩
   ·cases h
 ·rename_i j want;split at h
  ·rename_i og xf;split at h
   ·rename_i g hg;split at h
    ·rename_i d;split at h
     ·rename_i hN;split at h
      ·rename_i G b hG;split at h
       ·rename_i h1;cases h;have hj:(R.toArray[j]?).bind (·.dst) = some g:=by simp [xf,hg]
        unfold Bu at hG;split at hG
        ·rename_i x hx;split at hG
         ·cases hG;exact⟨gK hj hx hN (fun h=>Fb h1 ho h hN),fun k hk=>by simp at hk⟩
         ·cases hG;exact⟨vX hj hx hN (fun hc h=>Fb h1 ho ⟨hc,h⟩ hN),fun k hk=>by simp at hk⟩
         ·cases hG
        ·cases hG
       ·cases h
      ·cases h
     ·cases h
    ·cases h
   ·cases h
  ·cases h
def NM:BinOp->Bool
  | .add | .sub | .mul=>true
  |_=>false
theorem afd:∀{op:BinOp},NM op=true->(match op with | .add | .sub | .mul=>true |_=>false)=true:=by intro op;cases op <;> intro h <;> first |rfl |cases h
structure R2 where
  w:Want
  rt:List Nat
  ob:List Prop
def CA(P:arj)[Inhabited (Tys P)](g:Bool)(G:Prop)(s:AS):Op->Option R2
  | .binOp op _ x y _=>match NM op with
    |true=>match fE g G s x with
      |some (.v (.int k a),ob)=>match fE g G s y with
        |some (.v (.int k' b),ob')=>match amq (v8 k) (v8 k')with
          |true=>some ⟨.ar op k a b,az x++az y,ob++ob'⟩
          |false=>none
        |_=>none
      |_=>none
    |false=>none
  | .convert S T x=>match fE g G s x with
    |some (.v (.int _ n),ob)=>match jE P S with
      |some _=>match jE P T with
        |some ti=>match ti.k with
          | .int k'=>some ⟨.cv k' n,az x,ob⟩
          |_=>none
        |none=>none
      |none=>none
    |_=>none
  | .indexAddr T x ix=>match fE g G s x with
    |some (.lst sz es,ob)=>match fE g G s ix with
      |some (.v (.int _ i),ob')=>match jE P T with
        |some ti=>match ti.k with
          | .slice E=>match jE P E with
            |some te=>match amq te.size sz with
              |true=>some ⟨.ix es i,az x++az ix,ob++ob'⟩
              |false=>none
            |none=>none
          |_=>none
        |none=>none
      |_=>none
    |_=>none
  | .call ⟨.builtin .len,args,ts⟩=>match args.toList with
    |[x]=>match ts.toList with
      |[T]=>match fE g G s x with
        |some (.lst _ es,ob)=>match jE P T with
          |some ti=>match ti.k with
            | .slice _=>some ⟨.ln es,az x,ob⟩
            |_=>none
          |none=>none
        |_=>none
      |_=>none
    |_=>none
  | .call ⟨.value (.func f),args,_⟩=>match sO g G s args.toList with
    |some (xs,ob)=>some ⟨.cl f xs,gE args.toList,ob⟩
    |none=>none
  | .call ⟨.value (.tmp t),args,_⟩=>match fE g G s (.tmp t)with
    |some (.cl f pre caps,ob)=>match sO g G s args.toList with
      |some (xs,ob')=>some ⟨.cl f (pre++xs++caps),az (.tmp t)++gE args.toList,ob++ob'⟩
      |none=>none
    |_=>none
  |_=>none
theorem Hq{g:Bool}{G:Prop}{s:AS}{R:Array Oper}{d:Nat}{t:ari}{pos:String}{after:Array Edge}{op:Op}{r:R2}(h:CA P g G s op=some r)(ho:AllP r.ob)(hG:G)(hN:aly d N=true)
  {x:AV} (hm:xL P r.w x):Step P N R s ⟨some d,op,t,pos,after,none⟩ ⟨some x,[],r.rt,[]⟩:=by
 unfold CA at h;split at h
 ·split at h
  ·rename_i cP;split at h
   ·rename_i h1;split at h
    ·rename_i h2;split at h
     ·rename_i hk;cases h;cases La hk;obtain⟨n,e,rfl⟩:=hm;subst e;exact acz (fN h1 ho.app.1 hG) (fN h2 ho.app.2 hG) (afd cP) hN
     ·cases h
    ·cases h
   ·cases h
  ·cases h
 ·split at h
  ·rename_i h1;split at h
   ·rename_i tS hS;split at h
    ·rename_i ti hT;split at h
     ·rename_i k' hk;cases h;obtain⟨m,e,rfl⟩:=hm;subst e;exact agh (fN h1 ho hG) hN (jg hS) (jg hT) hk
     ·cases h
    ·cases h
   ·cases h
  ·cases h
 ·split at h
  ·rename_i h1;split at h
   ·rename_i h2;split at h
    ·rename_i ti hT;split at h
     ·rename_i E hk;split at h
      ·rename_i te hE;split at h
       ·rename_i bH;cases h;obtain⟨h0,e,he,rfl⟩:=hm;exact af4 (fN h1 ho.app.1 hG) (fN h2 ho.app.2 hG) (jg hT) hk (jg hE) (apy bH) h0 he hN
       ·cases h
      ·cases h
     ·cases h
    ·cases h
   ·cases h
  ·cases h
 ·rename_i args ts;split at h
  ·rename_i y hy;split at h
   ·rename_i T hT;have e1:args = #[y]:=by apply ao4.1; simpa using hy
    have e2:ts=#[T]:=by apply ao4.1;simpa using hT
    subst e1;subst e2
    split at h
    ·rename_i h1;split at h
     ·rename_i ti dX;split at h
      ·rename_i e hk;cases h;obtain⟨n,e,rfl⟩:=hm;subst e;exact aay (fN h1 ho hG) (jg dX) hk hN
      ·cases h
     ·cases h
    ·cases h
   ·cases h
  ·cases h
 ·split at h
  ·rename_i h1;cases h;exact abo hm.1 (vA hG h1 ho) hm.2 hN
  ·cases h
 ·split at h
  ·rename_i h1;split at h
   ·rename_i h2;cases h;exact VP (fN h1 ho.app.1 hG) hm.1 (vA hG h2 ho.app.2) (fun k z h=>by cases h) (by simp[lY,xC,hm.2]) hN
   ·cases h
  ·cases h
 ·cases h
def FR(P:arj)[Inhabited (Tys P)](N:Nat)(R:List Oper)(s:AS)(o:Oper)(f:Want->List Nat->Cf)(fG:Prop->Bool->Want->List Nat->Cf):Option (Cf×List Prop):=match o.dst with
  |some d=>match aly d N with
    |true=>match o.guard with
      |none=>match CA P false True s o.op with
        |some ⟨w,rt,ob⟩=>some (f w rt,ob)
        |none=>none
      |some (j,want)=>match R[j]? with
        |some og=>match og.dst with
          |some g=>match Bu s g want with
            |some (G,b)=>match CA P true G s o.op with
              |some ⟨w,rt,ob⟩=>some (fG G b w (g::rt),ob)
              |none=>none
            |none=>none
          |none=>none
        |none=>none
    |false=>none
  |none=>none
theorem aiu{R:List Oper}{s:AS}{o:Oper}{f:Want->List Nat->Cf}{fG:Prop->Bool->Want->List Nat->Cf}{c:Cf}{ob:List Prop}(h:FR P N R s o f fG=some (c,ob))(ho:AllP ob) :
  (∃w rt,c=f w rt/\∀x,xL P w x->Step P N R.toArray s o ⟨some x,[],rt,[]⟩)\/(∃G b w rt,c=fG G b w rt/\∀x,(G->xL P w x)->Step P N R.toArray s o ⟨some (.opt b x),[],rt,[]⟩):=by
 obtain⟨dst,op,ty,pos,after,guard⟩:=o;unfold FR at h;simp only at h;split at h
 ·rename_i d;split at h
  ·rename_i hN;split at h
   ·split at h
    ·rename_i h1;cases h;exact .inl ⟨_,_,rfl,fun x hm=>Hq h1 ho trivial hN hm⟩
    ·cases h
   ·rename_i j want;split at h
    ·rename_i og xf;split at h
     ·rename_i g hg;split at h
      ·rename_i G b hG;split at h
       ·rename_i h1;cases h;have hj:(R.toArray[j]?).bind (·.dst) = some g:=by simp [xf,hg]
        refine .inr ⟨_,_,_,_,rfl,fun x hm=>?_⟩;unfold Bu at hG;split at hG
        ·rename_i y hy;split at hG
         ·cases hG;exact gK hj hy hN (fun h=>Hq h1 ho h hN (hm h))
         ·cases hG;exact vX hj hy hN (fun hc h=>Hq h1 ho ⟨hc,h⟩ hN (hm ⟨hc,h⟩))
         ·cases hG
        ·cases hG
       ·cases h
      ·cases h
     ·cases h
    ·cases h
  ·cases h
 ·cases h
def step(P:arj)[Inhabited (Tys P)](N:Nat)(st:Nat×Nat):Cf->Option (Cf×List Prop)
  | .code c k s=>match c with
    | .skip=>match amq 77777 st.1 with
      |true=>none
      |false=>some (.ex .normal k s,[])
    | .ret=>match amq 77777 st.1 with
      |true=>none
      |false=>some (.ex .ret k s,[])
    | .exit id=>match amq 77777 st.1 with
      |true=>none
      |false=>some (.ex (.exit id) k s,[])
    | .seq x y=>some (.code x (.seq y::k) s,[])
    | .block id c=>some (.code c (.blk id::k) s,[])
    | .region id A d=>match amq id st.1&&amq 0 st.2 with
      |true=>none
      |false=>match B4 A.toList with
        |true=>some (.ops id 0 A.toList d s A.toList [] k s,[])
        |false=>none
    |_=>none
  | .ops id i R d s0 ops us k s=>match ops with
    |[]=>match d with
      |false=>some (.ex .normal k s,[])
      |true=>none
    |o::ops=>match amq id st.1&&amq (i+1) st.2 with
      |true=>none
      |false=>match Gk P N R s o with
        |some (u,ob)=>some (.ap o u id i R d s0 ops us k s,ob)
        |none=>FR P N R s o (fun w rt=>.st w rt o id i R d s0 ops us k s) (fun G b w rt=>.sg G b w rt o id i R d s0 ops us k s)
  | .ap o u id i R d s0 ops us k s=>match s with
    |⟨sl,hp⟩=>match u with
      |⟨val,upd,rt,rd⟩=>match o.dst with
        |some t=>match upd with
          |[]=>some (.ops id (i+1) R d s0 ops (us++[⟨val,[],rt,rd⟩]) k ⟨(t,val)::sl,hp⟩,[])
          |p::q=>some (.ops id (i+1) R d s0 ops (us++[⟨val,p::q,rt,rd⟩]) k ⟨(t,val)::sl,p::(q++hp)⟩,[])
        |none=>some (.ops id (i+1) R d s0 ops (us++[⟨val,upd,rt,rd⟩]) k ⟨sl,upd++hp⟩,[])
  | .ex e k s=>match k with
    |[]=>none
    | .seq c::k=>match e with
      | .normal=>some (.code c k s,[])
      |e=>some (.ex e k s,[])
    | .blk id::k=>match e with
      | .exit id'=>match amq id' id with
        |true=>some (.ex .normal k s,[])
        |false=>some (.ex (.exit id') k s,[])
      |e=>some (.ex e k s,[])
    | .lp _::k=>match e with
      | .normal=>none
      |e=>some (.ex e k s,[])
  | .st .. => none
  | .sg .. => none
def run(P:arj)[Inhabited (Tys P)](N:Nat)(st:Nat×Nat):Nat->Cf->List Prop->Option (Cf×List Prop)
  |0,c,ob=>some (c,ob)
  |n+1,c,ob=>match step P N st c with
    |none=>some (c,ob)
    |some (c',o)=>match o with
      |[]=>run P N st n c' ob
      |p::o=>run P N st n c' (p::(o++ob))
theorem JM{st:Nat×Nat}{c c':Cf}{ob:List Prop}(h:step P N st c=some (c',ob))(ho:AllP ob)(hg:Gd P N Q c'):Gd P N Q c:=by
 unfold step at h;split at h
 ·split at h
  ·split at h
   ·cases h
   ·cases h;exact TD hg
  ·split at h
   ·cases h
   ·cases h;exact Zm hg
  ·split at h
   ·cases h
   ·cases h;exact ac1 hg
  ·cases h;exact ai5 hg
  ·cases h;exact ahr hg
  ·split at h
   ·cases h
   ·split at h
    ·rename_i dN;cases h;exact ae0 (JR dN) (fun _=>(default:Tys P).mix) hg
    ·cases h
  ·cases h
 ·split at h
  ·split at h
   ·cases h;simpa[Gd,kc]using hg
   ·cases h
  ·split at h
   ·cases h
   ·split at h
    ·rename_i h1;cases h;obtain⟨h2,h3⟩:=UY h1 ho;exact⟨_,h2,h3,hg⟩
    ·rcases aiu h ho with⟨w,rt,rfl,h2⟩ |⟨G,b,w,rt,rfl,h2⟩
     ·exact hg h2
     ·exact hg h2
 ·rename_i o u id i R d s0 ops us k s;obtain⟨sl,hp⟩:=s;obtain⟨val,upd,rt,rd⟩:=u;obtain⟨dst,op,ty,pos,after,guard⟩:=o;cases dst with
  |none=>cases h;exact hg
  |some t =>
   cases upd with
   |nil=>cases h;exact hg
   |cons p q=>cases h;exact hg
 ·rename_i e k s;cases k with
  |nil=>cases h
  |cons f k =>
   cases f with
   |seq c=>cases e <;> cases h <;> exact hg
   |blk id =>
    cases e with
    |exit id' =>
     show dA P N Q (.blk id::k) (.exit id') s;simp only[dA];simp only at h;split at h
     ·cases h;exact hg
     ·cases h;exact hg
    |_=>cases h;exact hg
   |lp K=>cases e <;> cases h <;> exact hg
 ·cases h
 ·cases h
theorem dq{st:Nat×Nat}:∀{n:Nat}{c c':Cf}{ob ob':List Prop},run P N st n c ob=some (c',ob')->AllP ob'->Gd P N Q c'->Gd P N Q c/\AllP ob
 |0,c,c',ob,ob',h,ho,hg=>by cases h;exact⟨hg,ho⟩
 |n+1,c,c',ob,ob',h,ho,hg=>by
  unfold run at h;split at h
  ·cases h;exact⟨hg,ho⟩
  ·rename_i c2 o h1;split at h
   ·obtain⟨h2,h3⟩:=dq h ho hg;exact⟨JM h1 .nil h2,h3⟩
   ·rename_i p o;obtain⟨h2,h3⟩:=dq h ho hg;cases h3 with |cons h4 h5=>exact⟨JM h1 (.cons h4 h5.app.1) h2,h5.app.2⟩
end Go.Lw
namespace Go.Lw
variable{P:arj}{N:Nat}{Q:Exit->AS->Prop}
theorem a6{a b:di}(h:SlW a b:=by repeat(first |exact SlW.nil |refine SlW.k ?_)):SlW a b:=h
theorem Wk.o {s : AS} {sl : di} {hp : Hp} (h1 : SlW s.sl sl := by exact a6)
  (h2:HpW s.hp hp:=by repeat(first |exact HpW.nil |refine HpW.cons rfl (.refl _) ?_)):Wk s ⟨sl,hp⟩:=Wk.of h1 h2
def qk:Nat->List Fr->Option (List Fr×Code×List Fr)
  |0,.seq y::k=>some ([],y,k)
  |n+1,f::k=>match qk n k with
    |some (a,y,b)=>some (f::a,y,b)
    |none=>none
  |_,_=>none
theorem xE:∀{n:Nat}{k k1 k2:List Fr}{y:Code},qk n k=some (k1,y,k2)->k=k1 ++ .seq y::k2
 |0,[],_,_,_,h=>by simp[qk]at h
 |0,f::k,k1,k2,y,h=>by cases f <;> simp[qk]at h;obtain⟨rfl,rfl,rfl⟩:=h;rfl
 |n+1,[],_,_,_,h=>by simp[qk]at h
 |n+1,f::k,k1,k2,y,h=>by
  simp only[qk]at h;split at h
  ·rename_i h1;cases h;rw[xE h1];rfl
  ·cases h
theorem qr{k2:List Fr}{y:Code}{K:AS->Prop}(hK:∀s,K s->cq P N y (dA P N Q k2) s) :
  ∀(k1:List Fr)(e:Exit)(s:AS),dA P N Q (k1 ++ .lp K::k2) e s->dA P N Q (k1 ++ .seq y::k2) e s
 |[],e,s,h=>by cases e <;> first |exact hK s h |exact h
 | .seq c::k1,e,s,h=>by
  cases e with
  |normal=>exact mZ (h:cq P N c _ s) (fun e s=>qr hK k1 e s)
  |_=>exact qr hK k1 _ s h
 | .blk id::k1,e,s,h=>by
  cases e with
  |exit id' =>
   simp only[ans,dA]at h ⊢;split at h
   ·exact qr hK k1 _ s h
   ·exact qr hK k1 _ s h
  |_=>exact qr hK k1 _ s h
 | .lp K'::k1,e,s,h=>by
  cases e with
  |normal=>exact h
  |_=>exact qr hK k1 _ s h
def yO:Nat->List AV->Option di
  |_,[]=>some []
  |n,x::xs=>match yO (n+1) xs with
    |some l=>some ((n,some x)::l)
    |none=>none
theorem Ip:∀{xs:List AV}{n:Nat}{l:di},yO n xs=some l->l=q9 n xs
 |[],n,l,h=>by cases h;rfl
 |x::xs,n,l,h=>by
  unfold yO at h;split at h
  ·rename_i h1;cases h;rw[Ip h1];rfl
  ·cases h
def pk{α:Type}(l:List (Nat×Option α)):List Nat->Option (List (Nat×Option α))
  |[]=>some []
  |t::ts=>match lk l t with
    |some x=>match pk l ts with
      |some r=>some ((t,some x)::r)
      |none=>none
    |none=>none
theorem Ly{sl:di}:∀{ts:List Nat}{r:di},pk sl ts=some r->SlW sl r
 |[],r,h=>by cases h;exact .nil
 |t::ts,r,h=>by
  unfold pk at h;split at h
  ·rename_i h1;split at h
   ·rename_i h2;cases h;exact .cons h1 (.refl _) (Ly h2)
   ·cases h
  ·cases h
theorem MT{hp:Hp}:∀{ts:List Nat}{r:Hp},pk hp ts=some r->HpW hp r
 |[],r,h=>by cases h;exact .nil
 |t::ts,r,h=>by
  unfold pk at h;split at h
  ·rename_i h1;split at h
   ·rename_i h2;cases h;exact .cons h1 (.refl _) (MT h2)
   ·cases h
  ·cases h
theorem SlW.ap{sl a b:di}(h:SlW sl a)(h':SlW sl b):SlW sl (a++b):=by
 induction h with
 |nil=>exact h'
 |cons h1 h2 _ ih=>exact .cons h1 h2 ih
theorem HpW.ap{sl a b:Hp}(h:HpW sl a)(h':HpW sl b):HpW sl (a++b):=by
 induction h with
 |nil=>exact h'
 |cons h1 h2 _ ih=>exact .cons h1 h2 ih
theorem Wk.p{s:AS}{a b:di}{c d:Hp}{ks kh:List Nat}(h1:SlW s.sl a)(h2:HpW s.hp c)(hs:pk s.sl ks=some b)(hh:pk s.hp kh=some d):Wk s ⟨a++b,c++d⟩ :=
 Wk.of (h1.ap (Ly hs)) (h2.ap (MT hh))
def B9:Exit->Bool
  | .normal | .ret=>true
  |_=>false
theorem lZ{s:AS}{x:Option AV}{rt rd:List Nat}:mG s ⟨x,[],rt,rd⟩:=fun _ hk=>by simp at hk
theorem yz{c:Code}{k:List Fr}{s:AS}{α:Type}{f:α->AV}{l:List α}{t sz:Nat}(ht:s.get t=some (.lst sz (l.map f)))(h:l.length<=bf->Gd P N Q (.code c k s)):Gd P N Q (.code c k s):=aa4 ht h
theorem tL{S:AS}{F:Prop}{K:AS->Prop}{k:List Fr}{s:AS}(hK:∀(s1:AS),F->Wk s1 S->K s1)(hF:F)(hw:Wk s S:=by exact Wk.o):Gd P N Q (.ex .normal (.lp K::k) s):=hK s hF hw
theorem aM{P':Type}{S:P'->AS}{F:P'->Prop}{M:P'->Nat}{m0:Nat}{K:AS->Prop}{k:List Fr}{s:AS}(hK:∀(s1:AS),∀(p2:P'),F p2->M p2<m0->Wk s1 (S p2)->K s1)(p0:P')(hF:F p0)
  (hl:M p0<m0:=by first |omega |(dsimp only;omega)) (hw:Wk s (S p0):=by exact Wk.o):Gd P N Q (.ex .normal (.lp K::k) s):=hK s p0 hF hl hw
theorem wi{P':Type}{S:P'->AS}{F:P'->Prop}{K:AS->Prop}{k:List Fr}{s:AS}(hK:∀(s1:AS),∀(p:P'),F p->Wk s1 (S p)->K s1)(p0:P')(hF:F p0)(hw:Wk s (S p0):=by exact Wk.o):Gd P N Q (.ex .normal (.lp K::k) s):=hK s p0 hF hw
theorem jI{P' Q':Type}{S:P'->Q'->AS}{F:P'->Q'->Prop}{M:P'->Q'->Nat}{m0:Nat}{K:AS->Prop}{k:List Fr}{s:AS}(hK:∀(s1:AS),∀(p2:P')(q2:Q'),F p2 q2->M p2 q2<m0->Wk s1 (S p2 q2)->K s1)(p0:P')(q0:Q')(hF:F p0 q0)
  (hl:M p0 q0<m0:=by first |omega |(dsimp only;omega)) (hw:Wk s (S p0 q0):=by exact Wk.o):Gd P N Q (.ex .normal (.lp K::k) s):=hK s p0 q0 hF hl hw
theorem wJ{P' Q':Type}{S:P'->Q'->AS}{F:P'->Q'->Prop}{K:AS->Prop}{k:List Fr}{s:AS}(hK:∀(s1:AS),∀(p:P')(q:Q'),F p q->Wk s1 (S p q)->K s1)(p0:P')(q0:Q')(hF:F p0 q0)(hw:Wk s (S p0 q0):=by exact Wk.o):Gd P N Q (.ex .normal (.lp K::k) s):=hK s p0 q0 hF hw
theorem kL{P' Q' R':Type}{S:P'->Q'->R'->AS}{F:P'->Q'->R'->Prop}{M:P'->Q'->R'->Nat}{m0:Nat}{K:AS->Prop}{k:List Fr}{s:AS}(hK:∀(s1:AS),∀(p2:P')(q2:Q')(r2:R'),F p2 q2 r2->M p2 q2 r2<m0->Wk s1 (S p2 q2 r2)->K s1)(p0:P')(q0:Q')(r0:R')(hF:F p0 q0 r0)
  (hl:M p0 q0 r0<m0:=by first |omega |(dsimp only;omega)) (hw:Wk s (S p0 q0 r0):=by exact Wk.o):Gd P N Q (.ex .normal (.lp K::k) s):=hK s p0 q0 r0 hF hl hw
theorem J8{P' Q' R' T':Type}{S:P'->Q'->R'->T'->AS}{F:P'->Q'->R'->T'->Prop}{M:P'->Q'->R'->T'->Nat}{m0:Nat}{K:AS->Prop}{k:List Fr}{s:AS}(hK:∀(s1:AS),∀(p2:P')(q2:Q')(r2:R')(t2:T'),F p2 q2 r2 t2->M p2 q2 r2 t2<m0->Wk s1 (S p2 q2 r2 t2)->K s1)(p0:P')(q0:Q')(r0:R')(t0:T')(hF:F p0 q0 r0 t0)
  (hl:M p0 q0 r0 t0<m0:=by first |omega |(dsimp only;omega)) (hw:Wk s (S p0 q0 r0 t0):=by exact Wk.o):Gd P N Q (.ex .normal (.lp K::k) s):=hK s p0 q0 r0 t0 hF hl hw
theorem JI{P' Q' R' T':Type}{S:P'->Q'->R'->T'->AS}{F:P'->Q'->R'->T'->Prop}{K:AS->Prop}{k:List Fr}{s:AS}(hK:∀(s1:AS),∀(p:P')(q:Q')(r:R')(t:T'),F p q r t->Wk s1 (S p q r t)->K s1)(p0:P')(q0:Q')(r0:R')(t0:T')(hF:F p0 q0 r0 t0)(hw:Wk s (S p0 q0 r0 t0):=by exact Wk.o):Gd P N Q (.ex .normal (.lp K::k) s):=hK s p0 q0 r0 t0 hF hw
theorem LW{P' Q' R' T' U':Type}{S:P'->Q'->R'->T'->U'->AS}{F:P'->Q'->R'->T'->U'->Prop}{M:P'->Q'->R'->T'->U'->Nat}{m0:Nat}{K:AS->Prop}{k:List Fr}{s:AS}(hK:∀(s1:AS),∀(p2:P')(q2:Q')(r2:R')(t2:T')(u2:U'),F p2 q2 r2 t2 u2->M p2 q2 r2 t2 u2<m0->Wk s1 (S p2 q2 r2 t2 u2)->K s1)(p0:P')(q0:Q')(r0:R')(t0:T')(u0:U')(hF:F p0 q0 r0 t0 u0)
  (hl:M p0 q0 r0 t0 u0<m0:=by first |omega |(dsimp only;omega)) (hw:Wk s (S p0 q0 r0 t0 u0):=by exact Wk.o):Gd P N Q (.ex .normal (.lp K::k) s):=hK s p0 q0 r0 t0 u0 hF hl hw
variable[Inhabited (Tys P)]
variable{s:AS}{k:List Fr}{ob:List Prop}{c':Cf}{us:List Out}{s0:AS}{id i:Nat}{R:List Oper}{sl:di}{ops:List Oper}{o:Oper}{draw:Bool}{rt:List Nat}{hp:Hp}{u:Out}
def uo(P:arj)[Inhabited (Tys P)](s:AS):List ResultVar->Option (List AV)
  |[]=>some []
  |r::rs=>match uo P s rs with
    |some xs=>match r with
      | .tmp t=>match s.get t with
        |some x=>some (x::xs)
        |none=>none
      | .cell t T=>match s.get t with
        |some (.ptr k off)=>match s.blk k with
          |some (.box cs)=>match jE P T with
            |some ti=>match amq off 0&&Nat.ble ti.size cs.length with
              |true=>match yH ti cs with
                |some v=>some (v::xs)
                |none=>none
              |false=>none
            |none=>none
          |_=>none
        |_=>none
    |none=>none
theorem Oj{s:AS}:∀{rs:List ResultVar}{xs:List AV},uo P s rs=some xs->ResL P s rs xs
 |[],xs,h=>by cases h;exact .nil
 |r::rs,xs,h=>by
  unfold uo at h;split at h
  ·rename_i ys hy;have ih:=Oj hy;split at h
   ·split at h
    ·rename_i hx;cases h;exact .cons (.tmp hx) ih
    ·cases h
   ·split at h
    ·rename_i hx;split at h
     ·rename_i hk;split at h
      ·rename_i ti dX;split at h
       ·rename_i hc;simp only[apw]at hc;have:=apy hc.1;subst this;split at h
        ·rename_i v hv;cases h;obtain⟨h2,rfl⟩:=Id hv;exact .cons (.cell hx hk (jg dX) hc.2 h2) ih
        ·cases h
       ·cases h
      ·cases h
     ·cases h
    ·cases h
  ·cases h
theorem gR {rs : List ResultVar} {xs : List AV} {r : AV} {H' : Hp} {e : Exit} (h : aD s (fD xs) r H') (hx : uo P s rs = some xs := by exact rfl) (he : B9 e = true := by exact rfl) :
  Gd P N (q7 P rs r H') (.ex e [] s):=by
 cases e <;> first |exact⟨xs,Oj hx,h⟩ |cases he
theorem ah {rs : List ResultVar} {x r : AV} {e : Exit} (h : x = r) (hx : uo P s rs = some [x] := by exact rfl) (he : B9 e = true := by exact rfl) :
  Gd P N (q7 P rs r []) (.ex e [] s):=gR (KF h) hx he
theorem bK {rs : List ResultVar} {x y r : AV} {e : Exit} (h : .tup [x, y] = r) (hx : uo P s rs = some [x, y] := by exact rfl) (he : B9 e = true := by exact rfl) :
  Gd P N (q7 P rs r []) (.ex e [] s):=gR (oJ h) hx he
theorem C4 {rs : List ResultVar} {x y z r : AV} {e : Exit} (h : .tup [x, y, z] = r) (hx : uo P s rs = some [x, y, z] := by exact rfl) (he : B9 e = true := by exact rfl) :
  Gd P N (q7 P rs r []) (.ex e [] s):=gR (yU h) hx he
theorem dI{ob:List Prop}(h:AllP ob:=by repeat(first |exact AllP.nil |refine AllP.cons (by first |(intro h;(try simp only[pG]at h);simp only[h,beq_self_eq_true,Bool.and_self];done) |exact Vf _ |exact .inl rfl |exact .inr ⟨_,_,rfl⟩ |(intro h;simp_all;done)) ?_)):AllP ob:=h
theorem go{c c':Cf}(h:Gd P N Q c')(st:Nat×Nat:=(99999,0))(hr:run P N st 999 c []=some (c',ob):=by exact rfl)(ho:AllP ob:=by exact dI):Gd P N Q c:=(dq hr ho h).1
theorem gW{c:Code}{s s':AS}(hw:Wk s s')(h:Gd P N Q c')(st:Nat×Nat:=(99999,0))(hr:run P N st 999 (.code c k s') []=some (c',ob):=by exact rfl)(ho:AllP ob:=by exact dI):Gd P N Q (.code c k s):=yd hw (dq hr ho h).1
theorem gC{c:arg}{x y:Code}{b:Bool}{c1 c2:Cf}{ob1 ob2:List Prop}(ht:b=true->Gd P N Q c1)(hf:b=false->Gd P N Q c2)(st1:Nat×Nat:=(99999,0))(st2:Nat×Nat:=(99999,0))
  (hc:Ev s c (.v (.bool b)):=by first |exact .tmp rfl |exact .const _) (bA:run P N st1 999 (.code x k s) []=some (c1,ob1):=by exact rfl) (iU:AllP ob1:=by exact dI) (iG:run P N st2 999 (.code y k s) []=some (c2,ob2):=by exact rfl) (iJ:AllP ob2:=by exact dI) :
  Gd P N Q (.code (.cond c x y) k s):=MN hc (fun h=>(dq bA iU (ht h)).1) (fun h=>(dq iG iJ (hf h)).1)
theorem gf {c : arg} {x y : Code} {b : Bool} {c2 : Cf} {ob2 : List Prop} (hf : Gd P N Q c2) (st2 : Nat × Nat := (99999, 0)) (hc : Ev s c (.v (.bool b)) := by first | exact .tmp rfl | exact .const _) (hb : b = false := by rfl) (iG : run P N st2 999 (.code y k s) [] = some (c2, ob2) := by exact rfl) (iJ : AllP ob2 := by exact dI) :
  Gd P N Q (.code (.cond c x y) k s):=MN hc (fun h=>Bool.noConfusion (hb.symm.trans h)) (fun _=>(dq iG iJ hf).1)
theorem gs (hs : Step P N R.toArray s o u) (h : Gd P N Q c') (st : Nat × Nat := (99999, 0)) (hn : mG s u := by first | exact BR rfl | exact lZ) (hr : run P N st 999 (.ap o u id i R draw s0 ops us k s) [] = some (c', ob) := by exact rfl) (ho : AllP ob := by exact dI) :
  Gd P N Q (.ops id i R draw s0 (o::ops) us k s):=⟨u,hs,hn,(dq hr ho h).1⟩
theorem gt {w : Want} (hs : Step P N R.toArray s o u) (h : Gd P N Q c') (st : Nat × Nat := (99999, 0)) (hn : mG s u := by first | exact BR rfl | exact lZ) (hr : run P N st 999 (.ap o u id i R draw s0 ops us k s) [] = some (c', ob) := by exact rfl) (ho : AllP ob := by exact dI) :
  Gd P N Q (.st w rt o id i R draw s0 ops us k s):=fun _=>⟨u,hs,hn,(dq hr ho h).1⟩
theorem gu {G : Prop} {b : Bool} {w : Want} (hs : Step P N R.toArray s o u) (h : Gd P N Q c') (st : Nat × Nat := (99999, 0)) (hn : mG s u := by first | exact BR rfl | exact lZ) (hr : run P N st 999 (.ap o u id i R draw s0 ops us k s) [] = some (c', ob) := by exact rfl) (ho : AllP ob := by exact dI) :
  Gd P N Q (.sg G b w rt o id i R draw s0 ops us k s):=fun _=>⟨u,hs,hn,(dq hr ho h).1⟩
theorem ga {op : BinOp} {K : IntKind} {a b n : Int} (he : K.wrap (jv op a b) = n) (h : Gd P N Q c') (st : Nat × Nat := (99999, 0)) (hr : run P N st 999 (.ap o ⟨some (.v (.int K n)), [], rt, []⟩ id i R draw s0 ops us k s) [] = some (c', ob) := by exact rfl) (ho : AllP ob := by exact dI) :
  Gd P N Q (.st (.ar op K a b) rt o id i R draw s0 ops us k s):=fun ep=>⟨⟨some (.v (.int K n)),[],rt,[]⟩,ep _ (⟨_,he,rfl⟩),lZ,(dq hr ho h).1⟩
theorem uv {op : BinOp} {K : IntKind} {a b n : Int} {G : Prop} {b0 : Bool} (he : G -> K.wrap (jv op a b) = n) (h : Gd P N Q c') (st : Nat × Nat := (99999, 0)) (hr : run P N st 999 (.ap o ⟨some (.opt b0 (.v (.int K n))), [], rt, []⟩ id i R draw s0 ops us k s) [] = some (c', ob) := by exact rfl) (ho : AllP ob := by exact dI) :
  Gd P N Q (.sg G b0 (.ar op K a b) rt o id i R draw s0 ops us k s):=fun ep=>⟨⟨some (.opt b0 (.v (.int K n))),[],rt,[]⟩,ep _ (fun hG=>⟨_,(he hG),rfl⟩),lZ,(dq hr ho h).1⟩
theorem gv {K : IntKind} {n m : Int} (he : K.wrap n = m) (h : Gd P N Q c') (st : Nat × Nat := (99999, 0)) (hr : run P N st 999 (.ap o ⟨some (.v (.int K m)), [], rt, []⟩ id i R draw s0 ops us k s) [] = some (c', ob) := by exact rfl) (ho : AllP ob := by exact dI) :
  Gd P N Q (.st (.cv K n) rt o id i R draw s0 ops us k s):=fun ep=>⟨⟨some (.v (.int K m)),[],rt,[]⟩,ep _ (⟨_,he,rfl⟩),lZ,(dq hr ho h).1⟩
theorem gvG {K : IntKind} {n m : Int} {G : Prop} {b0 : Bool} (he : G -> K.wrap n = m) (h : Gd P N Q c') (st : Nat × Nat := (99999, 0)) (hr : run P N st 999 (.ap o ⟨some (.opt b0 (.v (.int K m))), [], rt, []⟩ id i R draw s0 ops us k s) [] = some (c', ob) := by exact rfl) (ho : AllP ob := by exact dI) :
  Gd P N Q (.sg G b0 (.cv K n) rt o id i R draw s0 ops us k s):=fun ep=>⟨⟨some (.opt b0 (.v (.int K m))),[],rt,[]⟩,ep _ (fun hG=>⟨_,(he hG),rfl⟩),lZ,(dq hr ho h).1⟩
theorem gl {α : Type} {f : α -> AV} {l : List α} {es : List AV} (h : Gd P N Q c') (st : Nat × Nat := (99999, 0)) (he : es = l.map f := by exact rfl) (hr : run P N st 999 (.ap o ⟨some (.v (.int .i64 (l.length : Nat))), [], rt, []⟩ id i R draw s0 ops us k s) [] = some (c', ob) := by exact rfl) (ho : AllP ob := by exact dI) :
  Gd P N Q (.st (.ln es) rt o id i R draw s0 ops us k s):=fun ep=>⟨⟨some (.v (.int .i64 (l.length:Nat))),[],rt,[]⟩,ep _ (⟨_,(by rw[he,apr]),rfl⟩),lZ,(dq hr ho h).1⟩
theorem cA {α : Type} {f : α -> AV} {l : List α} {es : List AV} {G : Prop} {b0 : Bool} (h : Gd P N Q c') (st : Nat × Nat := (99999, 0)) (he : G -> es = l.map f := by intro h; exact rfl) (hr : run P N st 999 (.ap o ⟨some (.opt b0 (.v (.int .i64 (l.length : Nat)))), [], rt, []⟩ id i R draw s0 ops us k s) [] = some (c', ob) := by exact rfl) (ho : AllP ob := by exact dI) :
  Gd P N Q (.sg G b0 (.ln es) rt o id i R draw s0 ops us k s):=fun ep=>⟨⟨some (.opt b0 (.v (.int .i64 (l.length:Nat)))),[],rt,[]⟩,ep _ (fun hG=>⟨_,(by rw[(he hG),apr]),rfl⟩),lZ,(dq hr ho h).1⟩
theorem ge {n : Nat} {es : List AV} (he : es.length = n) (h : Gd P N Q c') (st : Nat × Nat := (99999, 0)) (hr : run P N st 999 (.ap o ⟨some (.v (.int .i64 n)), [], rt, []⟩ id i R draw s0 ops us k s) [] = some (c', ob) := by exact rfl) (ho : AllP ob := by exact dI) :
  Gd P N Q (.st (.ln es) rt o id i R draw s0 ops us k s):=fun ep=>⟨⟨some (.v (.int .i64 n)),[],rt,[]⟩,ep _ (⟨_,he,rfl⟩),lZ,(dq hr ho h).1⟩
theorem gi {es : List AV} {e : AV} {z : Int} (he : es[z.toNat]? = some e) (h : Gd P N Q c') (st : Nat × Nat := (99999, 0)) (h0 : 0 <= z := by omega) (hr : run P N st 999 (.ap o ⟨some (.iptr e.cells), [], rt, []⟩ id i R draw s0 ops us k s) [] = some (c', ob) := by exact rfl) (ho : AllP ob := by exact dI) :
  Gd P N Q (.st (.ix es z) rt o id i R draw s0 ops us k s):=fun ep=>⟨⟨some (.iptr e.cells),[],rt,[]⟩,ep _ (⟨h0,_,he,rfl⟩),lZ,(dq hr ho h).1⟩
theorem tY {es : List AV} {e : AV} {z : Int} {G : Prop} {b0 : Bool} (he : G -> es[z.toNat]? = some e) (h : Gd P N Q c') (st : Nat × Nat := (99999, 0)) (h0 : G -> 0 <= z := by intro h; omega) (hr : run P N st 999 (.ap o ⟨some (.opt b0 (.iptr e.cells)), [], rt, []⟩ id i R draw s0 ops us k s) [] = some (c', ob) := by exact rfl) (ho : AllP ob := by exact dI) :
  Gd P N Q (.sg G b0 (.ix es z) rt o id i R draw s0 ops us k s):=fun ep=>⟨⟨some (.opt b0 (.iptr e.cells)),[],rt,[]⟩,ep _ (fun hG=>⟨(h0 hG),_,(he hG),rfl⟩),lZ,(dq hr ho h).1⟩
theorem gc {f : FuncId} {xs : List AV} {r : AV} (hc : kK P f xs r) (h : Gd P N Q c') (st : Nat × Nat := (99999, 0)) (hnm : r.nm = [] := by exact rfl) (hr : run P N st 999 (.ap o ⟨some (r), [], rt, []⟩ id i R draw s0 ops us k s) [] = some (c', ob) := by exact rfl) (ho : AllP ob := by exact dI) :
  Gd P N Q (.st (.cl f xs) rt o id i R draw s0 ops us k s):=fun ep=>⟨⟨some (r),[],rt,[]⟩,ep _ (⟨hc,hnm⟩),lZ,(dq hr ho h).1⟩
theorem bT {f : FuncId} {xs : List AV} {r : AV} {G : Prop} {b0 : Bool} (hc : G -> kK P f xs r) (h : Gd P N Q c') (st : Nat × Nat := (99999, 0)) (hnm : G -> r.nm = [] := by intro h; exact rfl) (hr : run P N st 999 (.ap o ⟨some (.opt b0 (r)), [], rt, []⟩ id i R draw s0 ops us k s) [] = some (c', ob) := by exact rfl) (ho : AllP ob := by exact dI) :
  Gd P N Q (.sg G b0 (.cl f xs) rt o id i R draw s0 ops us k s):=fun ep=>⟨⟨some (.opt b0 (r)),[],rt,[]⟩,ep _ (fun hG=>⟨(hc hG),(hnm hG)⟩),lZ,(dq hr ho h).1⟩
theorem gD (h : Gd P N Q c') (st : Nat × Nat := (99999, 0)) (hc : chk R us s0 = true := by kernel_rfl) (hr : run P N st 999 (.ex .normal k s) [] = some (c', ob) := by exact rfl) (ho : AllP ob := by exact dI) :
  Gd P N Q (.ops id i R true s0 [] us k s):=by
 simp only[Gd,kc];exact⟨fun _=>hc,(dq hr ho h).1⟩
theorem gF{f:FuncId}{fn:Func}{c:Code}{args:List AV}{H:Hp}{r:AV}{H':Hp}(hf:P.funcs[f]?=some fn)(hH:∀k z,lk H k=some z->1000<=k)
  (h : Gd P fn.ntmps (q7 P fn.results.toList r H') c') (st : Nat × Nat := (99999, 0)) (hb : fn.body = some c := by exact rfl) (hn : (fn.name == "runtime.NumGoroutine") = false := by exact rfl)
  (hs:yO 0 args=some sl:=by exact rfl) (hr:run P fn.ntmps st 999 (.code c [] ⟨sl,H⟩) []=some (c',ob):=by exact rfl) (ho:AllP ob:=by exact dI):Con P f args H r H':=P8 hf hb hn (by simp) rfl hH (Ip hs▸(dq hr ho h).1)
theorem ai{f:FuncId}{fn:Func}{c:Code}{args:List AV}{r:AV}(hf:P.funcs[f]?=some fn)
  (h : Gd P fn.ntmps (q7 P fn.results.toList r []) c') (st : Nat × Nat := (99999, 0)) (hb : fn.body = some c := by exact rfl) (hn : (fn.name == "runtime.NumGoroutine") = false := by exact rfl)
  (hs:yO 0 args=some sl:=by exact rfl) (hr:run P fn.ntmps st 999 (.code c [] ⟨sl,[]⟩) []=some (c',ob):=by exact rfl) (ho:AllP ob:=by exact dI):kK P f args r:=Vi hf hb hn (by simp) rfl (Ip hs▸(dq hr ho h).1)
theorem gL0{c:Code}{C:(AS->Prop)->Cf}{ob:(AS->Prop)->List Prop}(ks kh:List Nat)(f:di)(g:Hp)(F:Prop)(M:Nat)(hF:F)
  (h:F->∀K:AS->Prop,(∀(s1:AS),F->M<M->Wk s1 ⟨f++sl,g++hp⟩->K s1)->Gd P N Q (C K)) (st:Nat×Nat:=(99999,0)) (hs:pk s.sl ks=some sl:=by exact rfl) (hh:pk s.hp kh=some hp:=by exact rfl)
  (h1:SlW s.sl (f):=by exact a6) (h2:HpW s.hp (g):=by repeat(first |exact HpW.nil |refine HpW.cons rfl (.refl _) ?_)) (hr:∀K,run P N st 999 (.code c (.lp K::k) ⟨f++sl,g++hp⟩) []=some (C K,ob K):=by intros;exact rfl) (ho:∀K,AllP (ob K):=by intros;exact dI):Gd P N Q (.code (.loop c) k s):=by
 refine vV (fun n s =>  M=n/\F/\s=⟨f++sl,g++hp⟩) (Wk.p h1 h2 hs hh) ⟨rfl,hF,rfl⟩ ?_;rintro n s ⟨rfl,hF,rfl⟩ K hK;exact mZ (dq (hr K) (ho K) (h hF K (fun s1 h1 h2 h3=>hK s1 _ _ h3 ⟨rfl,h1,rfl⟩ h2))).1 (fun e s he=>by cases e <;> exact he)
theorem Gu{c y:Code}{k k1 k2:List Fr}{c1:(AS->Prop)->Cf}{ob1:(AS->Prop)->List Prop}{c2:Cf}{ob2:List Prop}(ks kh:List Nat)(f:di)(g:Hp)(F:Prop)(h1:∀K:AS->Prop,(∀(s1:AS),F->Wk s1 ⟨f++sl,g++hp⟩->K s1)->Gd P N Q (c1 K))
  (h2:F->Gd P N Q (c2)) (n:Nat:=0) (st1:Nat×Nat:=(99999,0)) (st2:Nat×Nat:=(99999,0)) (hk:qk n k=some (k1,y,k2):=by exact rfl) (hs:pk s.sl ks=some sl:=by exact rfl) (hh:pk s.hp kh=some hp:=by exact rfl) (bA:∀K,run P N st1 999 (.code c (k1 ++ .lp K::k2) s) []=some (c1 K,ob1 K):=by intros;exact rfl) (iU:∀K,AllP (ob1 K):=by intros;exact dI) (iG:run P N st2 999 (.code y k2 ⟨f++sl,g++hp⟩) []=some (c2,ob2):=by intros;exact rfl) (iJ:AllP (ob2):=by intros;exact dI):Gd P N Q (.code c k s):=by
 rw[xE hk];exact mZ (dq (bA (fun s=>cq P N y (dA P N Q k2) s)) (iU _) (h1 (fun s=>cq P N y (dA P N Q k2) s) (fun s1 hF hw=>yd hw (dq (iG) (iJ) (h2 hF)).1))).1 (fun e s=>qr (fun s h=>h) k1 e s)
theorem aS{P':Type}{c:Code}{C:P'->(AS->Prop)->Cf}{ob:P'->(AS->Prop)->List Prop}(ks kh:List Nat)(f:P'->di)(g:P'->Hp)(F:P'->Prop)(M:P'->Nat)(p0:P')(hF:F p0)
  (h:∀(p:P'),F p->∀K:AS->Prop,(∀(s1:AS),∀(p2:P'),F p2->M p2<M p->Wk s1 ⟨f p2++sl,g p2++hp⟩->K s1)->Gd P N Q (C p K)) (st:Nat×Nat:=(99999,0)) (hs:pk s.sl ks=some sl:=by exact rfl) (hh:pk s.hp kh=some hp:=by exact rfl)
  (h1:SlW s.sl (f p0):=by exact a6) (h2:HpW s.hp (g p0):=by repeat(first |exact HpW.nil |refine HpW.cons rfl (.refl _) ?_)) (hr:∀(p:P'),∀K,run P N st 999 (.code c (.lp K::k) ⟨f p++sl,g p++hp⟩) []=some (C p K,ob p K):=by intros;exact rfl) (ho:∀(p:P'),∀K,AllP (ob p K):=by intros;exact dI):Gd P N Q (.code (.loop c) k s):=by
 refine vV (fun n s=>∃(p:P'),M p=n/\F p/\s=⟨f p++sl,g p++hp⟩) (Wk.p h1 h2 hs hh) ⟨p0,rfl,hF,rfl⟩ ?_;rintro n s ⟨p,rfl,hF,rfl⟩ K hK;exact mZ (dq (hr p K) (ho p K) (h p hF K (fun s1 p2 h1 h2 h3=>hK s1 _ _ h3 ⟨p2,rfl,h1,rfl⟩ h2))).1 (fun e s he=>by cases e <;> exact he)
theorem Fh{P':Type}{c y:Code}{k k1 k2:List Fr}{c1:(AS->Prop)->Cf}{ob1:(AS->Prop)->List Prop}{c2:P'->Cf}{ob2:P'->List Prop}(ks kh:List Nat)(f:P'->di)(g:P'->Hp)(F:P'->Prop)(h1:∀K:AS->Prop,(∀(s1:AS),∀(p:P'),F p->Wk s1 ⟨f p++sl,g p++hp⟩->K s1)->Gd P N Q (c1 K))
  (h2:∀(p:P'),F p->Gd P N Q (c2 p)) (n:Nat:=0) (st1:Nat×Nat:=(99999,0)) (st2:Nat×Nat:=(99999,0)) (hk:qk n k=some (k1,y,k2):=by exact rfl) (hs:pk s.sl ks=some sl:=by exact rfl) (hh:pk s.hp kh=some hp:=by exact rfl) (bA:∀K,run P N st1 999 (.code c (k1 ++ .lp K::k2) s) []=some (c1 K,ob1 K):=by intros;exact rfl) (iU:∀K,AllP (ob1 K):=by intros;exact dI) (iG:∀(p:P'),run P N st2 999 (.code y k2 ⟨f p++sl,g p++hp⟩) []=some (c2 p,ob2 p):=by intros;exact rfl) (iJ:∀(p:P'),AllP (ob2 p):=by intros;exact dI):Gd P N Q (.code c k s):=by
 rw[xE hk];exact mZ (dq (bA (fun s=>cq P N y (dA P N Q k2) s)) (iU _) (h1 (fun s=>cq P N y (dA P N Q k2) s) (fun s1 p hF hw=>yd hw (dq (iG p) (iJ p) (h2 p hF)).1))).1 (fun e s=>qr (fun s h=>h) k1 e s)
theorem kg{P' Q':Type}{c:Code}{C:P'->Q'->(AS->Prop)->Cf}{ob:P'->Q'->(AS->Prop)->List Prop}(ks kh:List Nat)(f:P'->Q'->di)(g:P'->Q'->Hp)(F:P'->Q'->Prop)(M:P'->Q'->Nat)(p0:P')(q0:Q')(hF:F p0 q0)
  (h:∀(p:P')(q:Q'),F p q->∀K:AS->Prop,(∀(s1:AS),∀(p2:P')(q2:Q'),F p2 q2->M p2 q2<M p q->Wk s1 ⟨f p2 q2++sl,g p2 q2++hp⟩->K s1)->Gd P N Q (C p q K)) (st:Nat×Nat:=(99999,0)) (hs:pk s.sl ks=some sl:=by exact rfl) (hh:pk s.hp kh=some hp:=by exact rfl)
  (h1:SlW s.sl (f p0 q0):=by exact a6) (h2:HpW s.hp (g p0 q0):=by repeat(first |exact HpW.nil |refine HpW.cons rfl (.refl _) ?_)) (hr:∀(p:P')(q:Q'),∀K,run P N st 999 (.code c (.lp K::k) ⟨f p q++sl,g p q++hp⟩) []=some (C p q K,ob p q K):=by intros;exact rfl) (ho:∀(p:P')(q:Q'),∀K,AllP (ob p q K):=by intros;exact dI):Gd P N Q (.code (.loop c) k s):=by
 refine vV (fun n s=>∃(p:P')(q:Q'),M p q=n/\F p q/\s=⟨f p q++sl,g p q++hp⟩) (Wk.p h1 h2 hs hh) ⟨p0,q0,rfl,hF,rfl⟩ ?_;rintro n s ⟨p,q,rfl,hF,rfl⟩ K hK;exact mZ (dq (hr p q K) (ho p q K) (h p q hF K (fun s1 p2 q2 h1 h2 h3=>hK s1 _ _ h3 ⟨p2,q2,rfl,h1,rfl⟩ h2))).1 (fun e s he=>by cases e <;> exact he)
theorem Hw{P' Q':Type}{c y:Code}{k k1 k2:List Fr}{c1:(AS->Prop)->Cf}{ob1:(AS->Prop)->List Prop}{c2:P'->Q'->Cf}{ob2:P'->Q'->List Prop}(ks kh:List Nat)(f:P'->Q'->di)(g:P'->Q'->Hp)(F:P'->Q'->Prop)(h1:∀K:AS->Prop,(∀(s1:AS),∀(p:P')(q:Q'),F p q->Wk s1 ⟨f p q++sl,g p q++hp⟩->K s1)->Gd P N Q (c1 K))
  (h2:∀(p:P')(q:Q'),F p q->Gd P N Q (c2 p q)) (n:Nat:=0) (st1:Nat×Nat:=(99999,0)) (st2:Nat×Nat:=(99999,0)) (hk:qk n k=some (k1,y,k2):=by exact rfl) (hs:pk s.sl ks=some sl:=by exact rfl) (hh:pk s.hp kh=some hp:=by exact rfl) (bA:∀K,run P N st1 999 (.code c (k1 ++ .lp K::k2) s) []=some (c1 K,ob1 K):=by intros;exact rfl) (iU:∀K,AllP (ob1 K):=by intros;exact dI) (iG:∀(p:P')(q:Q'),run P N st2 999 (.code y k2 ⟨f p q++sl,g p q++hp⟩) []=some (c2 p q,ob2 p q):=by intros;exact rfl) (iJ:∀(p:P')(q:Q'),AllP (ob2 p q):=by intros;exact dI):Gd P N Q (.code c k s):=by
 rw[xE hk];exact mZ (dq (bA (fun s=>cq P N y (dA P N Q k2) s)) (iU _) (h1 (fun s=>cq P N y (dA P N Q k2) s) (fun s1 p q hF hw=>yd hw (dq (iG p q) (iJ p q) (h2 p q hF)).1))).1 (fun e s=>qr (fun s h=>h) k1 e s)
theorem lS{P' Q' R':Type}{c:Code}{C:P'->Q'->R'->(AS->Prop)->Cf}{ob:P'->Q'->R'->(AS->Prop)->List Prop}(ks kh:List Nat)(f:P'->Q'->R'->di)(g:P'->Q'->R'->Hp)(F:P'->Q'->R'->Prop)(M:P'->Q'->R'->Nat)(p0:P')(q0:Q')(r0:R')(hF:F p0 q0 r0)
  (h:∀(p:P')(q:Q')(r:R'),F p q r->∀K:AS->Prop,(∀(s1:AS),∀(p2:P')(q2:Q')(r2:R'),F p2 q2 r2->M p2 q2 r2<M p q r->Wk s1 ⟨f p2 q2 r2++sl,g p2 q2 r2++hp⟩->K s1)->Gd P N Q (C p q r K)) (st:Nat×Nat:=(99999,0)) (hs:pk s.sl ks=some sl:=by exact rfl) (hh:pk s.hp kh=some hp:=by exact rfl)
  (h1:SlW s.sl (f p0 q0 r0):=by exact a6) (h2:HpW s.hp (g p0 q0 r0):=by repeat(first |exact HpW.nil |refine HpW.cons rfl (.refl _) ?_)) (hr:∀(p:P')(q:Q')(r:R'),∀K,run P N st 999 (.code c (.lp K::k) ⟨f p q r++sl,g p q r++hp⟩) []=some (C p q r K,ob p q r K):=by intros;exact rfl) (ho:∀(p:P')(q:Q')(r:R'),∀K,AllP (ob p q r K):=by intros;exact dI):Gd P N Q (.code (.loop c) k s):=by
 refine vV (fun n s=>∃(p:P')(q:Q')(r:R'),M p q r=n/\F p q r/\s=⟨f p q r++sl,g p q r++hp⟩) (Wk.p h1 h2 hs hh) ⟨p0,q0,r0,rfl,hF,rfl⟩ ?_;rintro n s ⟨p,q,r,rfl,hF,rfl⟩ K hK;exact mZ (dq (hr p q r K) (ho p q r K) (h p q r hF K (fun s1 p2 q2 r2 h1 h2 h3=>hK s1 _ _ h3 ⟨p2,q2,r2,rfl,h1,rfl⟩ h2))).1 (fun e s he=>by cases e <;> exact he)
theorem gL4{P' Q' R' T':Type}{c:Code}{C:P'->Q'->R'->T'->(AS->Prop)->Cf}{ob:P'->Q'->R'->T'->(AS->Prop)->List Prop}(ks kh:List Nat)(f:P'->Q'->R'->T'->di)(g:P'->Q'->R'->T'->Hp)(F:P'->Q'->R'->T'->Prop)(M:P'->Q'->R'->T'->Nat)(p0:P')(q0:Q')(r0:R')(t0:T')(hF:F p0 q0 r0 t0)
  (h:∀(p:P')(q:Q')(r:R')(t:T'),F p q r t->∀K:AS->Prop,(∀(s1:AS),∀(p2:P')(q2:Q')(r2:R')(t2:T'),F p2 q2 r2 t2->M p2 q2 r2 t2<M p q r t->Wk s1 ⟨f p2 q2 r2 t2++sl,g p2 q2 r2 t2++hp⟩->K s1)->Gd P N Q (C p q r t K)) (st:Nat×Nat:=(99999,0)) (hs:pk s.sl ks=some sl:=by exact rfl) (hh:pk s.hp kh=some hp:=by exact rfl)
  (h1:SlW s.sl (f p0 q0 r0 t0):=by exact a6) (h2:HpW s.hp (g p0 q0 r0 t0):=by repeat(first |exact HpW.nil |refine HpW.cons rfl (.refl _) ?_)) (hr:∀(p:P')(q:Q')(r:R')(t:T'),∀K,run P N st 999 (.code c (.lp K::k) ⟨f p q r t++sl,g p q r t++hp⟩) []=some (C p q r t K,ob p q r t K):=by intros;exact rfl) (ho:∀(p:P')(q:Q')(r:R')(t:T'),∀K,AllP (ob p q r t K):=by intros;exact dI):Gd P N Q (.code (.loop c) k s):=by
 refine vV (fun n s=>∃(p:P')(q:Q')(r:R')(t:T'),M p q r t=n/\F p q r t/\s=⟨f p q r t++sl,g p q r t++hp⟩) (Wk.p h1 h2 hs hh) ⟨p0,q0,r0,t0,rfl,hF,rfl⟩ ?_;rintro n s ⟨p,q,r,t,rfl,hF,rfl⟩ K hK;exact mZ (dq (hr p q r t K) (ho p q r t K) (h p q r t hF K (fun s1 p2 q2 r2 t2 h1 h2 h3=>hK s1 _ _ h3 ⟨p2,q2,r2,t2,rfl,h1,rfl⟩ h2))).1 (fun e s he=>by cases e <;> exact he)
theorem gJ4{P' Q' R' T':Type}{c y:Code}{k k1 k2:List Fr}{c1:(AS->Prop)->Cf}{ob1:(AS->Prop)->List Prop}{c2:P'->Q'->R'->T'->Cf}{ob2:P'->Q'->R'->T'->List Prop}(ks kh:List Nat)(f:P'->Q'->R'->T'->di)(g:P'->Q'->R'->T'->Hp)(F:P'->Q'->R'->T'->Prop)(h1:∀K:AS->Prop,(∀(s1:AS),∀(p:P')(q:Q')(r:R')(t:T'),F p q r t->Wk s1 ⟨f p q r t++sl,g p q r t++hp⟩->K s1)->Gd P N Q (c1 K))
  (h2:∀(p:P')(q:Q')(r:R')(t:T'),F p q r t->Gd P N Q (c2 p q r t)) (n:Nat:=0) (st1:Nat×Nat:=(99999,0)) (st2:Nat×Nat:=(99999,0)) (hk:qk n k=some (k1,y,k2):=by exact rfl) (hs:pk s.sl ks=some sl:=by exact rfl) (hh:pk s.hp kh=some hp:=by exact rfl) (bA:∀K,run P N st1 999 (.code c (k1 ++ .lp K::k2) s) []=some (c1 K,ob1 K):=by intros;exact rfl) (iU:∀K,AllP (ob1 K):=by intros;exact dI) (iG:∀(p:P')(q:Q')(r:R')(t:T'),run P N st2 999 (.code y k2 ⟨f p q r t++sl,g p q r t++hp⟩) []=some (c2 p q r t,ob2 p q r t):=by intros;exact rfl) (iJ:∀(p:P')(q:Q')(r:R')(t:T'),AllP (ob2 p q r t):=by intros;exact dI):Gd P N Q (.code c k s):=by
 rw[xE hk];exact mZ (dq (bA (fun s=>cq P N y (dA P N Q k2) s)) (iU _) (h1 (fun s=>cq P N y (dA P N Q k2) s) (fun s1 p q r t hF hw=>yd hw (dq (iG p q r t) (iJ p q r t) (h2 p q r t hF)).1))).1 (fun e s=>qr (fun s h=>h) k1 e s)
theorem NC{P' Q' R' T' U':Type}{c:Code}{C:P'->Q'->R'->T'->U'->(AS->Prop)->Cf}{ob:P'->Q'->R'->T'->U'->(AS->Prop)->List Prop}(ks kh:List Nat)(f:P'->Q'->R'->T'->U'->di)(g:P'->Q'->R'->T'->U'->Hp)(F:P'->Q'->R'->T'->U'->Prop)(M:P'->Q'->R'->T'->U'->Nat)(p0:P')(q0:Q')(r0:R')(t0:T')(u0:U')(hF:F p0 q0 r0 t0 u0)
  (h:∀(p:P')(q:Q')(r:R')(t:T')(u:U'),F p q r t u->∀K:AS->Prop,(∀(s1:AS),∀(p2:P')(q2:Q')(r2:R')(t2:T')(u2:U'),F p2 q2 r2 t2 u2->M p2 q2 r2 t2 u2<M p q r t u->Wk s1 ⟨f p2 q2 r2 t2 u2++sl,g p2 q2 r2 t2 u2++hp⟩->K s1)->Gd P N Q (C p q r t u K)) (st:Nat×Nat:=(99999,0)) (hs:pk s.sl ks=some sl:=by exact rfl) (hh:pk s.hp kh=some hp:=by exact rfl)
  (h1:SlW s.sl (f p0 q0 r0 t0 u0):=by exact a6) (h2:HpW s.hp (g p0 q0 r0 t0 u0):=by repeat(first |exact HpW.nil |refine HpW.cons rfl (.refl _) ?_)) (hr:∀(p:P')(q:Q')(r:R')(t:T')(u:U'),∀K,run P N st 999 (.code c (.lp K::k) ⟨f p q r t u++sl,g p q r t u++hp⟩) []=some (C p q r t u K,ob p q r t u K):=by intros;exact rfl) (ho:∀(p:P')(q:Q')(r:R')(t:T')(u:U'),∀K,AllP (ob p q r t u K):=by intros;exact dI):Gd P N Q (.code (.loop c) k s):=by
 refine vV (fun n s=>∃(p:P')(q:Q')(r:R')(t:T')(u:U'),M p q r t u=n/\F p q r t u/\s=⟨f p q r t u++sl,g p q r t u++hp⟩) (Wk.p h1 h2 hs hh) ⟨p0,q0,r0,t0,u0,rfl,hF,rfl⟩ ?_;rintro n s ⟨p,q,r,t,u,rfl,hF,rfl⟩ K hK;exact mZ (dq (hr p q r t u K) (ho p q r t u K) (h p q r t u hF K (fun s1 p2 q2 r2 t2 u2 h1 h2 h3=>hK s1 _ _ h3 ⟨p2,q2,r2,t2,u2,rfl,h1,rfl⟩ h2))).1 (fun e s he=>by cases e <;> exact he)
end Go.Lw
namespace Go.Lw
open Go.Proofs
instance:Inhabited (Tys prog):=⟨⟨_,(.nd (.nd (.nd (.nd (.nd (.nd .lf T3 .lf) T4 (.nd .lf T5 .lf)) T9 (.nd (.nd .lf T22 .lf) T23 (.nd .lf T24 .lf))) T26 (.nd (.nd (.nd .lf T33 .lf) T35 (.nd .lf T38 .lf)) T41 (.nd (.nd .lf T42 .lf) T44 .lf))) T45 (.nd (.nd (.nd (.nd .lf T46 .lf) T48 (.nd .lf T52 .lf)) T53 (.nd (.nd .lf T55 .lf) T65 (.nd .lf T104 .lf))) T106 (.nd (.nd (.nd .lf T115 .lf) T117 (.nd .lf T124 .lf)) T130 (.nd (.nd .lf T135 .lf) T137 .lf)))) T139 (.nd (.nd (.nd (.nd (.nd .lf T141 .lf) T147 (.nd .lf T149 .lf)) T151 (.nd (.nd .lf T169 .lf) T180 (.nd .lf T182 .lf))) T185 (.nd (.nd (.nd .lf T191 .lf) T200 (.nd .lf T239 .lf)) T252 (.nd (.nd .lf T257 .lf) T292 .lf))) T301 (.nd (.nd (.nd (.nd .lf T316 .lf) T320 (.nd .lf T322 .lf)) T352 (.nd (.nd .lf T354 .lf) T355 (.nd .lf T387 .lf))) T390 (.nd (.nd (.nd .lf T429 .lf) T446 (.nd .lf T460 .lf)) T465 (.nd (.nd .lf T470 .lf) T476 .lf))))),Xa⟩⟩
section
variable{P:arj}{W:ark}{H:Type}{enc:ari×arh->H}
abbrev Kx:Nat->Prop:=fun _=>False
abbrev Gw(W:ark):Nat->Array arh->Prop:=Im Kx [] eP W
abbrev sJ(W:ark)(cs:List arh)(xs:List AV):Prop:=fa (Gw W) (Sz W) eP cs xs
theorem Uq{b:Nat}{c:Array arh}{t:ari}{fr:Nat×Nat}(h:W.heap[b]?=some (.cells c t fr)):Gw W b c :=
 ⟨fun h=>h,fun⟨k,x,h,_⟩=>by(cases h),t,fr,h⟩
def e8(P:arj)(W:ark)(enc:ari×arh->H)(t:ari){α:Type}(f:α->AV)(p:α->Prop):Prop :=
  ∀(sp:Nat->Bool)(fuel:Nat)(cs:List arh)(x:DataW H×List MemPlace),DataW.trod enc P W 0 sp true fuel t cs=some x->(∀n∈x.1.weights P t,n<=reachBytes)->∃a,p a/\sJ W cs (f a).cells
theorem zT{v:arh}{x:AV}(h:Rep (Gw W) (Sz W) eP v x)(h1:x.one=true):sJ W [v] [x]:=by
 refine⟨rfl,fun j y hy=>?_,fun j u y hu hy=>?_⟩
 ·match j,hy with
  |0,hy=>cases hy;exact h1
 ·match j,hu,hy with
  |0,hu,hy=>cases hu;cases hy;exact h
theorem Us{t:ari}(ht:P.underlying t=some .bool):e8 P W enc t (fun b:Bool=>AV.v (.bool b)) (fun _=>True):=by
 intro sp fuel cs x h er;obtain⟨b,rfl,_⟩:=DataW.trod_bool ht h;exact⟨b,trivial,zT (.v _) rfl⟩
theorem PI{t:ari}{k:IntKind}(ht:P.underlying t=some (.int k)):e8 P W enc t (fun n:Int=>AV.v (.int k n)) (fun n=>(Lit.int k n).wf=true):=by
 intro sp fuel cs x h er;obtain⟨n,rfl,_,hw⟩:=DataW.trod_int ht h;exact⟨n,hw,zT (.v _) rfl⟩
theorem Yr{t:ari}(ht:P.underlying t=some .string):e8 P W enc t (fun s:ByteArray=>AV.v (.string s)) (fun s=>s.size<=281474976710656):=by
 intro sp fuel cs x h er;obtain⟨s,rfl,hx,hs⟩:=DataW.trod_string ht h;have h1:=er s.data.toList.length (by rw[hx];simp[DataW.weights]);have h2:s.data.toList.length=s.size:=rfl;exact⟨s,by rw[h2]at h1;exact aqe h1 (by decide),zT (.v _) rfl⟩
theorem e8.map{α β:Type}{t:ari}{f:α->AV}{p:α->Prop}(h:e8 P W enc t f p)(g:α->β)(f':β->AV)(p':β->Prop)(hg:∀a,p a->p' (g a)/\f' (g a)=f a):e8 P W enc t f' p':=by
 intro sp fuel cs x hx er;obtain⟨a,ha,hc⟩:=h sp fuel cs x hx er;obtain⟨h1,h2⟩:=hg a ha;exact⟨g a,h1,by rw[h2];exact hc⟩
theorem Ts{cs:List arh}{off n m:Nat}{xs ys:List AV}(h1:sJ W ((cs.drop off).take n) xs)(hx:xs.length=n)(h2:sJ W ((cs.drop (off+n)).take m) ys) :
  sJ W ((cs.drop off).take (n+m)) (xs++ys):=by
 have e:(cs.drop off).take (n+m)=(cs.drop off).take n++(cs.drop (off+n)).take m:=by
  rw[List.take_add,drop_drop]
 have hl:((cs.drop off).take n).length=n:=by rw[h1.1,hx]
 rw[e];refine⟨by simp only[aqk,h1.1,h2.1],fun j y hy=>?_,fun j u y hu hy=>?_⟩
 ·rcases apz j xs.length with g |g
  ·rw[aqc g]at hy;exact h1.2.1 j y hy
  ·rw[aqb g]at hy;exact h2.2.1 _ y hy
 ·rcases apz j xs.length with g |g
  ·rw[aqc g]at hy;rw[aqc oz]at hu;exact h1.2.2 j u y hu hy
  ·rw[aqb g]at hy;rw[aqb oz,hl]at hu;exact h2.2.2 (j-n) u y hu (by rw[<- hx];exact hy)
inductive FlOk(P:arj)(W:ark)(enc:ari×arh->H):List Field->Nat->{α:Type}->(α->List AV)->(α->Prop)->Prop
  |nil (off:Nat):FlOk P W enc [] off (fun _:Unit=>[]) (fun _=>True)
  |cons {fl:Field} {fls:List Field} {off n:Nat} {α β:Type} {f:α->AV} {p:α->Prop} {g:β->List AV} {q:β->Prop} (ho:fl.offset=off) (hn:P.cellsOf fl.type=n) (hf:e8 P W enc fl.type f p)
      (iV:∀a,(f a).cells.length=n) (hs:FlOk P W enc fls (off+n) g q):FlOk P W enc (fl::fls) off (fun z:α×β=>(f z.1).cells++g z.2) (fun z=>p z.1/\q z.2)
theorem FlOk.rep{fls:List Field}{off:Nat}{α:Type}{g:α->List AV}{q:α->Prop}(h:FlOk P W enc fls off g q){cs:List arh}{sp:Nat->Bool}{fuel:Nat}
  (hr:∀fl∈fls,∃x,DataW.trod enc P W 0 sp true fuel fl.type ((cs.drop fl.offset).take (P.cellsOf fl.type))=some x/\∀n∈x.1.weights P fl.type,n<=reachBytes):∃a m,q a/\sJ W ((cs.drop off).take m) (g a)/\m=(g a).length:=by
 induction h with
 |nil off=>exact⟨(),0,trivial,⟨by simp,fun j x hx=>by simp at hx,fun j u x hu hx=>by simp at hx⟩,rfl⟩
 | @cons fl fls off n α β f p g q ho hn hf iV hs ih =>
  obtain⟨x,hx,hwx⟩:=hr fl (aqr ..);rw[ho,hn]at hx;obtain⟨a,ha,hc⟩:=hf _ _ _ _ hx hwx;obtain⟨b,m,hb,tc,hm⟩:=ih (fun fl' h'=>hr fl' (aqq _ h'));exact⟨(a,b),n+m,⟨ha,hb⟩,Ts hc (iV a) tc,by simp only[aqk,iV a,hm]⟩
theorem adz{t:ari}{fs:Array Field}{α:Type}{g:α->List AV}{q:α->Prop}(ht:P.underlying t=some (.struct fs))(hf:FlOk P W enc fs.toList 0 g q)(hn:∀a,(g a).length=P.cellsOf t) :
  e8 P W enc t (fun a=>.agg (g a)) q:=by
 intro sp fuel cs x h er;obtain⟨xs,n,rfl,uT,hl,fJ,mg⟩:=DataW.trod_struct ht h
 obtain⟨a,m,ha,hc,hm⟩:=hf.rep (cs:=cs) (sp:=sp) (fuel:=n) (fun fl DO=>by
  obtain⟨i,hi⟩:=aqx DO;have hi':fs[i]?=some fl:=by simpa using hi
  have h1:=mg i fl hi';have h2:i<xs.length:=by rw[fJ];exact(Array.getElem?_eq_some_iff.1 hi').1
  refine⟨xs[i],by rw[h1,aps h2],fun k hk=>er k ?_⟩;rw[uT];simp only[DataW.weights,ht];exact DataW.weights_mem_each (j:=i) (by simpa using⟨fl,hi',rfl⟩) (by rw[apv,aps h2];rfl) k hk)
 refine⟨a,ha,?_⟩;rw[hm,hn a,<- hl,aq1,ap5]at hc;exact hc
theorem tN{t:ari}{n:Nat}{fs:Array Field}{α:Type}{g:α->List AV}{q:α->Prop}(ht:P.underlying t=some (.struct fs))(hc:P.cellsOf t=n)(hf:FlOk P W enc fs.toList 0 g q)(hn:∀a,(g a).length=n) :
  e8 P W enc t (fun a=>.agg (g a)) q:=adz ht hf (fun a=>(hn a).trans hc.symm)
theorem NP{α:Type}{q:Nat->α->Prop}:∀(n:Nat),(∀i,i<n->∃a,q i a)->∃l:List α,l.length=n/\∀i a,l[i]?=some a->q i a
 |0,_=>⟨[],rfl,fun i a h=>by simp at h⟩
 |n+1,h=>by
  obtain⟨l,h1,h2⟩:=NP n (fun i hi=>h i oz);obtain⟨a,ha⟩:=h n oz;refine⟨l++[a],by simp[h1],fun i b hb=>?_⟩;rcases apz i l.length with g |g
  ·rw[aqc g]at hb;exact h2 i b hb
  ·rw[aqb g]at hb
   have hi:i-l.length=0:=by
    rcases al2 (i-l.length)with g |g
    ·exact g
    ·rw[ap6 (by simp only[ap4,ap9];omega)]at hb;cases hb
   rw[hi]at hb;cases hb;have:i=n:=by omega
   rw[this];exact ha
theorem VG{a:Addr}{v:arh}(h:W.cell? a=some v):∃b off,a=⟨b,off,none⟩:=by
 obtain⟨b,off,s⟩:=a;unfold World.cell? at h;split at h
 ·cases s with
  |none=>exact⟨b,off,rfl⟩
  |some s=>simp at h
 ·cases h
theorem MF{b off:Nat}{v:arh}(h:W.cell? ⟨b,off,none⟩=some v):∃c t fr,W.heap[b]?=some (.cells c t fr)/\c[off]?=some v:=by
 unfold World.cell? at h;split at h
 ·rename_i c t fr hb;exact⟨c,t,fr,hb,by simpa using h⟩
 ·cases h
theorem Ka{e:ari}:∀{l:List (DataW H)}{d:DataW H},d∈l->∀n∈d.weights P e,n∈DataW.weightsAll P e l
 |x::l,d,hd,n,hn=>by
  simp only[DataW.weightsAll,ap2];rcases aqf.1 hd with rfl |hd
  ·exact .inl hn
  ·exact .inr (Ka hd n hn)
theorem wD{t e:ari}{n:Nat}{α:Type}{f:α->AV}{p:α->Prop}(ht:P.underlying t=some (.slice e))(hc:P.cellsOf e=n)(hn:0<n)(R9:aly 0 (P.bytesOf e)=true)(mg:e8 P W enc e f p)(iV:∀a,(f a).cells.length=n) :
  e8 P W enc t (fun l:List α=>.lst n (l.map f)) (fun l=>(∀a∈l,p a)/\l.length<=281474976710656):=by
 intro sp fuel cs x h er;rcases DataW.trod_slice ht h with⟨rfl,_⟩ |⟨a,len,cap,elems,rest,m,_,rfl,uT,_,hl,hm,bV,hE,_,_⟩
 ·exact⟨[],⟨fun a ha=>by(cases ha),apx _⟩,zT (.lst0 _ _ _) rfl⟩
 ·obtain⟨l,kW,hq⟩:=NP (q:=fun i a'=>p a'/\∃cs',W.cells? 0 (a.add (i*n)) n=some cs'/\sJ W cs' (f a').cells) len (fun i hi=>by
   have h1:=hE i hi;rw[hc,aps oz,Option.bind_eq_some_iff]at h1;obtain⟨cs',h2,h3⟩:=h1
   obtain⟨a',ha,hc'⟩:=mg _ _ _ _ h3 (fun k hk=>er k (by
    rw[uT];simp only[DataW.weights,ht];exact aqq _ (List.mem_append_left _ (Ka (anx.2 ⟨_,anm (by omega:i<elems.length),rfl⟩) k hk))))
   exact⟨a',ha,cs',h2,hc'⟩)
  have hcm:len<=281474976710656:=by
   have h1:=er ((elems.length+rest.length)*P.bytesOf e) (by
    rw[uT];simp only[DataW.weights,ht,apr];exact aqr ..)
   rw[al5]at R9;have h2:elems.length+rest.length<=(elems.length+rest.length)*P.bytesOf e:=Nat.le_mul_of_pos_right _ R9;have h3:reachBytes<=281474976710656:=by decide
   omega
  refine⟨l,⟨fun a' ha=>?_,by omega⟩,zT ?_ rfl⟩
  ·obtain⟨i,hi⟩:=aqx ha;exact(hq i a' hi).1
  ·by_cases h0:len=0
   ·subst h0;have:l=[]:=anr kW;subst this;exact .lst0 _ _ _
   ·-- the block
    have gx:∀(i j:Nat)(e' c':AV),(l.map f)[i]?=some e'->e'.cells[j]?=some c'->∃v,W.cell? ((a.add (i*n)).add j)=some v/\Rep (Gw W) (Sz W) eP v c':=by
     intro i j e' c' he hc';rw[apv,apt]at he;obtain⟨a',ha,rfl⟩:=he;obtain⟨_,cs',h2,h3⟩:=hq i a' ha;obtain⟨_,h4,h5⟩:=World.cells?_some h2;have hj:j<n:=by rw[<- iV a'];exact(anz.1 hc').1
     have h6:=h5 j hj;rw[aps oz]at h6;exact⟨_,h6,h3.2.2 j _ c' (aps oz) hc'⟩
    obtain⟨a0,DP⟩:∃a0,l[0]?=some a0:=⟨l[0]'oz,aps oz⟩
    obtain⟨c0,uU⟩:∃c0,(f a0).cells[0]?=some c0:=⟨(f a0).cells[0]'(by rw[iV];omega),aps (by rw[iV];omega)⟩
    obtain⟨v0,pc,_⟩:=gx 0 0 _ _ (by rw[apv,DP];rfl) uU;have e0:(a.add (0*n)).add 0=a:=by simp[Addr.add]
    rw[e0]at pc;obtain⟨b,off,rfl⟩:=VG pc;obtain⟨c,t',fr,hb,_⟩:=MF pc;have Sa:(l.map f).length=len:=by rw[apr,kW]
    have jd:∀(i j:Nat)(e' c':AV),(l.map f)[i]?=some e'->e'.cells[j]?=some c'->∃v,c[off+i*n+j]?=some v/\Rep (Gw W) (Sz W) eP v c':=by
     intro i j e' c' he hc';obtain⟨v,hv,hr⟩:=gx i j e' c' he hc';rw[mX,mX]at hv;obtain⟨c2,t2,FK,bF,jA⟩:=MF hv;rw[hb]at bF;cases bF;exact⟨v,jA,hr⟩
    have := Rep.lst (g := Gw W) (S := Sz W) (m := eP) (b := b) (off := off) (cap := cap) (sz := n) (es := l.map f) (cs := c) (fun i j => c.getD (off + i * n + j) undef) (Uq hb) oz (by rw [Sa]; exact hcm)
     (fun i e' he=>by
      rw[apv,apt]at he;obtain⟨a',_,rfl⟩:=he;exact iV a')
     (fun i j e' c' he hc'=>by
      rw[apv,apt]at he;obtain⟨a',ha,rfl⟩:=he;obtain⟨_,cs',_,h3⟩:=hq i a' ha;exact h3.2.1 j c' hc')
     (fun i j e' c' he hc'=>by
      obtain⟨v,hv,_⟩:=jd i j e' c' he hc';rw[ap1,hv];rfl)
     (fun i j e' c' he hc'=>by
      obtain⟨v,hv,hr⟩:=jd i j e' c' he hc';rw[ap1,hv];exact hr)
    rwa [Sa]at this
theorem Tj{t:ari}{fs:Array Field}{α:Type}{g:α->List AV}{q:α->Prop}{v:arh}{d:DataW H}{ps:List MemPlace}{sp:Nat->Bool}{b0:Nat}(ht:P.underlying t=some (.struct fs))
  (ho:e8 P W enc t (fun a=>.agg (g a)) q) (ic:Value.okWide P W .any b0 t v) (hd:DataW.Trod enc P W 0 sp true t v d ps) (er:∀n∈d.weights P t,n<=reachBytes):∃a,q a/\Rep (Gw W) (Sz W) eP v (.agg (g a)):=by
 unfold Value.okWide at ic;rw[ht]at ic;obtain⟨cs,rfl,_,_⟩:=ic;obtain⟨fuel,hf⟩:=hd;obtain⟨a,ha,hc⟩:=ho _ _ _ _ hf er;exact⟨a,ha,.agg (by have:=hc.1;simpa[Value.cells,AV.cells]using this) (fun j c h=>hc.2.1 j c h) (fun j u c hu h=>hc.2.2 j u c (by simpa[Value.cells]using hu) h)⟩
theorem Ye{t:ari}{α:Type}{f:α->AV}{q:α->Prop}{v:arh}{d:DataW H}{ps:List MemPlace}{sp:Nat->Bool}(ho:e8 P W enc t f q)(h1:∀a,(f a).cells=[f a])(hv:v.cells=#[v])
  (hd:DataW.Trod enc P W 0 sp true t v d ps) (er:∀n∈d.weights P t,n<=reachBytes):∃a,q a/\Rep (Gw W) (Sz W) eP v (f a):=by
 obtain⟨fuel,hf⟩:=hd;rw[hv]at hf;obtain⟨a,ha,hc⟩:=ho _ _ _ _ hf er;rw[h1]at hc;exact⟨a,ha,hc.2.2 0 v _ rfl rfl⟩
theorem kK.calls{f:FuncId}{args:List AV}{b:Bool}(h:kK P f args (.v (.bool b))){vs:Array arh}(hn:vs.size=args.length)
  (hr:∀(j:Nat) v x,vs[j]?=some v->args[j]?=some x->Rep (Gw W) (Sz W) eP v x) :
  Calls P f vs W fun e W'=>e=.returned (.bool b)/\RowKit.Below W.heap.size W W':=by
 have h0:=h.ret Kx eP W vs (fun b h=>h.elim) ⟨fun k x h=>by(cases h),fun k k' x x' b h=>by(cases h),fun k x b h=>by(cases h)⟩ hn hr;refine h0.mono (fun e W' ⟨v,m',he,hf,_,_,_,hv⟩=>?_);cases hv;refine⟨he,hf.os,hf.tape,hf.output,hf.size,fun k hk=>hf.keep k hk ?_⟩;rintro⟨k',x,h9,_⟩;cases h9
open Go.ChangeShapes in
theorem Yf{f:Func}{s:ChangeSpec}{apart fresh handsOn again:Bool}{W':ark}{args:Array arh}{v:arh}{ds gs:List (DataW H)}{before:List MemPlace}
  (hW:DataW.Whole enc P f.params.toList s.vars apart W args.toList ds gs before) (dW:s.vars=[]) (hgs:gs=[])
  (mo:∀(b:Nat)(sp:Nat->Bool)(hd:Bool),DataW.TrodAll enc P W' b sp hd f.resultTypes.toList (v.resultList f.resultTypes.size) (s.fn H (ds++gs)).results [])
  (ta:∀sp:Nat->Bool,(∀p∈before,sp p.block=true)->DataW.TrodAll enc P W' 0 sp true f.params.toList args.toList (s.fn H (ds++gs)).args before)
  (pc:(s.fn H (ds++gs)).vars=[]) (hb:RowKit.Below W.heap.size W W')
  (cT:∀(j:Nat)(t:ari)(r:arh),f.resultTypes[j]?=some t->(v.resultList f.resultTypes.size)[j]?=some r->Value.okWide P W' .any 0 t r) :
  s.post enc P f apart fresh handsOn again W args v W':=by
 have hlt:=fun p hp=>hW.lt p hp
 have IJ:∀p∈before,(fun b=>decide (b<W.heap.size)) p.block=true:=fun p hp=>by simpa using hlt p hp
 have Sb:∀sp:Nat->Bool,DataW.TrodVars enc P W' sp s.vars (s.fn H (ds++gs)).vars []:=fun sp=>by rw[dW,pc];rfl
 refine⟨ds,gs,before,[],before,[],hW,mo _ _ _,ta _ IJ,Sb _,World.keptBut_mono (fun p hp=>⟨hp,Or.inr (by simpa using hp)⟩) (hb.frame (· ∈ before)),fun _=>?_⟩;obtain⟨_,_,_,_,_,hz,hn⟩:=hW;refine⟨cT,_,_,([]++before)++[],⟨[]++before,[],trodAll_append (ta _ (fun _ _=>rfl)) (mo _ _ _),Sb _,rfl,?_,?_⟩,?_⟩
 ·intro b off hp;have hp':MemPlace.cell b off ∈ before:=by simpa using hp
  rw[hb.frozen (hlt _ hp')];exact hz b off hp'
 ·intro ha;simpa using hn ha
 ·intro p hp _;simpa using hp
end
theorem pR{l:List Nat}{i x:Nat}(h:i<l.length):val ((l.set i x).take (i+1))=val (l.take i)+4294967296^i*x:=by
 rw[Mn (x:=x) (by simp[h]),List.take_set_of_le (apu _)]
theorem jH{l:List Nat}{i x:Nat}(h:Ws l)(hx:x<4294967296):Ws (l.set i x):=by
 intro y hy;rcases ank hy with h1 |h1
 ·exact h y h1
 ·omega
theorem p7(n:Nat):Ws (ana n 0):=fun x hx=>by rw[(an5.1 hx).2];omega
theorem Aa:Ws []:=fun _ h=>nomatch h
theorem jN{l:List Nat}(h:Ws l)(n:Nat):Ws (l.take n):=fun x hx=>h x (aqw hx)
theorem yI{x:Nat}(h:x<4294967296):Ws [x]:=fun y hy=>by rw[am8.1 hy];exact h
structure Wh where
  neg:Bool
  mag:List Nat
namespace Wh
def valid(w:Wh):Bool:=if w.mag=[]then !w.neg else w.mag.getLast? != some 0
def m(w:Wh):List Nat:=if w.valid then w.mag else[]
def n(w:Wh):Bool:=w.valid&&w.neg
def z(w:Wh):Int:=if w.n then -(val w.m:Int)else val w.m
def av(w:Wh):AV:=.agg [bl w.neg,ws w.mag]
def ok(w:Wh):Prop:=Ws w.mag/\w.mag.length<=bf
end Wh
def sgn(b:Bool)(n:Nat):Int:=if b then -(n:Int)else n
def ofInt(z:Int):Wh:=⟨decide (z<0),ofNat z.natAbs⟩
def zA(z:Int):AV:=(ofInt z).av
theorem Wh.nz(w:Wh):Nz w.m:=by
 unfold Wh.m Wh.valid;intro x hx
 by_cases h:w.mag=[]
 ·rw[h]at hx;split at hx <;> simp at hx
 ·rw[aq6 h]at hx;split at hx
  ·next h'=>rw[hx]at h';simpa using h'
  ·simp at hx
theorem Wh.ws{w:Wh}(h:w.ok):Ws w.m:=by
 unfold Wh.m;split
 ·exact h.1
 ·exact Aa
theorem Wh.m_le{w:Wh}:w.m.length<=w.mag.length:=by
 unfold Wh.m;split <;> simp
theorem Wh.ofNat_m{w:Wh}(h:w.ok):ofNat (val w.m)=w.m:=vG (Wh.ws h) w.nz
theorem Wh.n_val{w:Wh}(hn:w.n=true):val w.m≠0:=by
 have h1:w.m≠[]:=by
  intro h0;unfold Wh.n at hn;rw[apw]at hn;unfold Wh.m at h0;rw[aq7 hn.1]at h0;have:=hn.1;unfold Wh.valid at this;rw[aq7 h0,hn.2]at this;cases this
 have:=tD w.nz h1;omega
theorem Wh.n_eq{w:Wh}:w.n=decide (w.z<0):=by
 unfold Wh.z;cases h:w.n with
 |true=>have:=Wh.n_val h;simp;omega
 |false=>simp
theorem Wh.abs{w:Wh}:w.z.natAbs=val w.m:=by
 unfold Wh.z;split <;> omega
theorem Wh.z_eq{w:Wh}:w.z=sgn w.n (val w.m):=rfl
theorem Ld(z:Int):(ofInt z).valid=true:=by
 unfold ofInt Wh.valid;dsimp only;split
 ·next h =>
  have h1:=db z.natAbs;rw[h]at h1;have:z=0:=by simp[val]at h1;omega
  subst this;rfl
 ·next h =>
  have:=wz z.natAbs;cases hl:(ofNat z.natAbs).getLast? with
  |none=>rfl
  |some x=>have:=this x hl;simp[this]
theorem XV(z:Int):(ofInt z).m=ofNat z.natAbs:=by unfold Wh.m;rw[aq7 (Ld z)];rfl
theorem Xv(z:Int):(ofInt z).n=decide (z<0):=by unfold Wh.n;rw[Ld z];rfl
theorem fC(z:Int):(ofInt z).z=z:=by
 unfold Wh.z;rw[Xv,XV,db];split
 ·next h=>simp at h;omega
 ·next h=>simp at h;omega
def Lz(k:Nat)(z:Int):Prop:=z.natAbs<4294967296^k
theorem Lz.len{k:Nat}{z:Int}(h:Lz k z):(ofNat z.natAbs).length<=k:=iF h
theorem Wh.lz{w:Wh}(h:w.ok):Lz w.mag.length w.z:=by
 unfold Lz;rw[Wh.abs];have h1:=cU w.m (Wh.ws h);exact aqd h1 (amk oz Wh.m_le)
theorem Lz.mono{k l:Nat}{z:Int}(h:Lz k z)(hk:k<=l):Lz l z:=aqd h (amk oz hk)
theorem Lz.add{k l:Nat}{x y:Int}(h:Lz k x)(h':Lz l y):Lz (max k l+1) (x+y):=by
 have h1:=h.mono (Nat.le_max_left k l);have h2:=h'.mono (Nat.le_max_right k l);unfold Lz at *;rw[amp];have:=Int.natAbs_add_le x y;omega
theorem Lz.neg{k:Nat}{x:Int}(h:Lz k x):Lz k (-x):=by unfold Lz at *;omega
theorem Lz.sub{k l:Nat}{x y:Int}(h:Lz k x)(h':Lz l y):Lz (max k l+1) (x-y):=Int.sub_eq_add_neg▸h.add h'.neg
theorem Lz.mul{k l:Nat}{x y:Int}(h:Lz k x)(h':Lz l y):Lz (k+l) (x*y):=by
 unfold Lz at *;rw[an9,aqs];exact amh h h'
theorem Lz.of_le{k:Nat}{x y:Int}(h:Lz k x)(h':y.natAbs<=x.natAbs):Lz k y:=aqj h' h
theorem zB{a b:List Nat}(ha:Ws a)(hb:Nz b)(h:a.length<b.length):val a<val b:=by
 have h1:=cU a ha;have mr:b≠[]:=by intro h0;rw[h0]at h;simp at h
 have h2:∃c x,b=c++[x]:=⟨b.dropLast,b.getLast mr,(anc mr).symm⟩
 obtain⟨c,x,rfl⟩:=h2;have hx:x≠0:=hb x (by simp);rw[vO];simp at h;have h3:4294967296^a.length<=4294967296^c.length:=amk oz oz;have h4:4294967296^c.length*1<=4294967296^c.length*val [x]:=ap0 _ (by simp[val];omega);omega
theorem Ni{a b:List Nat}{i:Nat}(ha:Ws a)(hx:ak a i<ak b i):val (a.take (i+1))<val (b.take (i+1)):=by
 rw[eV,eV];have h1:=cU (a.take i) (jN ha i);have h2:4294967296^(a.take i).length<=4294967296^i:=amk oz (by simp;omega);have h3:4294967296^i*(ak a i+1)<=4294967296^i*ak b i:=ap0 _ hx;rw[ame,Nat.mul_one]at h3;omega
theorem Ad(l:List Nat)(i:Nat):val l=val (l.take i)+4294967296^(min i l.length)*val (l.drop i):=by
 conv=>lhs;rw[<- ann i l]
 rw[vO,ap7]
theorem NZ{a b:List Nat}{i:Nat}(ha:Ws a)(hl:a.length=b.length)(hi:i<a.length)(he:a.drop (i+1)=b.drop (i+1))(hx:ak a i<ak b i):val a<val b:=by
 rw[Ad a (i+1),Ad b (i+1),he,hl];have:=Ni ha hx;omega
theorem GN{o c P x y u w:Nat}(h:o+c*P=x+y) :
  (o+P*((c+(u+w))%4294967296))+((c+(u+w))/4294967296)*(P*4294967296)=(x+P*u)+(y+P*w):=by
 have:=amy (c+(u+w)) 4294967296;generalize(c+(u+w))%4294967296=r at *;generalize(c+(u+w))/4294967296=q at *;grind
theorem LU{a b out:List Nat}{c n:Nat}(ha:Ws a)(hb:Ws b)(hn:n=max a.length b.length+1)(ho:out.length=n)
  (h:val (out.take n)+c*4294967296^n=val (a.take n)+val (b.take n)):val out=val a+val b:=by
 rw[gS oz,gS oz,gS oz]at h;have h1:=cU a ha;have h2:=cU b hb;have h3:4294967296^a.length<=4294967296^max a.length b.length:=amk oz oz;have h4:4294967296^b.length<=4294967296^max a.length b.length:=amk oz oz;subst hn;rw[amp]at h;cases c with
 |zero=>omega
 |succ c =>
  rw[am5]at h;omega
theorem Mj{o c P x y u w:Nat}(hu:u<4294967296)(hw:w<4294967296)(hc:c<=1)(h:o+y=x+c*P) :
  let d:=if w+c<=u then u-w-c else u+18446744073709551616-w-c
  (o+P*(d%4294967296))+(y+P*w)=(x+P*u)+(d/2^63)*(P*4294967296):=by
 intro d
 have h0:d%4294967296+w+c=u+(d/2^63)*4294967296:=by
  show d%4294967296+w+c=_
  by_cases h1:w+c<=u
  ·rw[show d=u-w-c from aq7 h1];omega
  ·rw[show d=u+18446744073709551616-w-c from aq6 h1];omega
 generalize d/2^63=q at *;generalize d%4294967296=r at *;grind
theorem ais{a b out:List Nat}{c:Nat}(ha:Ws out)(ho:out.length=a.length)(cG:val b<=val a)(eY:b.length<=a.length)
  (h:val (out.take a.length)+val (b.take a.length)=val (a.take a.length)+c*4294967296^a.length):val out=val a-val b:=by
 rw[gS oz,gS oz,gS oz]at h;have h1:=cU out ha;rw[ho]at h1;cases c with
 |zero=>omega
 |succ c=>rw[am5]at h;omega
theorem zJ{x y:Nat}(hx:x<18446744073709551616)(hy:y<18446744073709551616):tO .or .u64 (x:Int) (y:Int)=((x ||| y:Nat):Int):=by
 show IntKind.u64.wrap (((BitVec.ofInt 64 (x:Int)) ||| (BitVec.ofInt 64 (y:Int))).toNat:Int)=_;simp only[BitVec.toNat_or,BitVec.ofInt_natCast,BitVec.toNat_ofNat];rw[al8 oz,al8 oz];exact u64_in (Nat.or_lt_two_pow (n:=64) hx hy)
theorem F0{x y:Nat}(hx:x<4294967296)(hy:y<4294967296):tO .or .u32 (x:Int) (y:Int)=((x ||| y:Nat):Int):=by
 show IntKind.u32.wrap (((BitVec.ofInt 32 (x:Int)) ||| (BitVec.ofInt 32 (y:Int))).toNat:Int)=_;simp only[BitVec.toNat_or,BitVec.ofInt_natCast,BitVec.toNat_ofNat];rw[al8 oz,al8 oz];exact u32_in (Nat.or_lt_two_pow (n:=32) hx hy)
theorem KT{x y:Nat}(hx:x<4294967296)(hy:y<4294967296):tO .and .u32 (x:Int) (y:Int)=((x &&& y:Nat):Int):=by
 show IntKind.u32.wrap (((BitVec.ofInt 32 (x:Int)) &&& (BitVec.ofInt 32 (y:Int))).toNat:Int)=_;simp only[BitVec.toNat_and,BitVec.ofInt_natCast,BitVec.toNat_ofNat];rw[al8 oz,al8 oz];exact u32_in (aqj Nat.and_le_left hx)
theorem zK{q y n:Nat}(hy:y<2^n):q*2^n ||| y=q*2^n+y:=by
 rw[alx,Nat.two_pow_add_eq_or_of_lt hy]
theorem Ho{q y n:Nat}(hy:y<2^n):y ||| q*2^n=y+q*2^n:=by
 rw[Nat.or_comm,zK hy,ama]
theorem v7{x n:Nat}(hn:n<=64)(h:x*2^n<18446744073709551616):IntKind.u64.wrap ((x:Int)*2^(min (n:Int).toNat IntKind.u64.bits))=((x*2^n:Nat):Int):=by
 have:min (n:Int).toNat IntKind.u64.bits=n:=by simp[IntKind.bits];omega
 rw[this,show(x:Int)*2^n=((x*2^n:Nat):Int) by simp,u64_in h]
theorem MU{x n:Nat}(hn:n<=32):IntKind.u32.wrap ((x:Int)*2^(min (n:Int).toNat IntKind.u32.bits))=((x*2^n%4294967296:Nat):Int):=by
 have:min (n:Int).toNat IntKind.u32.bits=n:=by simp[IntKind.bits];omega
 rw[this,show(x:Int)*2^n=((x*2^n:Nat):Int) by simp,fm]
theorem u9(x n:Nat)(hn:n<=32):(x:Int).fdiv (2^(min (n:Int).toNat IntKind.u32.bits))=((x/2^n:Nat):Int):=by
 have:min (n:Int).toNat IntKind.u32.bits=n:=by simp[IntKind.bits];omega
 rw[this,aoc _ (Int.le_of_lt (Int.pow_pos (by decide)))];simp
theorem Pm{x y:Nat}(hx:x<18446744073709551616):IntKind.u64.wrap ((x:Int).tdiv y)=((x/y:Nat):Int):=by
 rw[<- Int.ofNat_tdiv,u64_in (aqj (amc _ _) hx)]
theorem Q2{x y:Nat}:(x:Int).tmod y=((x%y:Nat):Int):=(Int.ofNat_tmod _ _).symm
theorem EK:∀{l:List Nat}{i x:Nat},i<l.length->val (l.set i x)+4294967296^i*ak l i=val l+4294967296^i*x
 |a::l,0,x,_=>by simp[val,ak];omega
 |a::l,i+1,x,h=>by
  have ih:=EK (l:=l) (i:=i) (x:=x) (by simpa using h);simp only[List.set_cons_succ,val];have hw:ak (a::l) (i+1)=ak l i:=by simp[ak]
  rw[hw,amp];grind
theorem N8{l:List Nat}{i n x:Nat}(h:i<l.length)(hn:i<n):val ((l.set i x).take n)+4294967296^i*ak l i=val (l.take n)+4294967296^i*x:=by
 rw[List.take_set];have h1:ak (l.take n) i=ak l i:=by simp[ak,hn]
 rw[<- h1];exact EK (by simp;omega)
theorem Lo{o o' c V P u y w S:Nat}(ho:o'+P*w=o+P*(S%4294967296))(hS:S=c+(u*y+w))(h:o+c*P=V) :
  o'+(S/4294967296)*(P*4294967296)=V+P*(u*y):=by
 have:=amy S 4294967296;generalize S%4294967296=r at *;generalize S/4294967296=q at *;subst hS;grind
theorem Bk{x y:Nat}(hx:x<4294967296)(hy:y<4294967296):x*y<=18446744065119617025:=by
 have:=alz (show x<=4294967295 by omega) (show y<=4294967295 by omega);omega
theorem aj1{l:List Nat}{i:Nat}(h:i<l.length):l.drop i=ak l i::l.drop (i+1):=by
 rw[ani h];congr 1;have:=mC h;rw[aps h]at this;exact Option.some.inj this
theorem vQ{l:List Nat}{i:Nat}(h:i<l.length):val (l.drop i)=ak l i+4294967296*val (l.drop (i+1)):=by
 rw[aj1 h];rfl
theorem Ra{l:List Nat}{i x:Nat}(h:i<l.length):val ((l.set i x).drop i)=x+4294967296*val (l.drop (i+1)):=by
 rw[vQ (by simpa using h)];have h1:ak (l.set i x) i=x:=by simp[ak,h]
 have h2:(l.set i x).drop (i+1)=l.drop (i+1):=by rw[List.drop_set_of_lt oz]
 rw[h1,h2]
theorem aD.own1{s:AS}{k d sz off len:Nat}{es es':List AV}(h:lk s.hp k=some (.row sz es))(hd:aly d 1000=true)(he:es=es') :
  aD s (fD [.ms k sz off len]) (.ms d sz off len) [(d,some (.row sz es'))]:=by
 subst he;rw[al5]at hd;intro ext m w v hh hext hx
 have eW:∀(k':Nat)(z:Blk),lk [(d,some (Blk.row sz es))] k'=some z->k'=d/\z=.row sz es:=by
  intro k' z hz;rw[a5]at hz;split at hz
  ·rename_i h1;cases hz;exact⟨h1,rfl⟩
  ·cases hz
 have eM:=ia (ext:=ext) (Frame.refl (bh s.hp m) w) (hp':=[(d,some (.row sz es))]) (m':=fun x=>if x=d then m k else none) (by
  intro k' z b hz hb;obtain⟨rfl,rfl⟩:=eW k' z hz;have hb':(if k'=k' then m k else none)=some b:=hb;rw[aq7 rfl]at hb';exact .inl ⟨k,_,h,hb'⟩)
 refine⟨fun x=>if x=d then m k else none,⟨?_,?_,?_⟩,?_,?_,?_⟩
 ·intro k' z hz;obtain⟨rfl,rfl⟩:=eW k' z hz;rw[aq7 rfl];have h1:BlkRep (Im ext s.hp m w) (Sz w) m w (m k) (.row sz es):=hh.blk k _ h
  revert h1
  generalize ii:m k=o
  suffices h2:∀o,BlkRep (Im ext s.hp m w) (Sz w) m w o (.row sz es)->BlkRep (Im ext [(k',some (.row sz es))] (fun x=>if x=k' then m k else none) w) (Sz w) (fun x=>if x=k' then m k else none) w o (.row sz es) by
   rw[ii]at h2;exact h2 o
  clear ii o;intro o h1;cases h1 with
  |none=>exact .none _
  |row hw hn hl hs h1 hr=>exact .row hw hn hl hs h1 (fun i j e u x he hx hu=>(hr i j e u x he hx hu).mono eM (fun _ _ h=>h) (fun _ _ _ h=>h))
 ·intro k1 k2 z z' b h1 h2 _ _;rw[(eW _ _ h1).1,(eW _ _ h2).1]
 ·intro k' z b hz hb;obtain⟨rfl,rfl⟩:=eW k' z hz;have hb':(if k'=k' then m k else none)=some b:=hb;rw[aq7 rfl]at hb';exact hh.sep k _ b h hb'
 ·intro k' z b hz hb;obtain⟨rfl,rfl⟩:=eW k' z hz;have hb':(if k'=k' then m k else none)=some b:=hb;rw[aq7 rfl]at hb';exact⟨k,_,h,hb'⟩
 ·intro k' z hk hz;obtain⟨rfl,rfl⟩:=eW k' z hz;omega
 ·cases hx with
  |ms0 a=>exact .ms0 a _ _ _
  |ms hm hc hS=>exact .ms (by simp;exact hm) hc hS
theorem bX{k:Nat}{x:Option Blk}{z:Blk}(h:lk [(1000,x)] k=some z):1000<=k:=by
 rw[a5]at h;split at h
 ·omega
 ·cases h
end Go.Lw
