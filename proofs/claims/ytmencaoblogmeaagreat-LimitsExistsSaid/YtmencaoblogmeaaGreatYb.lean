/- LimitsExists: for any linkage and any turn the law returns true and leaves its arguments as they were. No other condition. Part 2 of 8: what the later parts need -/
import Derived.Test.YtmencaoblogmeaaGreatYa
import Derived.KernelRfl
import Derived.Laws.StructEq
import Derived.Test.YtmencaoblogmeaaGreatProg
import Derived.Eval
import Derived.RangeFuncIn
import Derived.Carry
import Derived.ChangeArms
import Derived.DataReads
import Derived.ChangeShapes
import Derived.RowKit
import Derived.ProofKit
import Derived.OpenShut
import Derived.Handed
import Derived.SizedLaws
set_option linter.unusedVariables false
open List (all_cons nil_append drop_drop)
open List renaming mem_of_getElem? → ah3, mem_cons_of_mem → ait, mem_append → aia, map_cons → ajd, mem_cons → aiq, length_cons → aij, mem_cons_self → ai2, length_append → ai0, length_nil → aiv, getD_eq_getElem?_getD → ah4, getElem?_append_left → ais, getElem?_eq_none → aig, all_eq_true → aif, getElem?_take → ai1, getElem?_drop → ai5, getElem?_map → aib, append_assoc → ajc, getElem?_append_right → ain, getElem?_eq_getElem → ah9, drop_eq_nil_of_le → aiy, map_append → ai4, length_take → air, take_of_length_le → aio, drop_zero → ai9, take_length → ail, not_mem_nil → aim, length_map → ah6, getElem?_toArray → afg, mem_iff_getElem → afh, getLast?_cons_cons → afi, append_nil → afj, drop_eq_getElem_cons → afk, getElem?_eq_some_iff → afl, mem_singleton → afr, take_append_drop → afs, replicate → afv, mem_map → af0, eq_nil_of_length_eq_zero → af2, dropLast_concat_getLast → af5, mem_or_eq_of_mem_set → af6, getElem_mem → agb, mem_of_mem_take → agi, cons_append → agj, size_toArray → agl
open Nat renaming eq_of_beq_eq_true → ah5, le_refl → aie, lt_of_lt_of_le → aip, lt_or_ge → aid, le_trans → aiw, mul_le_mul_right → aik, mul_le_mul_left → aih, zero_le → aii, pow_add → ai8, lt_of_le_of_lt → aiz, blt_eq → ad5, ble_eq_true_of_le → aec, beq_refl → aee, mod_lt → aeg, div_add_mod → aeh, succ_mul → aei, blt → aek, add_assoc → aeo, pow_mul → aep, add_comm → aeq, ne_of_beq_eq_false → aes, mul_le_mul → aeu, mul_lt_mul'' → aew, div_lt_iff_lt_mul → aex, mul_comm → aey, add_mul → aez, ble_eq → ae0, eq_zero_or_pos → ae1, add_zero → ae4, pow_succ → ae5, pow_le_pow_right → ae6, mod_eq_of_lt → ae7, zero_add → ae9, mul_add → afa, min_eq_left → afc, div_le_self → afd, beq → afe
open Option renaming map_eq_some_iff → ah8, map_some → ah1
open Bool renaming and_eq_true → ah7, or_eq_true → ajb, false_and → ahe, false_eq_true → ahi
open Array renaming getD_eq_getD_getElem? → aic, getElem?_push → ahk, toList_inj → ahl, getElem?_eq_getElem → ahm, getElem?_append → aho, size_append → ahs, length_toList → ahv, getElem?_extract → ahy, getElem?_toList → ahz
open Int renaming toNat_natCast → ai6, natAbs_mul → agr, fdiv_eq_ediv_of_nonneg → agy
open Go renaming Operand → ajp, Value → ajq, TypeId → ajr, Program → ajs, World → ajt
open Go.Result renaming andThen_ok → aju
open Go.Sem renaming run_bind → ajv, run_pure → ajw
open Go.Proofs.Tryz
namespace Go.Lw
variable{P:ajs}{N:Nat}{s:AS}
theorem Sub.refl(x:AV):Sub x x:=fun _ _ _ _ h=>h
inductive SlW(sl:bn):bn->Prop
  |nil:SlW sl []
  |cons {t:Nat} {x y:AV} {l:bn} (h:lk sl t=some y) (hs:Sub y x) (hl:SlW sl l):SlW sl ((t,some x)::l)
theorem SlW.get{sl l:bn}(h:SlW sl l){t:Nat}{x:AV}(hx:lk l t=some x):∃y,lk sl t=some y/\Sub y x:=by
 induction h with
 |nil=>cases hx
 | @cons t' x' y l h1 h2 _ ih =>
  rw[aA]at hx;split at hx
  ·cases hx;subst_vars;exact⟨y,h1,h2⟩
  ·exact ih hx
theorem SlW.same{sl l:bn}{t:Nat}{x:AV}(h:lk sl t=some x)(hl:SlW sl l):SlW sl ((t,some x)::l):=.cons h (.refl x) hl
def iW(e e':AV):Prop:=e.cells.length=e'.cells.length/\∀(j:Nat)(x y:AV),e.cells[j]?=some x->e'.cells[j]?=some y->y.one=true/\Sub x y
inductive BlkSub:Blk->Blk->Prop
  |refl (x:Blk):BlkSub x x
  |row {sz:Nat} {es es':List AV} (hn:es.length=es'.length) (h:∀(i:Nat)(e e':AV),es[i]?=some e->es'[i]?=some e'->iW e e'):BlkSub (.row sz es) (.row sz es')
  |box {cs cs':List AV} (hn:cs.length=cs'.length) (h1:∀(j:Nat)(x:AV),cs'[j]?=some x->x.one=true)
      (h:∀(j:Nat)(x y:AV),cs[j]?=some x->cs'[j]?=some y->Sub x y):BlkSub (.box cs) (.box cs')
  |vecRow {vs:List ajq} (hl:vs.length<=az):BlkSub (.vec vs) (.row 1 (vs.map .v))
inductive HpW(hp:Hp):Hp->Prop
  |nil:HpW hp []
  |cons {k:Nat} {x y:Blk} {l:Hp} (h:lk hp k=some y) (hs:BlkSub y x) (hl:HpW hp l):HpW hp ((k,some x)::l)
theorem HpW.k{hp l:Hp}{k:Nat}{x:Blk}(hl:HpW hp l)(h:lk hp k=some x:=by exact rfl):HpW hp ((k,some x)::l):=.cons h (.refl x) hl
theorem HpW.same{hp l:Hp}{k:Nat}{x:Blk}(h:lk hp k=some x)(hl:HpW hp l):HpW hp ((k,some x)::l):=.cons h (.refl x) hl
theorem HpW.get{hp l:Hp}(h:HpW hp l){k:Nat}{x:Blk}(hx:lk l k=some x):∃y,lk hp k=some y/\BlkSub y x:=by
 induction h with
 |nil=>cases hx
 | @cons t' x' y l h1 h2 _ ih =>
  rw[aA]at hx;split at hx
  ·cases hx;subst_vars;exact⟨y,h1,h2⟩
  ·exact ih hx
theorem jJ{α β:Type}{l:List α}{l':List β}(hn:l.length=l'.length){j:Nat}{x:α}(hx:l[j]?=some x):∃y,l'[j]?=some y:=by
 have hj:j<l.length:=by
  rcases aid j l.length with h |h
  ·exact h
  ·rw[aig h]at hx;cases hx
 exact⟨_,ah9 oz⟩
theorem BlkSub.rep{g:Nat->Array ajq->Prop}{S:Nat->Nat->Prop}{m:Nat->Option Nat}{w:ajt}{o:Option Nat}{x y:Blk}(h:BlkSub x y)(hr:BlkRep g S m w o x):BlkRep g S m w o y:=by
 cases h with
 |refl=>exact hr
 | @row sz es es' hn h =>
  cases hr with
  |none =>
   have:es'=[]:=af2 hn.symm;subst this;exact .none _
  |row hw hn' hl hs h1 aS =>
   refine .row hw (by rw[<- hn];exact hn') oz ?_ ?_ ?_
   ·intro i e' he';obtain⟨e,he⟩:=jJ hn.symm he';rw[<- (h i e e' he he').1];exact hs i e he
   ·intro i j e' x' he' hx';obtain⟨e,he⟩:=jJ hn.symm he';obtain⟨x,hx⟩:=jJ (h i e e' he he').1.symm hx';exact((h i e e' he he').2 j x x' hx hx').1
   ·intro i j e' u x' he' hx' hu;obtain⟨e,he⟩:=jJ hn.symm he';obtain⟨x,hx⟩:=jJ (h i e e' he he').1.symm hx';exact((h i e e' he he').2 j x x' hx hx').2 _ _ _ _ (aS i j e u x he hx hu)
 |box hn h1 h =>
  cases hr with
  |box hw hn' h1' aS =>
   refine .box hw oz h1 (fun j u y hu hy=>?_);obtain⟨z,hz⟩:=jJ hn.symm hy;exact h j z y hz hy _ _ _ _ (aS j u z hu hz)
 | @vecRow vs hl =>
  cases hr with
  | @vec _ _ c t hw hc h1 =>
   have fI:c.size=vs.length:=by rw[<- hc];simp
   refine .row hw (by simp;omega) (by simpa using hl) ?_ ?_ ?_
   ·intro i e he;obtain⟨v,hv,rfl⟩:=af0.1 (ah3 he);rfl
   ·intro i j e x he hx;obtain⟨v,hv,rfl⟩:=af0.1 (ah3 he);cases j with
    |zero=>cases hx;exact h1 v hv
    |succ j=>cases hx
   ·intro i j e u x he hx hu;rw[aib,ah8]at he;obtain⟨v,hv,rfl⟩:=he;cases j with
    |zero =>
     cases hx;have:c[i]?=some v:=by rw[<- ahz,hc];exact hv
     have hu':c[i]?=some u:=by simpa using hu
     rw[this]at hu';cases hu';exact .v _
    |succ j=>cases hx
theorem RelM.weak{C:Ctx}{m:Nat->Option Nat}{a:Act}{w:ajt}(h:RelM C s m a w){s':AS}(h1:∀t x,s'.get t=some x->∃y,s.get t=some y/\Sub y x)
  (h2:∀k x,lk s'.hp k=some x->∃y,lk s.hp k=some y/\BlkSub y x):RelM C s' m a w:=by
 have hf:=Frame.refl (aO s.hp m) w
 have bg:∀k' z b,lk s'.hp k'=some z->m k'=some b->aO s.hp m b\/w.heap.size<=b:=fun k' z b hz hb=>by
  obtain⟨y,hy,_⟩:=h2 k' z hz;exact .inl ⟨k',y,hy,hb⟩
 have hu:=h.update hf (hp':=s'.hp) (fun _ _ _ _ _ _ hb=>hb) bg (fun k' z _ hz=>by obtain⟨y,hy,_⟩:=h2 k' z hz;exact⟨⟨y,hy⟩,rfl⟩) ⟨?_,?_,?_⟩
 ·refine⟨?_,hu.heap,hu.frame,hu.new,hu.keep,hu.defers,hu.nt⟩;intro t x hx;obtain⟨y,hy,hs⟩:=h1 t x hx;obtain⟨g1,g2⟩:=hu.slots t y hy;exact⟨g1,hs _ _ _ _ g2⟩
 ·intro k' z hz;obtain⟨y,hy,hs⟩:=h2 k' z hz;exact hs.rep (BlkRep.mono (w:=w) (eO hf bg) hf.sz (fun _ _ _ h=>h) rfl (fun _ _=>rfl) (h.heap.blk k' y hy))
 ·intro k1 k2 z1 z2 b g1 g2;obtain⟨y1,rT,_⟩:=h2 k1 z1 g1;obtain⟨y2,oi,_⟩:=h2 k2 z2 g2;exact h.heap.inj k1 k2 y1 y2 b rT oi
 ·intro k' z b hz hb;obtain⟨y,hy,_⟩:=h2 k' z hz;exact h.heap.sep k' y b hy hb
theorem Wk.of{sl:bn}{hp:Hp}(h1:SlW s.sl sl)(h2:HpW s.hp hp):Wk s ⟨sl,hp⟩ :=
 fun C m a w hr=>⟨m,hr.weak (fun t x hx=>h1.get hx) (fun k x hx=>h2.get hx)⟩
mutual
def AV.fz(k sz:Nat)(es:List AV):AV->AV
  | .ms k' sz' off len=>match afe k' k&&afe sz' sz&&Nat.ble (off+len) es.length with
    |true=>.lst sz ((es.drop off).take len)
    |false=>.ms k' sz' off len
  | .agg cs=>.agg (AV.fzs k sz es cs)
  | .tup cs=>.tup (AV.fzs k sz es cs)
  | .fn f cs=>.fn f (AV.fzs k sz es cs)
  | .opt b x=>.opt b (AV.fz k sz es x)
  | .v x=>.v x
  | .lst sz l=>.lst sz l
  | .iptr l=>.iptr l
  | .ptr k off=>.ptr k off
  | .eptr k sz i off=>.eptr k sz i off
  | .yl k=>.yl k
  | .cl f cs ds=>.cl f cs ds
def AV.fzs(k sz:Nat)(es:List AV):List AV->List AV
  |[]=>[]
  |x::l=>AV.fz k sz es x::AV.fzs k sz es l
end
theorem AV.fzs_eq(k sz:Nat)(es:List AV):∀l,AV.fzs k sz es l=l.map (AV.fz k sz es)
 |[]=>rfl
 |x::l=>by simp only[AV.fzs,ajd,AV.fzs_eq k sz es l]
theorem AV.fz_one(k sz:Nat)(es:List AV)(x:AV)(h:x.one=true):(x.fz k sz es).one=true:=by
 cases x <;> simp only[AV.fz] <;> first |exact h |(split <;> rfl)
theorem uZ{g:Nat->Array ajq->Prop}{S:Nat->Nat->Prop}{k sz:Nat}{es:List AV}{m:Nat->Option Nat}{v:ajq}{x:AV}(h:Rep g S m v x)
  (hb:∀b,m k=some b->∃c:Array ajq,g b c/\es.length*sz<=c.size/\es.length<=az/\(∀(i:Nat)(e:AV),es[i]?=some e->e.cells.length=sz) /\
   (∀(i j:Nat)(e x:AV),es[i]?=some e->e.cells[j]?=some x->x.one=true) /\
   ∀(i j:Nat)(e:AV)(u:ajq)(x:AV),es[i]?=some e->e.cells[j]?=some x->c[i*sz+j]?=some u->Rep g S cO u x):Rep g S m v (x.fz k sz es):=by
 induction h with
 |v x=>exact .v x
 |lst0 a cap sz'=>exact .lst0 a cap sz'
 |lst u hb' hc hl hs h1 hu hr _=>exact .lst u hb' hc hl hs h1 hu hr
 |iptr u hb' h1 hu hr _=>exact .iptr u hb' h1 hu hr
 |ptr h=>exact .ptr h
 |eptr h=>exact .eptr h
 |yl h=>exact .yl h
 |opt h h' ih=>exact .opt (fun mY=>ih mY hb) h'
 |agg hn h1 hr ih =>
  simp only[AV.fz,AV.fzs_eq];refine .agg (by simpa using hn) ?_ ?_
  ·intro j c hc;simp only[aib,ah8]at hc;obtain⟨y,hy,rfl⟩:=hc;exact AV.fz_one _ _ _ _ (h1 j y hy)
  ·intro j u c hu hc;simp only[aib,ah8]at hc;obtain⟨y,hy,rfl⟩:=hc;exact ih j u y hu hy hb
 |tup hn hr ih =>
  simp only[AV.fz,AV.fzs_eq];refine .tup (by simpa using hn) ?_;intro j u c hu hc;simp only[aib,ah8]at hc;obtain⟨y,hy,rfl⟩:=hc;exact ih j u y hu hy hb
 |fn hn hr ih =>
  simp only[AV.fz,AV.fzs_eq];refine .fn (by simpa using hn) ?_;intro j u c hu hc;simp only[aib,ah8]at hc;obtain⟨y,hy,rfl⟩:=hc;exact ih j u y hu hy hb
 |cl hn hr hn' hr' _ _=>exact .cl hn hr hn' hr'
 |ms0 a k' sz' off =>
  simp only[AV.fz];split
  ·simp;exact .lst0 _ _ _
  ·exact .ms0 _ _ _ _
 | @ms mm k' sz' off len cap b hm hc hS =>
  simp only[AV.fz];split
  ·rename_i O7;simp only [ah7,ae0] at O7;obtain ⟨⟨h1,h2⟩,h3⟩:=O7;obtain rfl:=ah5 h1;obtain rfl:=ah5 h2;obtain ⟨c,F8,aN,gP,hs,ho,hr⟩:=hb b hm;have ch:((es.drop off).take len).length = len:=by simp; omega
   have cE:∀(i:Nat)(e:AV),((es.drop off).take len)[i]?=some e->es[off+i]?=some e:=by
    intro i e he;rw[ai1]at he;split at he
    ·rwa [ai5]at he
    ·cases he
   have ff:∀(i j:Nat)(e x:AV),es[i]?=some e->e.cells[j]?=some x->∃u,c[i*sz'+j]?=some u:=by
    intro i j e x he hx
    have hi:i<es.length:=by
     rcases aid i es.length with h |h
     ·exact h
     ·rw[aig h]at he;cases he
    have hj:j<e.cells.length:=by
     rcases aid j e.cells.length with h |h
     ·exact h
     ·rw[aig h]at hx;cases hx
    rw[hs i e he]at hj;have:=my (sz:=sz') hi;exact⟨_,ahm oz⟩
   have:=Rep.lst (g:=g) (S:=S) (m:=mm) (b:=b) (off:=off*sz') (cap:=cap) (sz:=sz') (es:=(es.drop off).take len) (cs:=c)
    (fun i j=>c.getD ((off+i)*sz'+j) undef) F8 oz oz (fun i e he=>hs _ e (cE i e he)) (fun i j e x he hx=>ho _ j e x (cE i e he) hx)
    (fun i j e x he hx=>by
     obtain⟨u,hu⟩:=ff _ j e x (cE i e he) hx;rw[aic,hu,<- aez,hu];rfl)
    (fun i j e x he hx=>by
     obtain⟨u,hu⟩:=ff _ j e x (cE i e he) hx;rw[aic,hu];exact hr _ j e u x (cE i e he) hx hu)
   rwa [ch]at this
  ·exact .ms hm hc hS
def je(f:AV->AV):bn->bn
  |[]=>[]
  |(t,x)::l=>(t,match x with |some x=>some (f x) |none=>none)::je f l
theorem ry(f:AV->AV):∀(l:bn)(t:Nat),lk (je f l) t=(lk l t).map f
 |[],t=>rfl
 |(t',x)::l,t=>by
  simp only[je,aA,ry f l t];split
  ·cases x <;> rfl
  ·rfl
def Blk.map(f:AV->AV):Blk->Blk
  | .box cs=>.box (cs.map f)
  | .row sz es=>.row sz es
  | .loop d st pe sl=>.loop d st pe (je f sl)
  | .vec vs=>.vec vs
theorem BlkRep.mapLoop{g g':Nat->Array ajq->Prop}{S S':Nat->Nat->Prop}{m m':Nat->Option Nat}{w:ajt}{o:Option Nat}{d:LpD}{st:LoopState}{pe:Option Code}{sl:bn}(f:AV->AV)
  (h:BlkRep g S m w o (.loop d st pe sl)) (hf:∀t x v,lk sl t=some x->Rep g S m v x->Rep g' S' m' v (f x)):BlkRep g' S' m' w o (.loop d st pe (je f sl)):=by
 cases h with
 |loop h h1 h2 h3 h4 h5 hn hr =>
  refine .loop h h1 h2 h3 h4 h5 hn (fun t x hx=>?_);rw[ry,ah8]at hx;obtain⟨y,hy,rfl⟩:=hx;exact⟨(hr t y hy).1,hf t y _ hy (hr t y hy).2⟩
def fu(f:AV->AV)(k:Nat):Hp->Hp
  |[]=>[]
  |(k',x)::l=>(k',match afe k' k with |true=>none |false=>match x with |some x=>some (x.map f) |none=>none)::fu f k l
theorem mn(f:AV->AV)(k:Nat):∀(l:Hp)(t:Nat),lk (fu f k l) t=if t=k then none else(lk l t).map (Blk.map f)
 |[],t=>by simp[fu,lk]
 |(k',x)::l,t=>by
  simp only[fu,aA,mn f k l t]
  by_cases h1:t=k'
  ·subst h1;rw[ajg rfl,ajg rfl];cases hb:afe t k with
   |true=>rw[ajg (ah5 hb)]
   |false=>rw[ajf (aes hb)];cases x <;> rfl
  ·rw[ajf h1,ajf h1]
theorem Wk.freeze{k sz:Nat}{es:List AV}(hk:s.blk k=some (.row sz es)):Wk s ⟨je (AV.fz k sz es) s.sl,fu (AV.fz k sz es) k s.hp⟩:=by
 intro C m a w hr;refine⟨m,?_⟩
 have rU:∀k' z,lk ((k,none)::s.hp) k'=some z->lk s.hp k'=some z:=by
  intro k' z hz;rw[aA]at hz;split at hz
  ·cases hz
  ·exact hz
 have aQ:=hr.fewer rU
 have hb:∀b,m k=some b->∃c:Array ajq,Im C.ext ((k,none)::s.hp) m w b c/\es.length*sz<=c.size/\es.length<=az/\(∀(i:Nat)(e:AV),es[i]?=some e->e.cells.length=sz) /\
   (∀(i j:Nat)(e x:AV),es[i]?=some e->e.cells[j]?=some x->x.one=true) /\
   ∀(i j:Nat)(e:AV)(u:ajq)(x:AV),es[i]?=some e->e.cells[j]?=some x->c[i*sz+j]?=some u->Rep (Im C.ext ((k,none)::s.hp) m w) (Sz w) cO u x:=by
  intro b hm;obtain⟨c,t,hw,hn,hl,hs,ho,aS⟩:=tc hr.heap hk hm;have cF:=eO (ext:=C.ext) (Frame.refl (aO s.hp m) w) (hp':=(k,none)::s.hp) (m':=m) (fun k' z b' hz hb'=>.inl ⟨k',z,rU k' z hz,hb'⟩);refine⟨c,⟨(hr.heap.sep k _ b hk hm).1,?_,t,(0,0),hw⟩,hn,hl,hs,ho,fun i j e u x he hx hu=>(aS i j e u x he hx hu).mono cF (fun _ _ h=>h) (fun _ _ _ h=>h)⟩;rintro⟨k',z,hz,hb'⟩;have:=hr.heap.inj k k' _ z b hk (rU k' z hz) hm hb';subst this;rw[aA,ajg rfl]at hz;cases hz
 have cZ:∀k' z,lk (fu (AV.fz k sz es) k s.hp) k'=some z->∃y,lk ((k,none)::s.hp) k'=some y/\z=y.map (AV.fz k sz es):=by
  intro k' z hz;rw[mn]at hz;split at hz
  ·cases hz
  ·rename_i aF;simp only[ah8]at hz;obtain⟨y,hy,rfl⟩:=hz;exact⟨y,by rw[aA,ajf aF];exact hy,rfl⟩
 have rP:∀k' y,lk ((k,none)::s.hp) k'=some y->lk (fu (AV.fz k sz es) k s.hp) k'=some (y.map (AV.fz k sz es)):=by
  intro k' y hy;rw[aA]at hy;split at hy
  ·cases hy
  ·rename_i aF;rw[mn,ajf aF,hy];rfl
 have e1:aO (fu (AV.fz k sz es) k s.hp) m=aO ((k,none)::s.hp) m:=by
  funext b;apply propext;constructor
  ·rintro⟨k',z,hz,hb⟩;obtain⟨y,hy,_⟩:=cZ k' z hz;exact⟨k',y,hy,hb⟩
  ·rintro⟨k',y,hy,hb⟩;exact⟨k',_,rP k' y hy,hb⟩
 have e2:Im C.ext (fu (AV.fz k sz es) k s.hp) m w=Im C.ext ((k,none)::s.hp) m w:=by funext b cs;simp only[Im,e1]
 refine⟨?_,⟨?_,?_,?_⟩,aQ.frame,?_,?_,aQ.defers,aQ.nt⟩
 ·intro t x hx;simp only[AS.get,ry,ah8]at hx;obtain⟨y,hy,rfl⟩:=hx;obtain⟨g1,g2⟩:=aQ.slots t y hy;refine⟨g1,?_⟩;show Rep (Im C.ext (fu (AV.fz k sz es) k s.hp) m w) _ _ _ _;rw[e2];exact uZ g2 hb
 ·intro k' z hz;obtain⟨y,hy,rfl⟩:=cZ k' z hz;rw[e2];have:=aQ.heap.blk k' y hy;cases y with
  |row sz' es'=>exact this
  |vec vs =>
   simp only[Blk.map];generalize m k'=o at this;cases this with
   |vec hw hc h1=>exact .vec hw hc h1
  |loop=>exact this.mapLoop _ (fun _ _ _ _ h=>uZ h hb)
  |box cs =>
   simp only[Blk.map];generalize m k'=o at this;cases this with
   |box hw hn h1 aS =>
    refine .box hw (by simpa using hn) ?_ ?_
    ·intro j x hx;simp only[aib,ah8]at hx;obtain⟨y,hy,rfl⟩:=hx;exact AV.fz_one _ _ _ _ (h1 j y hy)
    ·intro j u x hu hx;simp only[aib,ah8]at hx;obtain⟨y,hy,rfl⟩:=hx;exact uZ (aS j u y hu hy) hb
 ·intro k1 k2 z1 z2 b g1 g2;obtain⟨y1,rT,_⟩:=cZ k1 z1 g1;obtain⟨y2,oi,_⟩:=cZ k2 z2 g2;exact aQ.heap.inj k1 k2 y1 y2 b rT oi
 ·intro k' z b hz hb;obtain⟨y,hy,_⟩:=cZ k' z hz;exact aQ.heap.sep k' y b hy hb
 ·intro k' z b hz hb;obtain⟨y,hy,_⟩:=cZ k' z hz;exact aQ.new k' y b hy hb
 ·intro k' z od hz;obtain⟨y,hy,_⟩:=cZ k' z hz;exact aQ.keep k' y od hy
mutual
def AV.rn(k d:Nat):AV->AV
  | .ms k' sz off len=>match afe k' k with
    |true=>.ms d sz off len
    |false=>.ms k' sz off len
  | .ptr k' off=>match afe k' k with
    |true=>.ptr d off
    |false=>.ptr k' off
  | .eptr k' sz i off=>match afe k' k with
    |true=>.eptr d sz i off
    |false=>.eptr k' sz i off
  | .agg cs=>.agg (AV.rns k d cs)
  | .tup cs=>.tup (AV.rns k d cs)
  | .fn f cs=>.fn f (AV.rns k d cs)
  | .opt b x=>.opt b (AV.rn k d x)
  | .yl k'=>match afe k' k with
    |true=>.yl d
    |false=>.yl k'
  | .cl f cs ds=>.cl f cs ds
  | .v x=>.v x
  | .lst sz l=>.lst sz l
  | .iptr l=>.iptr l
def AV.rns(k d:Nat):List AV->List AV
  |[]=>[]
  |x::l=>AV.rn k d x::AV.rns k d l
end
theorem AV.rns_eq(k d:Nat):∀l,AV.rns k d l=l.map (AV.rn k d)
 |[]=>rfl
 |x::l=>by simp only[AV.rns,ajd,AV.rns_eq k d l]
theorem AV.rn_one(k d:Nat)(x:AV)(h:x.one=true):(x.rn k d).one=true:=by
 cases x <;> simp only[AV.rn] <;> first |exact h |(split <;> rfl)
theorem Tb{g:Nat->Array ajq->Prop}{S:Nat->Nat->Prop}{k d:Nat}{m m':Nat->Option Nat}{v:ajq}{x:AV}(h:Rep g S m v x)(hd:¬x.Names d)
  (h1:m' d=m k) (h2:∀k',k'≠d->m' k'=m k'):Rep g S m' v (x.rn k d):=by
 induction h with
 |v x=>exact .v x
 |lst0 a cap sz'=>exact .lst0 a cap sz'
 |lst u hb hc hl hs ho hu hr _=>exact .lst u hb hc hl hs ho hu hr
 |iptr u hb ho hu hr _=>exact .iptr u hb ho hu hr
 | @ptr _ k' off b hm =>
  simp only[AV.rn];split
  ·rename_i hk;obtain rfl:=ah5 hk;exact .ptr (h1.trans hm)
  ·exact .ptr ((h2 _ (fun e=>hd (e▸.ptr _ _))).trans hm)
 | @eptr _ k' sz i off b hm =>
  simp only[AV.rn];split
  ·rename_i hk;obtain rfl:=ah5 hk;exact .eptr (h1.trans hm)
  ·exact .eptr ((h2 _ (fun e=>hd (e▸.eptr _ _ _ _))).trans hm)
 |ms0 a k' sz' off =>
  simp only[AV.rn];split <;> exact .ms0 _ _ _ _
 |cl hn hr hn' hr' _ _=>exact .cl hn hr hn' hr'
 | @yl _ k' b hm =>
  simp only[AV.rn];split
  ·rename_i hk;obtain rfl:=ah5 hk;exact .yl (h1.trans hm)
  ·exact .yl ((h2 _ (fun e=>hd (e▸.yl _))).trans hm)
 | @ms _ k' sz' off len cap b hm hc hS =>
  simp only[AV.rn];split
  ·rename_i hk;obtain rfl:=ah5 hk;exact .ms (h1.trans hm) hc hS
  ·exact .ms ((h2 _ (fun e=>hd (e▸.ms _ _ _ _))).trans hm) hc hS
 |opt h h' ih=>exact .opt (fun hb=>ih hb (fun hn=>hd (.opt hn)) h1 h2) h'
 |agg hn h1' hr ih =>
  simp only[AV.rn,AV.rns_eq];refine .agg (by simpa using hn) ?_ ?_
  ·intro j c hc;simp only[aib,ah8]at hc;obtain⟨y,hy,rfl⟩:=hc;exact AV.rn_one _ _ _ (h1' j y hy)
  ·intro j u c hu hc;simp only[aib,ah8]at hc;obtain⟨y,hy,rfl⟩:=hc;exact ih j u y hu hy (fun hn=>hd (.agg (ah3 hy) hn)) h1 h2
 |tup hn hr ih =>
  simp only[AV.rn,AV.rns_eq];refine .tup (by simpa using hn) ?_;intro j u c hu hc;simp only[aib,ah8]at hc;obtain⟨y,hy,rfl⟩:=hc;exact ih j u y hu hy (fun hn=>hd (.tup (ah3 hy) hn)) h1 h2
 |fn hn hr ih =>
  simp only[AV.rn,AV.rns_eq];refine .fn (by simpa using hn) ?_;intro j u c hu hc;simp only[aib,ah8]at hc;obtain⟨y,hy,rfl⟩:=hc;exact ih j u y hu hy (fun hn=>hd (.fn (ah3 hy) hn)) h1 h2
def nZ(k d:Nat)(y:Blk)(hp:Hp):Hp:=(d,some (y.map (AV.rn k d)))::fu (AV.rn k d) k hp
theorem qY{k d:Nat}{y:Blk}{hp:Hp}{k':Nat}{z:Blk}(h:lk (nZ k d y hp) k'=some z) :
  ∃y',lk ((d,some y)::(k,none)::hp) k'=some y'/\z=y'.map (AV.rn k d):=by
 unfold nZ at h;rw[aA]at h ⊢;split at h
 ·rename_i he;rw[ajg he];cases h;exact⟨y,rfl,rfl⟩
 ·rename_i he;rw[ajf he,aA];rw[mn]at h;split at h
  ·cases h
  ·rename_i hk;rw[ajf hk];simp only[ah8]at h;obtain⟨y',hy',rfl⟩:=h;exact⟨y',hy',rfl⟩
theorem Wk.rk{k d:Nat}{y:Blk}(hk:s.blk k=some y)(hd:s.freshB d=true):Wk s ⟨je (AV.rn k d) s.sl,nZ k d y s.hp⟩:=by
 intro C m a w hr;have hfr:=AS.fresh_of hd;have aQ:=hr.rk hk hfr;refine⟨fun k'=>if k'=d then m k else m k',?_⟩
 have rP:∀k' y',lk ((d,some y)::(k,none)::s.hp) k'=some y'->lk (nZ k d y s.hp) k'=some (y'.map (AV.rn k d)):=by
  intro k' y' h;unfold nZ;rw[aA]at h ⊢;split at h
  ·rename_i he;rw[ajg he];cases h;rfl
  ·rename_i he;rw[ajf he,mn];rw[aA]at h;split at h
   ·cases h
   ·rename_i hk';rw[ajf hk',h];rfl
 have e1:aO (nZ k d y s.hp) (fun k'=>if k'=d then m k else m k')=aO ((d,some y)::(k,none)::s.hp) (fun k'=>if k'=d then m k else m k'):=by
  funext b;apply propext;constructor
  ·rintro⟨k',z,hz,hb⟩;obtain⟨y',hy',_⟩:=qY hz;exact⟨k',y',hy',hb⟩
  ·rintro⟨k',y',hy',hb⟩;exact⟨k',_,rP k' y' hy',hb⟩
 have e2:Im C.ext (nZ k d y s.hp) (fun k'=>if k'=d then m k else m k') w=Im C.ext ((d,some y)::(k,none)::s.hp) (fun k'=>if k'=d then m k else m k') w:=by
  funext b cs;simp only[Im,e1]
 have cF:=eO (ext:=C.ext) (Frame.refl (aO s.hp m) w) (hp':=(d,some y)::(k,none)::s.hp) (m':=fun k'=>if k'=d then m k else m k') (by
  intro k' z b hz hb;rw[aA]at hz;split at hz
  ·rename_i he;rw[ajg he]at hb;exact .inl ⟨k,y,hk,hb⟩
  ·rename_i he;rw[ajf he]at hb
   rw[aA]at hz;split at hz
   ·cases hz
   ·exact .inl ⟨k',z,hz,hb⟩)
 have F9:∀v x,¬AV.Names x d->Rep (Im C.ext s.hp m w) (Sz w) m v x->Rep (Im C.ext ((d,some y)::(k,none)::s.hp) (fun k'=>if k'=d then m k else m k') w) (Sz w) (fun k'=>if k'=d then m k else m k') v (x.rn k d):=by
  intro v x hx h;exact Tb (h.mono cF (fun _ _ h=>h) (fun _ _ _ h=>h)) hx (ajg rfl) (fun k' aF=>ajf aF)
 refine⟨?_,⟨?_,?_,?_⟩,aQ.frame,?_,?_,aQ.defers,aQ.nt⟩
 ·intro t x hx;simp only[AS.get,ry,ah8]at hx;obtain⟨z,hz,rfl⟩:=hx;obtain⟨g1,g2⟩:=hr.slots t z hz;refine⟨g1,?_⟩;show Rep (Im C.ext (nZ k d y s.hp) _ w) _ _ _ _;rw[e2];exact F9 _ _ (hfr.2.2.1 t z hz) g2
 ·intro k' z hz;obtain⟨y',hy',rfl⟩:=qY hz;rw[e2]
  have Ga:∃k0,lk s.hp k0=some y'/\(if k'=d then m k else m k')=m k0:=by
   rw[aA]at hy';split at hy'
   ·rename_i he;cases hy';exact⟨k,hk,ajg he⟩
   ·rename_i he;rw[aA]at hy';split at hy'
    ·cases hy'
    ·exact⟨k',hy',ajf he⟩
  obtain⟨k0,xz,hm0⟩:=Ga;rw[hm0];have hb:=hr.heap.blk k0 y' xz;have b7:=hfr.2.2.2 k0 y' xz;cases y' with
  |row sz es=>exact BlkRep.mono (w:=w) cF (fun _ _ h=>h) (fun _ _ h=>h.elim) rfl (fun _ _=>rfl) hb
  |vec vs=>exact BlkRep.mono (w:=w) cF (fun _ _ h=>h) (fun _ _ h=>h.elim) rfl (fun _ _=>rfl) hb
  |loop=>exact hb.mapLoop _ (fun t x v hx h=>F9 v x (fun hn=>b7 ⟨t,x,oQ hx,hn⟩) h)
  |box cs =>
   simp only[Blk.map];generalize m k0=o at hb;cases hb with
   |box hw hn h1 aS =>
    refine .box hw (by simpa using hn) ?_ ?_
    ·intro j x hx;simp only[aib,ah8]at hx;obtain⟨z,hz,rfl⟩:=hx;exact AV.rn_one _ _ _ (h1 j z hz)
    ·intro j u x hu hx;simp only[aib,ah8]at hx;obtain⟨z,hz,rfl⟩:=hx;exact F9 u z (fun hn=>b7 ⟨z,ah3 hz,hn⟩) (aS j u z hu hz)
 ·intro k1 k2 z1 z2 b g1 g2;obtain⟨y1,rT,_⟩:=qY g1;obtain⟨y2,oi,_⟩:=qY g2;exact aQ.heap.inj k1 k2 y1 y2 b rT oi
 ·intro k' z b hz hb;obtain⟨y',hy',_⟩:=qY hz;exact aQ.heap.sep k' y' b hy' hb
 ·intro k' z b hz hb;obtain⟨y',hy',_⟩:=qY hz;exact aQ.new k' y' b hy' hb
 ·intro k' z od hz;obtain⟨y',hy',_⟩:=qY hz;exact aQ.keep k' y' od hy'
theorem Wk.virt(d sz:Nat)(hd:s.freshB d=true):Wk s ⟨s.sl,(d,some (.row sz []))::s.hp⟩ :=
 fun C m a w hr=>⟨_,hr.virt sz (AS.fresh_of hd)⟩
theorem Sub.nM(a:Option Addr)(d sz:Nat):Sub (.v (.slice a 0 0)) (.ms d sz 0 0):=fun g S m v h=>by cases h;exact .ms0 _ _ _ _
theorem Sub.trans{x y z:AV}(h:Sub x y)(h':Sub y z):Sub x z:=fun g S m v hr=>h' g S m v (h g S m v hr)
theorem aJ.keep{x:AV}{H':Hp}(h:∀k z,lk H' k=some z->lk s.hp k=some z):aJ s x x H':=by
 intro ext m w v hh hext hx;have cF:=eO (ext:=ext) (Frame.refl (aO s.hp m) w) (hp':=H') (m':=m) (fun k' z b hz hb=>.inl ⟨k',z,h k' z hz,hb⟩);refine⟨m,⟨?_,?_,?_⟩,fun k z b hz hb=>⟨k,z,h k z hz,hb⟩,fun k z _ hz=>⟨⟨z,h k z hz⟩,rfl⟩,hx.mono cF (fun _ _ h=>h) (fun _ _ _ h=>h)⟩
 ·intro k z hz;exact BlkRep.mono (w:=w) cF (fun _ _ h=>h) (fun _ _ _ h=>h) rfl (fun _ _=>rfl) (hh.blk k z (h k z hz))
 ·intro k k' z z' b h1 h2;exact hh.inj k k' z z' b (h _ _ h1) (h _ _ h2)
 ·intro k z b hz hb;exact hh.sep k z b (h k z hz) hb
theorem aJ.sub{x r r':AV}{H':Hp}(h:aJ s x r H')(hs:Sub r r'):aJ s x r' H':=by
 intro ext m w v hh hext hx;obtain⟨m',h1,h2,h3,h4⟩:=h ext m w v hh hext hx;exact⟨m',h1,h2,h3,hs _ _ _ _ h4⟩
theorem aJ.pure{x:AV}:aJ s x x []:=.keep (fun k z h=>by cases h)
end Go.Lw
namespace Go.Lw
abbrev B:Nat:=4294967296
def val:List Nat->Nat
  |[]=>0
  |x::l=>x+4294967296*val l
def Ws(l:List Nat):Prop:=∀x∈l,x<4294967296
def jR:Nat->Nat->List Nat
  |0,_=>[]
  |f+1,n=>match n with
    |0=>[]
    |n+1=>((n+1)%4294967296)::jR f ((n+1)/4294967296)
def ofNat(n:Nat):List Nat:=jR (n.log2/32+1) n
def Nz(l:List Nat):Prop:=∀x,l.getLast?=some x->x≠0
theorem uk(a b:List Nat):val (a++b)=val a+4294967296^a.length*val b:=by
 induction a with
 |nil=>simp[val]
 |cons x a ih=>simp only[agj,val,ih,aij,ae5];grind
theorem bG(l:List Nat)(h:Ws l):val l<4294967296^l.length:=by
 induction l with
 |nil=>simp[val]
 |cons x l ih =>
  have h1:=h x (by simp);have h2:=ih (fun y hy=>h y (by simp[hy]));simp only[val,aij,ae5];omega
theorem zy(n:Nat):val (afv n 0)=0:=by
 induction n with
 |zero=>rfl
 |succ n ih=>simp[List.replicate_succ,val,ih]
theorem ZR(f:Nat):jR f 0=[]:=by cases f <;> rfl
theorem C4(f n:Nat)(h:n≠0):jR (f+1) n=(n%4294967296)::jR f (n/4294967296):=by
 cases n with
 |zero=>exact ajm rfl h
 |succ n=>rfl
theorem MM:∀(f n:Nat),n<4294967296^f->val (jR f n)=n:=by
 intro f
 induction f with
 |zero=>intro n h;simp at h;subst h;rfl
 |succ f ih =>
  intro n h
  by_cases h0:n=0
  ·subst h0;rfl
  ·rw[C4 f n h0];simp only[val];rw[ih _ (by rw[ae5]at h;exact Nat.div_lt_of_lt_mul (by rw[aey];exact h))];omega
theorem Wz:∀(f n:Nat),Ws (jR f n):=by
 intro f
 induction f with
 |zero=>intro n x h;simp[jR]at h
 |succ f ih =>
  intro n
  by_cases h0:n=0
  ·subst h0;intro x h;simp[jR]at h
  ·rw[C4 f n h0];intro x h;rcases aiq.1 h with rfl |h
   ·omega
   ·exact ih _ x h
theorem UW:∀(f n:Nat),n<4294967296^f->Nz (jR f n):=by
 intro f
 induction f with
 |zero=>intro n h x hx;simp[jR]at hx
 |succ f ih =>
  intro n h
  by_cases h0:n=0
  ·subst h0;intro x hx;simp[jR]at hx
  ·rw [C4 f n h0];have hd:n / 4294967296 < 4294967296 ^ f:=by rw [ae5] at h; exact Nat.div_lt_of_lt_mul (by rw [aey]; exact h)
   intro x hx
   by_cases h1:n/4294967296=0
   ·rw[h1,ZR]at hx;simp at hx;omega
   ·have h2:=ih _ hd x;cases hq:jR f (n/4294967296)with
    |nil =>
     have:=MM f _ hd;rw[hq]at this;simp[val]at this;omega
    |cons y ys =>
     rw[hq]at hx h2;rw[afi]at hx;exact h2 hx
theorem Kz(n:Nat):n<4294967296^(n.log2/32+1):=by
 have h1:n<2^(n.log2+1):=Nat.lt_log2_self;have h2:(4294967296:Nat)=2^32:=by decide
 rw[h2,<- aep];exact aip h1 (ae6 (by decide) oz)
theorem bN(n:Nat):val (ofNat n)=n:=MM _ _ (Kz n)
theorem cT(n:Nat):Ws (ofNat n):=Wz _ _
theorem uq(n:Nat):Nz (ofNat n):=UW _ _ (Kz n)
theorem zR{x:Nat}{l:List Nat}(h:Nz (x::l)):Nz l:=by
 intro y hy;cases l with
 |nil=>simp at hy
 |cons z l=>exact h y (by rw[afi];exact hy)
theorem Yf:∀(a b:List Nat),Ws a->Ws b->Nz a->Nz b->val a=val b->a=b:=by
 have key:∀(l:List Nat),Nz l->val l=0->l=[]:=by
  intro l
  induction l with
  |nil=>intro _ _;rfl
  |cons x l ih =>
   intro hn hv;simp only[val]at hv;have:=ih (zR hn) oz;subst this;exact ajm (by omega:x=0) (hn x rfl)
 intro a
 induction a with
 |nil=>intro b _ _ _ hb hv;exact(key b hb hv.symm).symm
 |cons x a ih =>
  intro b ha hb Bc rO hv;cases b with
  |nil=>exact key _ Bc hv
  |cons y b =>
   have h1:=ha x (by simp);have h2:=hb y (by simp);simp only[val]at hv;have:=ih b (fun z hz=>ha z (by simp[hz])) (fun z hz=>hb z (by simp[hz])) (zR Bc) (zR rO) oz;subst this;rw[show x=y by omega]
theorem ss{l:List Nat}(h:Ws l)(hn:Nz l):ofNat (val l)=l :=
 Yf _ _ (cT _) h (uq _) hn (bN _)
theorem H7{l:List Nat}{n:Nat}(h:Ws l)(hn:Nz l)(hv:val l=n):l=ofNat n:=by subst hv;exact(ss h hn).symm
theorem QH:ofNat 0=[]:=rfl
theorem qC{l:List Nat}(hn:Nz l)(h:l≠[]):0<val l:=by
 rcases ae1 (val l)with h0 |h0
 ·exfalso
  induction l with
  |nil=>exact h rfl
  |cons x l ih =>
   simp only[val]at h0
   by_cases hl:l=[]
   ·subst hl;exact hn x rfl oz
   ·exact ih (zR hn) hl oz
 ·exact h0
theorem fi{n k:Nat}(h:n<4294967296^k):(ofNat n).length<=k:=by
 have hv:=bN n;rcases aid k (ofNat n).length with hlt |hge
 ·exfalso;have aF:ofNat n ≠ []:=by intro e; rw [e] at hlt; simp at hlt
  have ol:ofNat n=(ofNat n).dropLast++[(ofNat n).getLast aF]:=(af5 aF).symm;have Be:(ofNat n).getLast aF≠0:=uq n _ (List.getLast?_eq_some_getLast aF)
  have ji:val (ofNat n)=val (ofNat n).dropLast+4294967296^(ofNat n).dropLast.length*(ofNat n).getLast aF:=by
   conv=>lhs;rw[ol]
   rw[uk];simp[val]
  have ch:(ofNat n).dropLast.length=(ofNat n).length-1:=List.length_dropLast;have h1:4294967296^k<=4294967296^(ofNat n).dropLast.length:=ae6 (by decide) oz;have h2:4294967296^(ofNat n).dropLast.length*1<=4294967296^(ofNat n).dropLast.length*(ofNat n).getLast aF:=aih _ oz;omega
 ·exact hge
theorem HE{l:List Nat}{i x:Nat}(h:l[i]?=some x):val (l.take (i+1))=val (l.take i)+4294967296^i*x:=by
 have hi:i<l.length:=by
  rcases aid i l.length with h' |h'
  ·exact h'
  ·rw[aig h']at h;cases h
 rw[List.take_add_one,h,uk];simp[val,air];rw[afc oz]
theorem eM{l:List Nat}{i:Nat}(h:l.length<=i):val (l.take i)=val l:=by rw[aio h]
variable{P:ajs}{N:Nat}{R:Array Oper}{s:AS}{pos:String}{after:Array Edge}
def EU(s:AS)(u:Out):Bool:=u.upd.all fun p=>u.rd.contains p.1||s.freshB p.1
theorem vW{u:Out}(h:EU s u=true):jz s u:=by
 intro k hk;obtain⟨p,hp,rfl⟩:=af0.1 hk;have:=aif.1 h p hp;simp only[ajb]at this;rcases this with h |h
 ·exact .inl (by simpa using h)
 ·exact .inr (AS.fresh_of h)
theorem aav{f:FuncId}{fn:Func}{c:Code}{rs:List ResultVar}{args:List AV}{r:AV}(hf:P.funcs[f]?=some fn)(hb:fn.body=some c)
  (hn : (fn.name == "runtime.NumGoroutine") = false) (hrs : fn.results = rs.toArray) (hN : fn.ntmps = N)
  (h:bb P N c (nY P rs r []) ⟨nT 0 args,[]⟩):jF P f args r :=
 CS hf hb hn hrs hN (fun k z h=>by cases h) h
theorem N3{x r:AV}(h:x=r):aJ s (dD [x]) r []:=h▸aJ.pure
theorem lP{x r:AV}(h:Sub x r):aJ s (dD [x]) r []:=aJ.pure.sub h
theorem Rr{x y r:AV}(h:AV.tup [x,y]=r):aJ s (dD [x,y]) r []:=h▸aJ.pure
theorem wm{x y z r:AV}(h:AV.tup [x,y,z]=r):aJ s (dD [x,y,z]) r []:=h▸aJ.pure
theorem gE{x r:AV}(h:Sub x r):aJ s x r []:=aJ.pure.sub h
theorem fd{d:Nat}{x y:ajp}{k k':IntKind}{a b c:Int}{S T t:ajr}
  (hx:Ev s x (.v (.int k a))) (hy:Ev s y (.v (.int k' b))) (hb:0<=b) (hc:a.fdiv (2^(min b.toNat k.bits))=c) (hN:aek d N=true) :
  Step P N R s ⟨some d,.binOp .shr S x y T,t,pos,after,none⟩ ⟨some (.v (.int k c)),[],ai x++ai y,[]⟩:=hc▸Nc hx hy hb hN
theorem mD{d:Nat}{x y:ajp}{k k':IntKind}{a b c:Int}{S T t:ajr}
  (hx:Ev s x (.v (.int k a))) (hy:Ev s y (.v (.int k' b))) (hb:0<=b) (hc:k.wrap (a*2^(min b.toNat k.bits))=c) (hN:aek d N=true) :
  Step P N R s ⟨some d,.binOp .shl S x y T,t,pos,after,none⟩ ⟨some (.v (.int k c)),[],ai x++ai y,[]⟩:=hc▸Ow hx hy hb hN
theorem lG{d:Nat}{x y:ajp}{k:IntKind}{a b c:Int}{S T t:ajr}
  (hx:Ev s x (.v (.int k a))) (hy:Ev s y (.v (.int k b))) (hb:b≠0) (hc:k.wrap (a.tdiv b)=c) (hN:aek d N=true) :
  Step P N R s ⟨some d,.binOp .quo S x y T,t,pos,after,none⟩ ⟨some (.v (.int k c)),[],ai x++ai y,[]⟩:=hc▸JN hx hy hb hN
theorem yr{d:Nat}{x y:ajp}{k:IntKind}{a b c:Int}{S T t:ajr}
  (hx:Ev s x (.v (.int k a))) (hy:Ev s y (.v (.int k b))) (hb:b≠0) (hc:a.tmod b=c) (hN:aek d N=true) :
  Step P N R s ⟨some d,.binOp .rem S x y T,t,pos,after,none⟩ ⟨some (.v (.int k c)),[],ai x++ai y,[]⟩:=hc▸Kd hx hy hb hN
theorem kj{d:Nat}{op:BinOp}{x y:ajp}{k:IntKind}{a b c:Int}{S T t:ajr}
  (hx:Ev s x (.v (.int k a))) (hy:Ev s y (.v (.int k b))) (el:(match op with | .and | .or | .xor | .andNot=>true |_=>false)=true) (hc:n8 op k a b=c) (hN:aek d N=true) :
  Step P N R s ⟨some d,.binOp op S x y T,t,pos,after,none⟩ ⟨some (.v (.int k c)),[],ai x++ai y,[]⟩:=hc▸Of hx hy el hN
theorem de{x y:ajp}{k sz i:Nat}{es:List AV}{e v:AV}{T t:ajr}{ti:TI}
  (hx:Ev s x (.eptr k sz i 0)) (hk:s.blk k=some (.row sz es)) (he:es[i]?=some e) (lW:e.cells.length=sz) (hy:Ev s y v) (hv:v.ok=true) (hnm:v.nm=[]) (hT:aq P T=some ti)
  (aN:afe v.cells.length ti.size=true) (hs:afe ti.size sz=true) :
  Step P N R s ⟨none,.store T x y,t,pos,after,none⟩ ⟨none,[(k,some (.row sz (es.set i v)))],ai x++ai y,[k]⟩:=by
 have h1:=ah5 aN;have h2:=ah5 hs;refine FL hx hk he hy hv hnm hT aN (by rw[ae0];omega) ?_;unfold over;rw[List.take_zero,nil_append,aiy oz,afj]
theorem Sub.int{k:IntKind}{a b:Int}(h:a=b):Sub (.v (.int k a)) (.v (.int k b)):=h▸.refl _
theorem BlkSub.of{x y:Blk}(h:x=y):BlkSub x y:=h▸.refl _
theorem Sub.of{x y:AV}(h:x=y):Sub x y:=h▸.refl _
theorem aB{α:Type}{l:List α}{i:Nat}(h:i<l.length):∃x,l[i]?=some x:=⟨_,ah9 h⟩
theorem ay{α:Type}{f:α->AV}{l:List α}{i:Nat}{x:α}(h:l[i]?=some x):(l.map f)[i]?=some (f x):=by simp[h]
theorem Wo{c:Code}{Q:Exit->AS->Prop}{t sz:Nat}{es:List AV}(ht:s.get t=some (.lst sz es))(h:es.length<=az->bb P N c Q s):bb P N c Q s:=by
 refine Vo (p:=es.length<=az) ?_ h;intro C m a w hr;obtain⟨_,h2⟩:=hr.slots t _ ht;generalize a.tmps.getD t undef=u at h2;cases h2 with
 |lst0=>exact aii _
 |lst u hb hc hl=>exact hl
theorem jE{x y:Nat}(h:x+y<18446744073709551616):IntKind.u64.wrap (fq .add (x:Int) (y:Int))=((x+y:Nat):Int):=by
 show IntKind.u64.wrap ((x:Int)+y)=_;rw[IntWalk.u64_in _ oz];simp
theorem zZ{x y:Nat}(h:x*y<18446744073709551616):IntKind.u64.wrap (fq .mul (x:Int) (y:Int))=((x*y:Nat):Int):=by
 show IntKind.u64.wrap ((x:Int)*y)=_;rw[<- Int.natCast_mul,IntWalk.u64_in _ oz]
theorem lB{x y:Nat}(hx:x<18446744073709551616)(hy:y<18446744073709551616) :
  IntKind.u64.wrap (fq .sub (x:Int) (y:Int))=((if y<=x then x-y else x+18446744073709551616-y:Nat):Int):=by
 show IntKind.u64.wrap ((x:Int)-y)=_;simp only[IntKind.wrap,IntKind.signed,IntKind.bits,ahe,if_false,ahi];split <;> omega
theorem dj(x:Nat):IntKind.u32.wrap (x:Int)=((x%4294967296:Nat):Int):=by
 simp only[IntKind.wrap,IntKind.signed,IntKind.bits,ahe,if_false,ahi];omega
theorem u64_in{x:Nat}(h:x<18446744073709551616):IntKind.u64.wrap (x:Int)=(x:Int):=IntWalk.u64_in _ oz
theorem u32_in{x:Nat}(h:x<4294967296):IntKind.u32.wrap (x:Int)=(x:Int):=IntWalk.u32_in _ oz
theorem i64_in{x:Int}(h:-9223372036854775808<=x/\x<=9223372036854775807):IntKind.i64.wrap x=x:=IntWalk.i64_in _ h
theorem ib(x n:Nat)(hn:n<=64):(x:Int).fdiv (2^(min (n:Int).toNat IntKind.u64.bits))=((x/2^n:Nat):Int):=by
 have:min (n:Int).toNat IntKind.u64.bits=n:=by simp[IntKind.bits];omega
 rw[this,agy _ (Int.le_of_lt (Int.pow_pos (by decide)))];simp
theorem gx{x:Nat}(h:0<x)(hx:x<=az):IntKind.i64.wrap (fq .sub (x:Int) 1)=((x-1:Nat):Int):=by
 show IntKind.i64.wrap ((x:Int)-1)=_;unfold az at hx;rw[IntWalk.i64_in _ oz];omega
theorem ya{x:Nat}(hx:x<=az):IntKind.i64.wrap (fq .add (x:Int) 1)=((x+1:Nat):Int):=by
 show IntKind.i64.wrap ((x:Int)+1)=_;unfold az at hx;rw[IntWalk.i64_in _ oz];omega
theorem aG{x:Nat}(hx:x<=az:=by unfold az;omega):IntKind.i64.wrap (fq .add (x:Int) 1)=((x+1:Nat):Int):=ya hx
theorem fh{x y:Nat}(hx:x<=az)(hy:y<=az):IntKind.i64.wrap (fq .add (x:Int) (y:Int))=((x+y:Nat):Int):=by
 show IntKind.i64.wrap ((x:Int)+y)=_;unfold az at hx hy;rw[IntWalk.i64_in _ oz];omega
theorem Il{x y:Nat}(h:y<=x)(hx:x<=az):IntKind.i64.wrap (fq .sub (x:Int) (y:Int))=((x-y:Nat):Int):=by
 show IntKind.i64.wrap ((x:Int)-y)=_;unfold az at hx;rw[IntWalk.i64_in _ oz];omega
abbrev aw:Nat:=1099511627776
def i64(n:Int):AV:=.v (.int .i64 n)
def u32(n:Nat):AV:=.v (.int .u32 n)
def u64(n:Nat):AV:=.v (.int .u64 n)
def bl(b:Bool):AV:=.v (.bool b)
def ws(l:List Nat):AV:=.lst 1 (l.map u32)
def aj(m:List Nat)(i:Nat):Nat:=m.getD i 0
theorem bu{m:List Nat}(h:Ws m)(i:Nat):aj m i<4294967296:=by
 unfold aj;rw[ah4];cases hi:m[i]? with
 |none=>simp
 |some x=>exact h x (ah3 hi)
theorem jX{m:List Nat}{i:Nat}(h:i<m.length):m[i]?=some (aj m i):=by
 rw[ah9 h,aj,ah4,ah9 h];rfl
theorem sR{m:List Nat}{i:Nat}(h:m.length<=i):aj m i=0:=by
 rw[aj,ah4,aig h];rfl
theorem bI{m:List Nat}{i:Nat}(h:i<m.length):(m.map u32)[i]?=some (u32 (aj m i)):=ay (jX h)
theorem cU{l:List Nat}{i:Nat}:val (l.take (i+1))=val (l.take i)+4294967296^i*aj l i:=by
 rcases aid i l.length with h |h
 ·exact HE (jX h)
 ·rw[sR h,eM h,eM oz];simp
theorem XF{c:Code}{Q:Exit->AS->Prop}{α:Type}{f:α->AV}{l:List α}{t sz:Nat}(ht:s.get t=some (.lst sz (l.map f)))(h:l.length<=az->bb P N c Q s):bb P N c Q s :=
 Wo ht (fun hl=>h (by simpa using hl))
theorem qz{k sz off len:Nat}{es:List AV}(h:off+len<=es.length):AV.fz k sz es (.ms k sz off len)=.lst sz ((es.drop off).take len):=by
 have h1:Nat.ble (off+len) es.length=true:=aec h;have h2:∀n,afe n n=true:=fun n=>aee n
 simp only[AV.fz,h1,h2,Bool.and_self]
theorem b8{k sz len:Nat}{es:List AV}(h:len=es.length):AV.fz k sz es (.ms k sz 0 len)=.lst sz es:=by
 subst h;rw[qz oz,ai9,ail]
theorem gY{m:List Nat}{i:Int}{n:Nat}(h:i=n)(hn:n<m.length):(m.map u32)[i.toNat]?=some (u32 (aj m n)):=by
 subst h;exact bI hn
theorem eT{α:Type}{f:α->AV}{l:List α}{i:Int}{n:Nat}{x:α}(h:i=n)(hx:l[n]?=some x):(l.map f)[i.toNat]?=some (f x):=by
 subst h;exact ay hx
theorem oX{d:Nat}{x ix:ajp}{kk:IntKind}{i:Int}{k sz off len n:Nat}{T E t:ajr}{ti te:TI}
  (hx:Ev s x (.ms k sz off len)) (hi:Ev s ix (.v (.int kk i))) (hT:aq P T=some ti) (hk:ti.k=.slice E) (hE:aq P E=some te) (aN:te.size=sz)
  (h0:i=(n:Int)) (he:n<len) (hN:aek d N=true) :
  Step P N R s ⟨some d,.indexAddr T x ix,t,pos,after,none⟩ ⟨some (.eptr k sz (off+n) 0),[],ai x++ai ix,[]⟩:=by
 subst h0;have:=nH (R:=R) (t:=t) (pos:=pos) (after:=after) hx hi hT hk hE aN oz oz hN
 rwa [ai6]at this
theorem Ui{a b:List Nat}{i:Nat}(ha:i<a.length)(hb:i<b.length)(h:aj a i=aj b i):a[i]=b[i]:=by
 have h1:=jX ha;have h2:=jX hb;rw[ah9 ha]at h1;rw[ah9 hb]at h2;rw[Option.some.inj h1,Option.some.inj h2,h]
theorem cP{x y:Int}(h:-9223372036854775808<=x+y/\x+y<=9223372036854775807):IntKind.i64.wrap (fq .add x y)=x+y:=i64_in h
theorem dg{x y:Int}(h:-9223372036854775808<=x-y/\x-y<=9223372036854775807):IntKind.i64.wrap (fq .sub x y)=x-y:=i64_in h
theorem Hc{x y:Int}(h:-9223372036854775808<=x*y/\x*y<=9223372036854775807):IntKind.i64.wrap (fq .mul x y)=x*y:=i64_in h
theorem bt{d:Nat}{x ix:ajp}{kk:IntKind}{i:Int}{k sz len n:Nat}{T E t:ajr}{ti te:TI}
  (hx:Ev s x (.ms k sz 0 len)) (hi:Ev s ix (.v (.int kk i))) (hT:aq P T=some ti) (hk:ti.k=.slice E) (hE:aq P E=some te) (aN:te.size=sz)
  (h0:i=(n:Int)) (he:n<len) (hN:aek d N=true) :
  Step P N R s ⟨some d,.indexAddr T x ix,t,pos,after,none⟩ ⟨some (.eptr k sz n 0),[],ai x++ai ix,[]⟩:=by
 have:=oX (R:=R) (t:=t) (pos:=pos) (after:=after) hx hi hT hk hE aN h0 he hN
 rwa [ae9]at this
theorem o1{x w:Bool}(h:x=w):(x==w)=true:=by subst h;exact beq_self_eq_true x
theorem o2{c x w:Bool}(hc:c=true)(h:x=w):(c&&x==w)=true:=by subst h;subst hc;simp
theorem o3{c x w:Bool}(h:(c&&x==w)=true):c=true:=by cases c <;> simp_all
end Go.Lw
namespace Go.Lw
variable{P:ajs}{N:Nat}{R:Array Oper}{s:AS}{pos:String}{after:Array Edge}
mutual
theorem AV.fz_id(k sz:Nat)(es:List AV):∀x:AV,¬x.Names k->x.fz k sz es=x
 | .ms k' sz' off len,h=>by
  have:afe k' k=false:=by
   cases hb:afe k' k
   ·rfl
   ·obtain rfl:=ah5 hb;exact ajm (AV.Names.ms _ _ _ _) h
  simp only[AV.fz,this,ahe]
 | .agg cs,h=>by simp only[AV.fz];rw[AV.fzs_id k sz es cs (fun c hc hn=>h (.agg hc hn))]
 | .tup cs,h=>by simp only[AV.fz];rw[AV.fzs_id k sz es cs (fun c hc hn=>h (.tup hc hn))]
 | .fn f cs,h=>by simp only[AV.fz];rw[AV.fzs_id k sz es cs (fun c hc hn=>h (.fn hc hn))]
 | .cl f cs ds,_=>by simp only[AV.fz]
 | .opt b x,h=>by simp only[AV.fz];rw[AV.fz_id k sz es x (fun hn=>h (.opt hn))]
 | .v x,_=>by simp only[AV.fz]
 | .lst sz l,_=>by simp only[AV.fz]
 | .iptr l,_=>by simp only[AV.fz]
 | .ptr k off,_=>by simp only[AV.fz]
 | .eptr k sz i off,_=>by simp only[AV.fz]
 | .yl k,_=>by simp only[AV.fz]
theorem AV.fzs_id(k sz:Nat)(es:List AV):∀l:List AV,(∀c∈l,¬c.Names k)->AV.fzs k sz es l=l
 |[],_=>by simp only[AV.fzs]
 |x::l,h=>by simp only[AV.fzs];rw[AV.fz_id k sz es x (h x (by simp)),AV.fzs_id k sz es l (fun c hc=>h c (by simp[hc]))]
end
theorem KC{k sz:Nat}{es:List AV}{x:Blk}(h:¬x.Names k):x.map (AV.fz k sz es)=x:=by
 cases x with
 |row=>rfl
 |vec=>rfl
 |box cs =>
  simp only[Blk.map];congr 1;rw[<- AV.fzs_eq];exact AV.fzs_id k sz es cs (fun c hc hn=>h ⟨c,hc,hn⟩)
 |loop d st pe sl =>
  simp only[Blk.map];congr 1
  induction sl with
  |nil=>rfl
  |cons p sl ih =>
   obtain⟨t,x⟩:=p;simp only[je];rw[ih (fun⟨t',x',h1,h2⟩=>h ⟨t',x',ait _ h1,h2⟩)];cases x with
   |none=>rfl
   |some x=>simp only[AV.fz_id k sz es x (fun hn=>h ⟨t,x,ai2 ..,hn⟩)]
theorem Qn{o:Oper}{d k sz n:Nat}{es:List AV}{rt rd:List Nat}(hd:o.dst=some d)(hn:n=es.length)(hdr:d∉rd)(gQ:d≠k)
  (h:Step P N R s o ⟨some (.ms d sz 0 n),[(d,some (.row sz es)),(k,none)],rt,rd⟩):Step P N R s o ⟨some (.lst sz es),[(d,none),(k,none)],rt,rd⟩:=by
 refine⟨fun s' am bm C m a w Q next hC hr hnext=>?_⟩
 have hfr:s'.Fresh d:=by
  rcases bm d (by simp)with h |h
  ·exact ajm h hdr
  ·exact h
 refine h.run s' am bm C m a w Q next hC hr (fun m' a' w' hr'=>?_);rw[hd]at hr'
 have hk:(s'.app (some d) ⟨some (.ms d sz 0 n),[(d,some (.row sz es)),(k,none)],rt,rd⟩).blk d=some (.row sz es):=by
  simp[AS.blk,AS.app,aA]
 obtain⟨m2,ek⟩:=Wk.freeze hk C m' a' w' hr';refine hnext m2 a' w' ?_;rw[hd];refine ek.congr ?_ ?_
 ·intro t;simp only[AS.get,ry,AS.app,aA];split
  ·subst hn;have e1:afe d d=true:=aee d;have e2:afe sz sz=true:=aee sz;have e3:Nat.ble (0+es.length) es.length=true:=aec oz;simp only[ah1,AV.fz,e1,e2,e3,Bool.and_self,ai9,ail]
  ·cases hx:lk s'.sl t with
   |none=>rfl
   |some x=>simp only[ah1];rw[AV.fz_id _ _ _ _ (hfr.2.2.1 t x hx)]
 ·intro k';simp only[AS.blk,mn,AS.app,agj,nil_append,aA]
  by_cases h1:k'=d
  ·rw[ajg h1,ajg h1]
  ·rw[ajf h1,ajf h1,ajf h1];split
   ·rfl
   ·cases hx:lk s'.hp k' with
    |none=>rfl
    |some x=>simp only[ah1];rw[KC (hfr.2.2.2 k' x hx)]
theorem D0{d k sz len:Nat}{es xs:List AV}{x y:ajp}{T E t:ajr}{ti te:TI}
  (hx:Ev s x (.ms k sz 0 len)) (hk:s.blk k=some (.row sz es)) (ch:len=es.length) (hy:Ev s y (.lst sz xs)) (hT:aq P T=some ti) (iy:ti.k=.slice E) (hE:aq P E=some te)
  (aN:te.size=sz) (aZ:(afe te.zero.length te.size&&aek 0 te.size&&aek 0 te.bytes)=true) (hb:(len+xs.length)*te.bytes<=140737488355328) (gQ:afe d k=false)
  (hN:aek d N=true) :
  Step P N R s ⟨some d,.call ⟨.builtin .append,#[x,y],#[T,T]⟩,t,pos,after,none⟩
   ⟨some (.lst sz (es++xs)),[(d,none),(k,none)],ai x++ai y,[k]⟩ :=
 Qn rfl (by rw[ai0,ch]) (by simpa using aes gQ) (aes gQ) (dX hx hk ch hy hT iy hE aN aZ hb gQ hN)
theorem HO{ρ:ajp->ajq}{d:Option Tmp}{x y:ajp}{T t:ajr}{w w':ajt}{v:ajq}
  (h:(Builtin.copy_ #[T,T] t #[ρ x,ρ y]).run P w=.ok v w') :
  (execOp ρ ⟨d,.call ⟨.builtin .copy,#[x,y],#[T,T]⟩,t,pos,after,none⟩).run P w=.ok (.value v) w':=by
 simp[execOp,resolve,invoke,builtin,h]
set_option maxHeartbeats 1000000 in
theorem UG{d k sz len:Nat}{es xs:List AV}{x y:ajp}{T E t:ajr}{ti te:TI}
  (hx:Ev s x (.ms k sz 0 len)) (hk:s.blk k=some (.row sz es)) (ch:len=es.length) (hy:Ev s y (.lst sz xs)) (hT:aq P T=some ti) (iy:ti.k=.slice E) (hE:aq P E=some te)
  (aN:te.size=sz) (co:aek 0 te.size=true) (hb:xs.length<=len) (hN:aek d N=true) :
  Step P N R s ⟨some d,.call ⟨.builtin .copy,#[x,y],#[T,T]⟩,t,pos,after,none⟩
   ⟨some (.v (.int .i64 xs.length)),[(k,some (.row sz (xs++es.drop xs.length)))],ai x++ai y,[k]⟩:=by
 refine vS rfl ?_;intro s' am bm C m a w next hC hr hnext;subst aN;subst ch
 rw[ad5]at hN co;have cp:lk s'.hp k=some (.row te.size es):=(am.2 k (by simp)).trans hk;have hd:d<C.nt:=by omega
 have dk:=(hx.agree am (fun _ h=>aia.2 (.inl h))).rep hr;have kT:=(hy.agree am (fun _ h=>aia.2 (.inr h))).rep hr;obtain⟨dd2,h3,h4,-,hu⟩:=cR hT w;obtain rfl:=gz (h4.trans iy);obtain⟨ll,jk⟩:∃ll,ll=es.length:=⟨_,rfl⟩
 rw[<- jk]at dk
 have xB:∀(w':ajt),RelM C ⟨s'.sl,(k,some (.row te.size (xs++es.drop xs.length)))::s'.hp⟩ m a w'->next (a.put (some d) (goInt xs.length)) w':=by
  intro w' hr';refine hnext m _ _ ?_;have:=hr'.put d (.int .i64 xs.length) (some (.v (.int .i64 xs.length))) (fun z hz=>by cases hz;exact⟨aip hd hr'.nt,.v _⟩);simpa[AS.app,Act.put,goInt]using this
 have xC:∀(b1 a1:Option Addr)(c1 c2 l1:Nat),a.eval x=.slice b1 l1 c1->a.eval y=.slice a1 0 c2->xs=[] ->
   (⟨some d,.call ⟨.builtin .copy,#[x,y],#[T,T]⟩,t,pos,after,none⟩:Oper).upon P a next (fun _ _ _=>False) ((execOp a.eval ⟨some d,.call ⟨.builtin .copy,#[x,y],#[T,T]⟩,t,pos,after,none⟩).run P w):=by
  intro b1 a1 c1 c2 l1 e1 e2 e3;subst e3
  have iR:(Builtin.firstCells te.size 0 (.slice a1 0 c2)).run P w=.ok #[] w:=by
   cases a1 with
   |none=>rfl
   |some a1=>exact run_firstCells_some w _ _ a1 _ _ [] (by simp) (by simp)
  have dK:(Builtin.copy_ #[T,T] t #[.slice b1 l1 c1,.slice a1 0 c2]).run P w=.ok (goInt 0) w:=by
   have e0:Nat.min 0 l1=0:=Nat.zero_min _;cases b1 with
   |none=>simp[Builtin.copy_,h3,eR hE,Builtin.lenOf,e0,iR]
   |some b1=>simp[Builtin.copy_,h3,eR hE,Builtin.lenOf,e0,iR,storeCells]
  rw[HO (ρ:=a.eval) (by rw[e1,e2];exact dK)];refine xB w ?_;refine RelM.congr (s:=s') (fun t=>rfl) ?_ hr;intro k';simp only[AS.blk,aA];split
  ·subst_vars;rw[cp];rfl
  ·rfl
 rcases DW kT co with⟨rfl,a1,cap1,gk⟩ |⟨b1,off1,cap1,cs,gk,kW,cF,OZ,pZ,iT,gn,aQ⟩
 ·generalize dc:a.eval x=u at dk;cases dk with
  |ms0 a0=>exact xC _ _ _ _ _ dc gk rfl
  |ms hm hc hS=>exact xC _ _ _ _ _ dc gk rfl
 ·obtain ⟨O0, O1, t1, f1, jN⟩:=cF;have cK:(cs.extract off1 (off1 + xs.length * te.size)).toList.length = xs.length * te.size:=by simp; omega
  have mW:∀(j:Nat) v,(cs.extract off1 (off1+xs.length*te.size)).toList[j]?=some v->w.cell? ((⟨b1,off1,none⟩:Addr).add j)=some v:=by
   intro j v hj;rw[iX,qo jN];rw[ahz,ahy]at hj;split at hj
   ·exact hj
   ·cases hj
  have iS:∀u∈(cs.extract off1 (off1+xs.length*te.size)).toList,u.oneCell'=true:=by
   intro u hu;obtain⟨p,hp,rfl⟩:=afh.1 hu;rw[cK]at hp;have hi':p/te.size<xs.length:=by rw[aex co];exact hp
   have he:=ah9 hi';have lW:=iT _ _ he;have kV:p%te.size<te.size:=aeg _ co;have jM:=ah9 (show p%te.size<(xs[p/te.size]).cells.length by omega);have kQ:p/te.size*te.size+p%te.size=p:=by rw[aey];exact aeh _ _
   have kX:cs[off1+p/te.size*te.size+p%te.size]?=some ((cs.extract off1 (off1+xs.length*te.size)).toList[p]'oz):=by
    rw[aeo,kQ];simp only[Array.getElem_toList,Array.getElem_extract];exact ahm oz
   exact(aQ _ _ _ _ _ he jM kX).one (gn _ _ _ _ he jM)
  generalize dc:a.eval x=u at dk;cases dk with
  |ms0 a0=>omega
  | @ms _ _ _ _ _ cap b hm hc hS =>
   subst jk;obtain⟨c,t2,hw,hn,hl,k8,p4,jl⟩:=tc hr.heap cp hm;have Bb:xs.length*te.size<=es.length*te.size:=aik _ hb;have iR:=run_firstCells_some (P:=P) w te.size xs.length ⟨b1,off1,none⟩ xs.length cap1 _ cK mW;have cg:=zC (P:=P) (cs.extract off1 (off1+xs.length*te.size)).toList c w 0 0 hw (by rw[cK];omega) iS;simp only[ae4]at cg;have Gb:Nat.min xs.length es.length=xs.length:=afc hb
   have dK:(Builtin.copy_ #[T,T] t #[.slice (some ⟨b,0*te.size,none⟩) es.length cap,.slice (some ⟨b1,off1,none⟩) xs.length cap1]).run P w =
     .ok (goInt xs.length) { w with heap:=w.heap.setIfInBounds b (.cells (over c.toList 0 (cs.extract off1 (off1+xs.length*te.size)).toList).toArray t2 (0,0)) }:=by
    rw[Nat.zero_mul];generalize(cs.extract off1 (off1+xs.length*te.size)).toList=news at iR cg ⊢;simp[Builtin.copy_,h3,eR hE,Builtin.lenOf,Gb,iR,cg]
   rw[HO (ρ:=a.eval) (by rw[dc,gk];exact dK)];refine xB _ ?_
   have bp:(over c.toList 0 (cs.extract off1 (off1+xs.length*te.size)).toList).toArray.size=c.size:=by
    simp only[agl];rw[sE _ _ _ (by rw[cK];simp;omega)];simp
   refine hr.write (x':=.row te.size (xs++es.drop xs.length)) cp hm hw bp rfl (fun g S hg hS hw'=>?_)
   have ol:∀(i:Nat)(e:AV),(xs++es.drop xs.length)[i]?=some e->(i<xs.length/\xs[i]?=some e)\/(xs.length<=i/\es[i]?=some e):=by
    intro i e he;rcases aid i xs.length with h |h
    ·rw[ais h]at he;exact .inl ⟨h,he⟩
    ·rw[ain h,ai5,show xs.length+(i-xs.length)=i by omega]at he;exact .inr ⟨h,he⟩
   refine .row hw' ?_ (by simp;omega) ?_ ?_ ?_
   ·rw [bp];have:(xs ++ es.drop xs.length).length = es.length:=by simp; omega
    rw[this];exact hn
   ·intro i e he;rcases ol i e he with⟨_,h⟩ |⟨_,h⟩
    ·exact iT i e h
    ·exact k8 i e h
   ·intro i j e z he hz;rcases ol i e he with⟨_,h⟩ |⟨_,h⟩
    ·exact gn i j e z h hz
    ·exact p4 i j e z h hz
   ·intro i j e u z he hz hu;refine Rep.mono hg hS ?_ (fun _ _ _ h=>h);rw [afg,jC _ _ _ (by rw [cK]; simp; omega),ajf oz,cK] at hu;rcases ol i e he with ⟨hi,h⟩ | ⟨hi,h⟩
    ·have hj:j<te.size:=by
      rw[<- iT i e h];rcases aid j e.cells.length with h |h
      ·exact h
      ·rw[aig h]at hz;cases hz
     have:=my (sz:=te.size) hi;rw[ajg oz,ahz,ahy,ajg oz]at hu;exact aQ i j e z u h hz (by rw[<- hu];congr 1;omega)
    ·have h9:xs.length*te.size<=i*te.size:=aik _ hi;rw[ajf oz,ahz]at hu;exact jl i j e u z h hz hu
theorem Sub.lst{sz:Nat}{es es':List AV}(hn:es.length=es'.length)(h:∀(i:Nat)(e e':AV),es[i]?=some e->es'[i]?=some e'->iW e e'):Sub (.lst sz es) (.lst sz es'):=by
 intro g S m v hv;cases hv with
 |lst0 a cap =>
  have:es'=[]:=af2 (by rw[<- hn];rfl);subst this;exact .lst0 _ _ _
 | @lst _ b off cap _ _ cs u hb hc hl hs h1 hu hr =>
  have hg:∀(i:Nat)(e':AV),es'[i]?=some e'->∃e,es[i]?=some e/\iW e e':=by
   intro i e' he';obtain⟨e,he⟩:=jJ hn.symm he';exact⟨e,he,h i e e' he he'⟩
  have:=Rep.lst (g:=g) (S:=S) (m:=m) (b:=b) (off:=off) (cap:=cap) (sz:=sz) (es:=es') u hb oz oz
   (fun i e' he'=>by obtain⟨e,he,hc⟩:=hg i e' he';rw[<- hc.1];exact hs i e he)
   (fun i j e' x' he' hx'=>by
    obtain⟨e,he,hc⟩:=hg i e' he';obtain⟨x,hx⟩:=jJ hc.1.symm hx';exact(hc.2 j x x' hx hx').1)
   (fun i j e' x' he' hx'=>by
    obtain⟨e,he,hc⟩:=hg i e' he';obtain⟨x,hx⟩:=jJ hc.1.symm hx';exact hu i j e x he hx)
   (fun i j e' x' he' hx'=>by
    obtain⟨e,he,hc⟩:=hg i e' he';obtain⟨x,hx⟩:=jJ hc.1.symm hx';exact(hc.2 j x x' hx hx').2 _ _ _ _ (hr i j e x he hx))
  rwa [<- hn]at this
end Go.Lw
namespace Go.Lw
variable{P:ajs}{N:Nat}{R:Array Oper}{s:AS}{pos:String}{after:Array Edge}
mutual
def AV.fb(k:Nat)(xs:List AV):AV->AV
  | .ptr k' off=>match afe k' k with
    |true=>.iptr (xs.drop off)
    |false=>.ptr k' off
  | .agg cs=>.agg (AV.fbs k xs cs)
  | .tup cs=>.tup (AV.fbs k xs cs)
  | .fn f cs=>.fn f (AV.fbs k xs cs)
  | .opt b x=>.opt b (AV.fb k xs x)
  | .v x=>.v x
  | .lst sz l=>.lst sz l
  | .iptr l=>.iptr l
  | .ms k sz off len=>.ms k sz off len
  | .eptr k sz i off=>.eptr k sz i off
  | .yl k=>.yl k
  | .cl f cs ds=>.cl f cs ds
def AV.fbs(k:Nat)(xs:List AV):List AV->List AV
  |[]=>[]
  |x::l=>AV.fb k xs x::AV.fbs k xs l
end
theorem AV.fbs_eq(k:Nat)(xs:List AV):∀l,AV.fbs k xs l=l.map (AV.fb k xs)
 |[]=>rfl
 |x::l=>by simp only[AV.fbs,ajd,AV.fbs_eq k xs l]
theorem AV.fb_one(k:Nat)(xs:List AV)(x:AV)(h:x.one=true):(x.fb k xs).one=true:=by
 cases x <;> simp only[AV.fb] <;> first |exact h |(split <;> rfl)
theorem CG{g:Nat->Array ajq->Prop}{S:Nat->Nat->Prop}{k:Nat}{xs:List AV}{m:Nat->Option Nat}{v:ajq}{x:AV}(h:Rep g S m v x)
  (hb:∀b,m k=some b->∃c:Array ajq,g b c/\c.size=xs.length/\(∀(j:Nat)(x:AV),xs[j]?=some x->x.one=true) /\
   ∀(j:Nat)(u:ajq)(x:AV),c[j]?=some u->xs[j]?=some x->Rep g S cO u x):Rep g S m v (x.fb k xs):=by
 induction h with
 |v x=>exact .v x
 |lst0 a cap sz'=>exact .lst0 a cap sz'
 |lst u hb' hc hl hs h1 hu hr _=>exact .lst u hb' hc hl hs h1 hu hr
 |iptr u hb' h1 hu hr _=>exact .iptr u hb' h1 hu hr
 |ms0 a k' sz' off=>exact .ms0 _ _ _ _
 |ms hm hc hS=>exact .ms hm hc hS
 |eptr h=>exact .eptr h
 |yl h=>exact .yl h
 |opt h h' ih=>exact .opt (fun mY=>ih mY hb) h'
 |agg hn h1 hr ih =>
  simp only[AV.fb,AV.fbs_eq];refine .agg (by simpa using hn) ?_ ?_
  ·intro j c hc;simp only[aib,ah8]at hc;obtain⟨y,hy,rfl⟩:=hc;exact AV.fb_one _ _ _ (h1 j y hy)
  ·intro j u c hu hc;simp only[aib,ah8]at hc;obtain⟨y,hy,rfl⟩:=hc;exact ih j u y hu hy hb
 |tup hn hr ih =>
  simp only[AV.fb,AV.fbs_eq];refine .tup (by simpa using hn) ?_;intro j u c hu hc;simp only[aib,ah8]at hc;obtain⟨y,hy,rfl⟩:=hc;exact ih j u y hu hy hb
 |fn hn hr ih =>
  simp only[AV.fb,AV.fbs_eq];refine .fn (by simpa using hn) ?_;intro j u c hu hc;simp only[aib,ah8]at hc;obtain⟨y,hy,rfl⟩:=hc;exact ih j u y hu hy hb
 |cl hn hr hn' hr' _ _=>exact .cl hn hr hn' hr'
 | @ptr mm k' off b hm =>
  simp only[AV.fb];split
  ·rename_i h1;obtain rfl:=ah5 h1;obtain⟨c,F8,aN,ho,hr⟩:=hb b hm
   have ff:∀(j:Nat)(x:AV),(xs.drop off)[j]?=some x->∃u,c[off+j]?=some u:=by
    intro j x hx;rw[ai5]at hx
    have hi:off+j<xs.length:=by
     rcases aid (off+j) xs.length with h |h
     ·exact h
     ·rw[aig h]at hx;cases hx
    exact⟨_,ahm oz⟩
   refine .iptr (fun j=>c.getD (off+j) undef) F8 (fun j x hx=>?_) (fun j x hx=>?_) (fun j x hx=>?_)
   ·rw[ai5]at hx;exact ho _ x hx
   ·obtain⟨u,hu⟩:=ff j x hx;rw[aic,hu];rfl
   ·obtain⟨u,hu⟩:=ff j x hx;rw[ai5]at hx;rw[aic,hu];exact hr _ u x hu hx
  ·exact .ptr hm
theorem Wk.freezeB{k:Nat}{xs:List AV}(hk:s.blk k=some (.box xs))(hnm:(xs.all fun x=>x.nm.isEmpty)=true):Wk s ⟨je (AV.fb k xs) s.sl,fu (AV.fb k xs) k s.hp⟩:=by
 intro C m a w hr;refine⟨m,?_⟩
 have rU:∀k' z,lk ((k,none)::s.hp) k'=some z->lk s.hp k'=some z:=by
  intro k' z hz;rw[aA]at hz;split at hz
  ·cases hz
  ·exact hz
 have aQ:=hr.fewer rU
 have hb:∀b,m k=some b->∃c:Array ajq,Im C.ext ((k,none)::s.hp) m w b c/\c.size=xs.length/\(∀(j:Nat)(x:AV),xs[j]?=some x->x.one=true) /\
   ∀(j:Nat)(u:ajq)(x:AV),c[j]?=some u->xs[j]?=some x->Rep (Im C.ext ((k,none)::s.hp) m w) (Sz w) cO u x:=by
  intro b hm;obtain⟨c,t,hw,hn,ho,aS⟩:=AU hr.heap hk hm;have cF:=eO (ext:=C.ext) (Frame.refl (aO s.hp m) w) (hp':=(k,none)::s.hp) (m':=m) (fun k' z b' hz hb'=>.inl ⟨k',z,rU k' z hz,hb'⟩);refine⟨c,⟨(hr.heap.sep k _ b hk hm).1,?_,t,(0,0),hw⟩,hn,ho,fun j u x hu hx=>(aS j u x hu hx).mono cF (fun _ _ h=>h) (fun k' _ hn _=>?_)⟩
  ·rintro⟨k',z,hz,hb'⟩;have:=hr.heap.inj k k' _ z b hk (rU k' z hz) hm hb';subst this;rw[aA,ajg rfl]at hz;cases hz
  ·have h9:=aif.1 hnm x (ah3 hx);have h8:=AV.Names.mem hn;rw[List.isEmpty_iff.1 h9]at h8;cases h8
 have cZ:∀k' z,lk (fu (AV.fb k xs) k s.hp) k'=some z->∃y,lk ((k,none)::s.hp) k'=some y/\z=y.map (AV.fb k xs):=by
  intro k' z hz;rw[mn]at hz;split at hz
  ·cases hz
  ·rename_i aF;simp only[ah8]at hz;obtain⟨y,hy,rfl⟩:=hz;exact⟨y,by rw[aA,ajf aF];exact hy,rfl⟩
 have rP:∀k' y,lk ((k,none)::s.hp) k'=some y->lk (fu (AV.fb k xs) k s.hp) k'=some (y.map (AV.fb k xs)):=by
  intro k' y hy;rw[aA]at hy;split at hy
  ·cases hy
  ·rename_i aF;rw[mn,ajf aF,hy];rfl
 have e1:aO (fu (AV.fb k xs) k s.hp) m=aO ((k,none)::s.hp) m:=by
  funext b;apply propext;constructor
  ·rintro⟨k',z,hz,hb⟩;obtain⟨y,hy,_⟩:=cZ k' z hz;exact⟨k',y,hy,hb⟩
  ·rintro⟨k',y,hy,hb⟩;exact⟨k',_,rP k' y hy,hb⟩
 have e2:Im C.ext (fu (AV.fb k xs) k s.hp) m w=Im C.ext ((k,none)::s.hp) m w:=by funext b cs;simp only[Im,e1]
 refine⟨?_,⟨?_,?_,?_⟩,aQ.frame,?_,?_,aQ.defers,aQ.nt⟩
 ·intro t x hx;simp only[AS.get,ry,ah8]at hx;obtain⟨y,hy,rfl⟩:=hx;obtain⟨g1,g2⟩:=aQ.slots t y hy;refine⟨g1,?_⟩;show Rep (Im C.ext (fu (AV.fb k xs) k s.hp) m w) _ _ _ _;rw[e2];exact CG g2 hb
 ·intro k' z hz;obtain⟨y,hy,rfl⟩:=cZ k' z hz;rw[e2];have:=aQ.heap.blk k' y hy;cases y with
  |row sz' es'=>exact this
  |vec vs =>
   simp only[Blk.map];generalize m k'=o at this;cases this with
   |vec hw hc h1=>exact .vec hw hc h1
  |loop=>exact this.mapLoop _ (fun _ _ _ _ h=>CG h hb)
  |box cs =>
   simp only[Blk.map];generalize m k'=o at this;cases this with
   |box hw hn h1 aS =>
    refine .box hw (by simpa using hn) ?_ ?_
    ·intro j x hx;simp only[aib,ah8]at hx;obtain⟨y,hy,rfl⟩:=hx;exact AV.fb_one _ _ _ (h1 j y hy)
    ·intro j u x hu hx;simp only[aib,ah8]at hx;obtain⟨y,hy,rfl⟩:=hx;exact CG (aS j u y hu hy) hb
 ·intro k1 k2 z1 z2 b g1 g2;obtain⟨y1,rT,_⟩:=cZ k1 z1 g1;obtain⟨y2,oi,_⟩:=cZ k2 z2 g2;exact aQ.heap.inj k1 k2 y1 y2 b rT oi
 ·intro k' z b hz hb;obtain⟨y,hy,_⟩:=cZ k' z hz;exact aQ.heap.sep k' y b hy hb
 ·intro k' z b hz hb;obtain⟨y,hy,_⟩:=cZ k' z hz;exact aQ.new k' y b hy hb
 ·intro k' z od hz;obtain⟨y,hy,_⟩:=cZ k' z hz;exact aQ.keep k' y od hy
theorem aak{d:Nat}{x:ajp}{u:ajq}{T S t:ajr}{ti:TI}{k:IntKind}(hx:Ev s x (.v (.iface T u)))
  (hT:aq P T=some ti) (hk:ti.k=.int k) (hN:aek d N=true) :
  Step P N R s ⟨some d,.typeAssert x S T true,t,pos,after,none⟩ ⟨some (.tup [.v u,.v (.bool true)]),[],ai x,[]⟩ :=
 cC rfl rfl hN fun s' am C m a w hr=>by
  have h:=(hx.agree am (fun _ h=>h)).rep hr;generalize hu:a.eval x=y at h;cases h;obtain⟨d2,h3,h4,-,-⟩:=cR hT w;obtain rfl:=Kh (h4.trans hk);refine⟨.tuple #[u,.bool true],by simp[execOp,hu,Instr.typeAssert,h3],.tup rfl ?_⟩;intro j v c hv hc
  match j,hv,hc with
  |0,hv,hc=>cases hv;cases hc;exact .v _
  |1,hv,hc=>cases hv;cases hc;exact .v _
def wQ(P:ajs)(t:ajr):Bool:=match P.underlying t with |some (.int .i64)=>true |_=>false
theorem Ec{P:ajs}{t:ajr}(h:wQ P t=true):P.underlying t=some (.int .i64):=by
 unfold wQ at h;split at h
 ·assumption
 ·cases h
def AH(P:ajs)(T:ajr):Bool:=match P.underlying T with
  |some (.struct fs)=>(match fs.toList with
    | [f, g] => f.name != "_" && g.name != "_" && afe f.offset 0 && afe g.offset 1 && wQ P f.type && wQ P g.type
    |_=>false)&&!P.stoodInHeld T&&!P.eqGuardType P.depth T
  |_=>false
theorem ZW{P:ajs}{T:ajr}(h:AH P T=true)(w:ajt)(a b c d:Int) :
  (Op.equalIn 10000 T (.agg #[.int .i64 a,.int .i64 b]) (.agg #[.int .i64 c,.int .i64 d])).run P w=.ok (a==c&&b==d) w/\P.eqGuardType P.depth T=false:=by
 unfold AH at h;split at h
 ·rename_i fs hu;rw[ah7,ah7]at h;obtain⟨⟨h,h1⟩,h2⟩:=h;split at h
  ·rename_i f g hfs;simp only [ah7] at h;obtain ⟨⟨⟨⟨⟨g1,g2⟩,g3⟩,g4⟩,g5⟩,g6⟩:=h;have hF:P.fieldsOf T = fs:=by unfold Program.fieldsOf; rw [hu]
   have hs:P.stoodInHeld T=false:=by simpa using h1
   refine ⟨?_,by simpa using h2⟩;have u5:=Ec g5;have u6:=Ec g6;have o3:=ah5 g3;have o4:=ah5 g4;have n1 : f.name ≠ "_" := by simpa using g1
   have n2 : g.name ≠ "_" := by simpa using g2
   rw[run_equalIn_struct w 9999 T _ _ (by rw[hF];exact hu) hs,hF,hfs]
   have e1:∀(x:Int)(y:Int),(part f.type #[.int .i64 x,.int .i64 y] f.offset).run P w=.ok (.int .i64 x) w:=by
    intro x y;simp[part,isAgg,run_underlying u5,o3]
   have e2:∀(x:Int)(y:Int),(part g.type #[.int .i64 x,.int .i64 y] g.offset).run P w=.ok (.int .i64 y) w:=by
    intro x y;simp[part,isAgg,run_underlying u6,o4]
   have e3:∀(x y:Int),(Op.equalIn 9999 f.type (.int .i64 x) (.int .i64 y)).run P w=.ok (x==y) w:=fun x y=>run_equalIn_int w 9998 f.type .i64 .i64 x y u5
   have e4:∀(x y:Int),(Op.equalIn 9999 g.type (.int .i64 x) (.int .i64 y)).run P w=.ok (x==y) w:=fun x y=>run_equalIn_int w 9998 g.type .i64 .i64 x y u6
   simp only[Op.eqFields,n1,n2,ne_eq,not_false_eq_true,if_true,ajv,e1,e2,e3,e4,aju,Sem.run_ite];cases(a==c) <;> cases(b==d) <;> simp
  ·cases h
 ·cases h
theorem UQ{d:Nat}{x y:ajp}{a b c e:Int}{S T t:ajr}(hx:Ev s x (.agg [.v (.int .i64 a),.v (.int .i64 b)]))(hy:Ev s y (.agg [.v (.int .i64 c),.v (.int .i64 e)]))
  (hS:AH P S=true) (hN:aek d N=true) :
  Step P N R s ⟨some d,.binOp .eql S x y T,t,pos,after,none⟩ ⟨some (.v (.bool (a==c&&b==e))),[],ai x++ai y,[]⟩ :=
 cC rfl rfl hN fun s' am C m ac w hr=>⟨.bool (a==c&&b==e),by
  have h:=(hx.agree am (fun _ h=>aia.2 (.inl h))).rep hr;have h':=(hy.agree am (fun _ h=>aia.2 (.inr h))).rep hr
  have pair:∀{v:ajq}{p q:Int},Rep (Im C.ext s'.hp m w) (Sz w) m v (.agg [.v (.int .i64 p),.v (.int .i64 q)])->v=.agg #[.int .i64 p,.int .i64 q]:=by
   intro v p q hv;cases hv with
   | @agg _ vs _ hn h1 aS =>
    have i0:0<vs.size:=by rw[hn];simp
    have i1:1<vs.size:=by rw[hn];simp
    have r0:=aS 0 vs[0] _ (by simp[i0]) rfl;have r1:=aS 1 vs[1] _ (by simp[i1]) rfl;generalize aZ:vs[0]=z0 at r0;generalize co:vs[1]=z1 at r1;cases r0;cases r1
    congr 1;refine Array.ext (by rw[hn];rfl) (fun i hi _=>?_)
    match i,hi with
    |0,_=>exact aZ
    |1,_=>exact co
    |i+2,hi=>rw[hn]at hi;simp at hi;omega
  have hu:=pair h;have hv:=pair h';obtain⟨r1,r2⟩:=ZW hS w a b c e;simp only[execOp,hu,hv,ajv,run_eqGuard_agg w .eql S x y _ _ r2,aju,run_eql_struct,r1,ajw],.v _⟩
theorem Ut{d n e:Nat}{x y:ajp}{kk:IntKind}{i:Int}{k off sz:Nat}{T t:ajr}{ti te:TI}(hx:Ev s x (.ptr k off))(hi:Ev s y (.v (.int kk i)))
  (hT:aq P T=some ti) (hk:ti.k=.array n e) (hE:aq P e=some te) (aN:te.size=sz) (h0:0<=i) (he:i<(n:Int)) (hN:aek d N=true) :
  Step P N R s ⟨some d,.indexAddr T x y,t,pos,after,none⟩ ⟨some (.ptr k (off+i.toNat*sz)),[],ai x++ai y,[]⟩ :=
 cC rfl rfl hN fun s' am C m a w hr=>by
  obtain⟨b,hm,hv⟩:=tC hr (hx.agree am (fun _ h=>aia.2 (.inl h)));have xn:=nN hr (hi.agree am (fun _ h=>aia.2 (.inr h)));obtain⟨d2,h2,h3,-,-⟩:=cR hT w;obtain rfl:=Sw (h3.trans hk);subst aN;refine⟨.pointer (some ⟨b,off+i.toNat*te.size,none⟩),?_,.ptr hm⟩;simp[execOp,hv,xn,Instr.indexAt,Instr.sureAddr,asIntOf,h2,h0,he,eR hE,iX]
end Go.Lw
namespace Go.Lw
theorem SlW.k {sl l : bn} {x y : AV} {t : Nat} (hl : SlW sl l) (h : lk sl t = some y := by exact rfl)
  (hs:Sub y x:=by first |exact Sub.refl _ |exact Sub.nil _ _ _ |exact Sub.nM _ _ _ |exact Sub.int oz):SlW sl ((t,some x)::l):=.cons h hs hl
open Go.Proofs
abbrev FP(f:FuncId)(a:List AV)(r:AV):Prop:=jF prog f a r
theorem V6:prog.follows .mixedOrders=true:=by kernel_rfl
theorem T2:aq prog 2=some ⟨1,8,[.int .i64 0],.int .i64,[]⟩:=by kernel_rfl
theorem T3:aq prog 3=some ⟨1,8,[.int .i64 0],.int .i64,[]⟩:=by kernel_rfl
theorem T4:aq prog 4=some ⟨1,1,[.bool false],.bool,[]⟩:=by kernel_rfl
theorem T5:aq prog 5=some ⟨1,1,[.int .u8 0],.int .u8,[]⟩:=by kernel_rfl
theorem T9:aq prog 9=some ⟨1,16,[.string ⟨#[]⟩],.string,[]⟩:=by kernel_rfl
theorem T22:aq prog 22=some ⟨1,24,[.slice none 0 0],.slice 83,[]⟩:=by kernel_rfl
theorem T23:aq prog 23=some ⟨1,24,[.slice none 0 0],.slice 102,[]⟩:=by kernel_rfl
theorem T24:aq prog 24=some ⟨1,24,[.slice none 0 0],.slice 73,[]⟩:=by kernel_rfl
theorem T26:aq prog 26=some ⟨4,88,[.string ⟨#[]⟩,.slice none 0 0,.slice none 0 0,.slice none 0 0],.struct,[(0,1),(1,1),(2,1),(3,1)]⟩:=by kernel_rfl
theorem T29:aq prog 29=some ⟨1,24,[.slice none 0 0],.slice 41,[]⟩:=by kernel_rfl
theorem T30:aq prog 30=some ⟨1,24,[.slice none 0 0],.slice 3,[]⟩:=by kernel_rfl
theorem T32:aq prog 32=some ⟨1,16,[.nilIface],.iface 1,[]⟩:=by kernel_rfl
theorem T40:aq prog 40=some ⟨1,24,[.slice none 0 0],.slice 44,[]⟩:=by kernel_rfl
theorem T41:aq prog 41=some ⟨1,24,[.slice none 0 0],.slice 44,[]⟩:=by kernel_rfl
theorem T42:aq prog 42=some ⟨1,24,[.slice none 0 0],.slice 87,[]⟩:=by kernel_rfl
theorem T44:aq prog 44=some ⟨3,56,[.bool false,.slice none 0 0,.slice none 0 0],.struct,[(0,1),(1,1),(2,1)]⟩:=by kernel_rfl
theorem T46:aq prog 46=some ⟨4,64,[.bool false,.slice none 0 0,.slice none 0 0,.bool false],.struct,[(0,3),(3,1)]⟩:=by kernel_rfl
theorem T53:aq prog 53=some ⟨1,24,[.slice none 0 0],.slice 104,[]⟩:=by kernel_rfl
theorem T56:aq prog 56=some ⟨1,24,[.slice none 0 0],.slice 66,[]⟩:=by kernel_rfl
theorem T57:aq prog 57=some ⟨1,24,[.slice none 0 0],.slice 62,[]⟩:=by kernel_rfl
theorem T59:aq prog 59=some ⟨1,24,[.slice none 0 0],.struct,[(0,1)]⟩:=by kernel_rfl
theorem T61:aq prog 61=some ⟨3,72,[.slice none 0 0,.slice none 0 0,.slice none 0 0],.struct,[(0,1),(1,1),(2,1)]⟩:=by kernel_rfl
theorem T62:aq prog 62=some ⟨1,24,[.slice none 0 0],.slice 44,[]⟩:=by kernel_rfl
theorem T66:aq prog 66=some ⟨4,96,[.slice none 0 0,.slice none 0 0,.slice none 0 0,.slice none 0 0],.struct,[(0,1),(1,1),(2,1),(3,1)]⟩:=by kernel_rfl
theorem T67:aq prog 67=some ⟨1,24,[.slice none 0 0],.slice 71,[]⟩:=by kernel_rfl
theorem T71:aq prog 71=some ⟨3,56,[.slice none 0 0,.slice none 0 0,.int .i64 0],.struct,[(0,1),(1,1),(2,1)]⟩:=by kernel_rfl
theorem T73:aq prog 73=some ⟨2,24,[.string ⟨#[]⟩,.int .i64 0],.struct,[(0,1),(1,1)]⟩:=by kernel_rfl
theorem T81:aq prog 81=some ⟨1,24,[.slice none 0 0],.slice 85,[]⟩:=by kernel_rfl
theorem T83:aq prog 83=some ⟨2,40,[.string ⟨#[]⟩,.slice none 0 0],.struct,[(0,1),(1,1)]⟩:=by kernel_rfl
theorem T85:aq prog 85=some ⟨7,128,[.string ⟨#[]⟩,.bool false,.slice none 0 0,.slice none 0 0,.bool false,.slice none 0 0,.slice none 0 0],.struct,[(0,1),(1,3),(4,3)]⟩:=by kernel_rfl
theorem T87:aq prog 87=some ⟨1,4,[.int .u32 0],.int .u32,[]⟩:=by kernel_rfl
theorem T91:aq prog 91=some ⟨1,24,[.slice none 0 0],.slice 179,[]⟩:=by kernel_rfl
theorem T92:aq prog 92=some ⟨1,24,[.slice none 0 0],.slice 4,[]⟩:=by kernel_rfl
theorem T94:aq prog 94=some ⟨4,80,[.slice none 0 0,.bool false,.slice none 0 0,.slice none 0 0],.struct,[(0,1),(1,1),(2,1),(3,1)]⟩:=by kernel_rfl
theorem T102:aq prog 102=some ⟨7,64,[.string ⟨#[]⟩,.int .i64 0,.int .i64 0,.int .i64 0,.int .i64 0,.int .i64 0,.int .i64 0],.struct,[(0,1),(1,1),(2,1),(3,1),(4,1),(5,1),(6,1)]⟩:=by kernel_rfl
theorem T104:aq prog 104=some ⟨4,64,[.int .i64 0,.slice none 0 0,.slice none 0 0,.int .i64 0],.struct,[(0,1),(1,1),(2,1),(3,1)]⟩:=by kernel_rfl
theorem T107:aq prog 107=some ⟨1,8,[.int .i64 0],.int .i64,[]⟩:=by kernel_rfl
theorem T116:aq prog 116=some ⟨1,8,[.pointer none],.pointer 121,[]⟩:=by kernel_rfl
theorem T121:aq prog 121=some ⟨8,184,[.string ⟨#[]⟩,.slice none 0 0,.slice none 0 0,.slice none 0 0,.slice none 0 0,.slice none 0 0,.slice none 0 0,.slice none 0 0],.struct,[(0,4),(4,1),(5,1),(6,1),(7,1)]⟩:=by kernel_rfl
theorem T126:aq prog 126=some ⟨2,32,[.bool false,.slice none 0 0],.struct,[(0,1),(1,1)]⟩:=by kernel_rfl
theorem T133:aq prog 133=some ⟨12,240,[.string ⟨#[]⟩,.slice none 0 0,.slice none 0 0,.slice none 0 0,.int .i64 0,.slice none 0 0,.slice none 0 0,.int .i64 0,.slice none 0 0,.slice none 0 0,.slice none 0 0,.nilIface],.struct,[(0,4),(4,4),(8,3),(11,1)]⟩:=by kernel_rfl
theorem T138:aq prog 138=some ⟨2,40,[.slice none 0 0,.nilIface],.struct,[(0,1),(1,1)]⟩:=by kernel_rfl
theorem T141:aq prog 141=some ⟨6,112,[.bool false,.slice none 0 0,.slice none 0 0,.bool false,.slice none 0 0,.slice none 0 0],.struct,[(0,3),(3,3)]⟩:=by kernel_rfl
theorem T143:aq prog 143=some ⟨2,48,[.slice none 0 0,.slice none 0 0],.struct,[(0,1),(1,1)]⟩:=by kernel_rfl
theorem T145:aq prog 145=some ⟨14,272,[.bool false,.slice none 0 0,.slice none 0 0,.bool false,.slice none 0 0,.slice none 0 0,.slice none 0 0,.slice none 0 0,.bool false,.slice none 0 0,.slice none 0 0,.bool false,.slice none 0 0,.slice none 0 0],.struct,[(0,6),(6,2),(8,6)]⟩:=by kernel_rfl
theorem T151:aq prog 151=some ⟨3,72,[.slice none 0 0,.slice none 0 0,.slice none 0 0],.struct,[(0,2),(2,1)]⟩:=by kernel_rfl
theorem T161:aq prog 161=some ⟨19,392,[.bool false,.slice none 0 0,.slice none 0 0,.bool false,.slice none 0 0,.slice none 0 0,.slice none 0 0,.slice none 0 0,.bool false,.slice none 0 0,.slice none 0 0,.bool false,.slice none 0 0,.slice none 0 0,.slice none 0 0,.slice none 0 0,.slice none 0 0,.slice none 0 0,.slice none 0 0],.struct,[(0,6),(6,2),(8,6),(14,1),(15,1),(16,1),(17,2)]⟩:=by kernel_rfl
theorem T177:aq prog 177=some ⟨6,112,[.bool false,.slice none 0 0,.slice none 0 0,.bool false,.slice none 0 0,.slice none 0 0],.struct,[(0,3),(3,3)]⟩:=by kernel_rfl
theorem T179:aq prog 179=some ⟨7,136,[.slice none 0 0,.bool false,.slice none 0 0,.slice none 0 0,.bool false,.slice none 0 0,.slice none 0 0],.struct,[(0,1),(1,6)]⟩:=by kernel_rfl
theorem T184:aq prog 184=some ⟨6,128,[.string ⟨#[]⟩,.slice none 0 0,.slice none 0 0,.slice none 0 0,.slice none 0 0,.nilIface],.struct,[(0,4),(4,1),(5,1)]⟩:=by kernel_rfl
theorem T194:aq prog 194=some ⟨2,48,[.slice none 0 0,.slice none 0 0],.struct,[(0,1),(1,1)]⟩:=by kernel_rfl
theorem T220:aq prog 220=some ⟨1,8,[.int .u64 0],.int .u64,[]⟩:=by kernel_rfl
theorem T222:aq prog 222=some ⟨1,8,[.int .u64 0],.int .u64,[]⟩:=by kernel_rfl
theorem T235:aq prog 235=some ⟨1,24,[.slice none 0 0],.slice 143,[]⟩:=by kernel_rfl
theorem T237:aq prog 237=some ⟨2,48,[.slice none 0 0,.slice none 0 0],.struct,[(0,1),(1,1)]⟩:=by kernel_rfl
theorem T250:aq prog 250=some ⟨2,40,[.slice none 0 0,.nilIface],.struct,[(0,1),(1,1)]⟩:=by kernel_rfl
theorem T260:aq prog 260=some ⟨2,40,[.slice none 0 0,.nilIface],.struct,[(0,1),(1,1)]⟩:=by kernel_rfl
theorem T286:aq prog 286=some ⟨2,48,[.slice none 0 0,.slice none 0 0],.struct,[(0,1),(1,1)]⟩:=by kernel_rfl
theorem T316:aq prog 316=some ⟨1,24,[.slice none 0 0],.slice 141,[]⟩:=by kernel_rfl
theorem T323:aq prog 323=some ⟨1,24,[.slice none 0 0],.slice 145,[]⟩:=by kernel_rfl
theorem T327:aq prog 327=some ⟨1,24,[.slice none 0 0],.slice 151,[]⟩:=by kernel_rfl
theorem T336:aq prog 336=some ⟨1,24,[.slice none 0 0],.slice 177,[]⟩:=by kernel_rfl
theorem T372:aq prog 372=some ⟨1,8,[.nilFunc],.other,[]⟩:=by kernel_rfl
theorem T382:aq prog 382=some ⟨1,8,[.int .i64 0],.int .i64,[]⟩:=by kernel_rfl
theorem T413:aq prog 413=some ⟨1,8,[.int .u64 0],.int .u64,[]⟩:=by kernel_rfl
theorem mI{k:Nat}{x:Blk}{m:Nat->Option Nat}{b:Nat}:aO [(k,some x)] m b↔m k=some b:=by
 constructor
 ·rintro⟨k',y,hy,hb⟩;rw[aA]at hy;split at hy
  ·rename_i e;rw[<- e]at *;exact hb
  ·cases hy
 ·intro h;exact⟨k,x,by rw[aA,ajg rfl],h⟩
theorem ic{k k':Nat}{x:Option Blk}{z:Blk}(h:lk [(k,x)] k'=some z):k'=k/\x=some z:=by
 rw[aA]at h;split at h
 ·rename_i e;exact⟨e,h⟩
 ·cases h
theorem mM{ext:Nat->Prop}{k d:Nat}{x y:Blk}{m m2:Nat->Option Nat}{w:ajt}(h:m2 d=m k):Im ext [(d,some y)] m2 w=Im ext [(k,some x)] m w:=by
 funext b cs;apply propext;have:aO [(d,some y)] m2 b↔aO [(k,some x)] m b:=by rw[mI,mI,h]
 simp only[Im,this]
theorem sb{ext:Nat->Prop}{k d sz:Nat}{es:List AV}{m m2:Nat->Option Nat}{w:ajt}(h:m2 d=m k)(hr:HeapRel ext [(k,some (.row sz es))] m w):HeapRel ext [(d,some (.row sz es))] m2 w:=by
 refine⟨?_,?_,?_⟩
 ·intro k' z hz;obtain⟨rfl,h9⟩:=ic hz;cases h9;have h1:=hr.blk k _ (by rw[aA,ajg rfl]);rw[mM h (y:=.row sz es) (x:=.row sz es)];exact BlkRep.mono (w:=w) (fun _ _ h=>h) (fun _ _ h=>h) (fun _ _ hn=>hn.elim) h (fun _ _=>rfl) h1
 ·intro k1 k2 z z' b h1 h2 _ _;rw[(ic h1).1,(ic h2).1]
 ·intro k' z b hz hb;obtain⟨rfl,h9⟩:=ic hz;cases h9;exact hr.sep k _ b (by rw[aA,ajg rfl]) (h▸hb)
mutual
def AV.sc:AV->Bool
  | .v _=>true
  | .agg cs=>AV.scs cs
  | .tup cs=>AV.scs cs
  |_=>false
def AV.scs:List AV->Bool
  |[]=>true
  |x::l=>x.sc&&AV.scs l
end
theorem AV.scs_mem:∀{l:List AV}{c:AV},AV.scs l=true->c∈l->c.sc=true
 |x::l,c,h,hc=>by
  simp only[AV.scs,ah7]at h;rcases aiq.1 hc with rfl |hc
  ·exact h.1
  ·exact AV.scs_mem h.2 hc
theorem D6{g g':Nat->Array ajq->Prop}{S S':Nat->Nat->Prop}{m m':Nat->Option Nat}{v:ajq}{x:AV}(hx:x.sc=true)(h:Rep g S m v x):Rep g' S' m' v x:=by
 induction h with
 |v=>exact .v _
 |agg hn h1 hr ih=>exact .agg hn h1 (fun j u c hu hc=>ih j u c hu hc (AV.scs_mem hx (ah3 hc)))
 |tup hn hr ih=>exact .tup hn (fun j u c hu hc=>ih j u c hu hc (AV.scs_mem hx (ah3 hc)))
 |_=>cases hx
def Blk.sc:Blk->Bool
  | .row _ es=>es.all fun e=>e.cells.all AV.sc
  | .box cs=>cs.all AV.sc
  | .loop _ _ _ _=>false
  | .vec _=>true
theorem X1{g g':Nat->Array ajq->Prop}{S S':Nat->Nat->Prop}{m m':Nat->Option Nat}{w:ajt}{o:Option Nat}{x:Blk}(hx:x.sc=true)(h:BlkRep g S m w o x):BlkRep g' S' m' w o x:=by
 cases h with
 |none=>exact .none _
 |box hw hn h1 hr =>
  refine .box hw hn h1 (fun j u x hu hc=>D6 ?_ (hr j u x hu hc));exact aif.1 hx x (ah3 hc)
 |row hw hn hl hs h1 hr =>
  refine .row hw hn hl hs h1 (fun i j e u x he hc hu=>D6 ?_ (hr i j e u x he hc hu));exact aif.1 (aif.1 hx e (ah3 he)) x (ah3 hc)
 |loop=>cases hx
 |vec hw hc h1=>exact .vec hw hc h1
theorem nU{g:Nat->Array ajq->Prop}{S:Nat->Nat->Prop}{m m':Nat->Option Nat}{v:ajq}{x:AV}(hx:x.nm=[])(h:Rep g S m v x):Rep g S m' v x :=
 h.mono (fun _ _ h=>h) (fun _ _ h=>h) (fun k b hk=>by have:=hk.mem;rw[hx]at this;cases this)
theorem Con.rk{P:ajs}{f:FuncId}{k sz off len:Nat}{xs es es':List AV}{r:AV}(d:Nat)(jP:(xs.all fun x=>x.nm.isEmpty)=true)(hr:r.nm=[])
  (h:Con P f (.ms k sz off len::xs) [(k,some (.row sz es))] r [(k,some (.row sz es'))]):Con P f (.ms d sz off len::xs) [(d,some (.row sz es))] r [(d,some (.row sz es'))]:=by
 refine⟨h.ok,?_⟩;intro ext m w vs hext bX cM dl
 have h1 := h.ret ext (fun _ => m d) w vs hext (sb (k := d) rfl bX) (by simpa using cM) (by
  intro j v x hv hx;rw[mM (d:=k) (k:=d) (y:=.row sz es) (x:=.row sz es) (m2:=fun _=>m d) (m:=m) rfl]
  match j,hx with
  |0,hx =>
   cases hx;have h2:=dl 0 v _ hv rfl;cases h2 with
   |ms0 a=>exact .ms0 a _ _ _
   |ms hm hc hS=>exact .ms hm hc hS
  |j+1,hx =>
   have h2:=dl (j+1) v x hv hx;refine nU ?_ h2;have:=aif.1 jP x (ah3 hx);simpa using this)
 refine Calls.mono h1 ?_;rintro e w' ⟨v,m',rfl,hf,hh,hn,hk,aS⟩
 have ho:aO [(k,some (Blk.row sz es))] (fun _=>m d)=aO [(d,some (Blk.row sz es))] m:=by
  funext b;apply propext;rw[mI,mI]
 refine⟨v,fun _=>m' k,rfl,ho▸hf,sb (k:=k) rfl hh,?_,?_,?_⟩
 ·intro k' x b hx hb;rw[<- ho];exact hn k _ b (by rw[aA,ajg rfl]) hb
 ·intro k' x y hx hy;obtain⟨rfl,_⟩:=ic hx;exact hk k _ _ (by rw[aA,ajg rfl]) (by rw[aA,ajg rfl])
 ·rw[mM (d:=d) (k:=k) (y:=.row sz es') (x:=.row sz es') (m2:=fun _=>m' k) (m:=m') rfl];exact nU hr aS
theorem Con.borrowF{P:ajs}{f:FuncId}{args args':List AV}{H H':Hp}{r:AV}(k sz:Nat)(es:List AV)(hk:lk H k=none)(hk':lk H' k=none)(hl:args'.length=args.length)
  (p6:∀(j:Nat)(x':AV),args'[j]?=some x'->args[j]?=some x'\/args[j]?=some (x'.fz k sz es))
  (hr:r.sc=true) (hH':∀k' x,lk H' k'=some x->x.sc=true) (h:Con P f args H r H') :
  Con P f args' ((k,some (.row sz es))::H) r ((k,some (.row sz es))::H'):=by
 refine⟨h.ok,?_⟩;intro ext m w vs hext bX cM dl
 have mV:∀k' z,lk H k'=some z->lk ((k,some (.row sz es))::H) k'=some z:=by
  intro k' z hz;rw[aA];split
  ·rename_i e;rw[e,hk]at hz;cases hz
  ·exact hz
 have Gc:∀b,aO H m b->aO ((k,some (.row sz es))::H) m b:=fun b ⟨k',z,h1,h2⟩=>⟨k',z,mV k' z h1,h2⟩
 have cF:∀b cs,Im ext ((k,some (.row sz es))::H) m w b cs->Im ext H m w b cs:=fun b cs ⟨h1,h2,h3⟩=>⟨h1,fun h'=>h2 (Gc b h'),h3⟩
 have ac7:HeapRel ext H m w:=by
  refine⟨?_,?_,?_⟩
  ·intro k' z hz;exact BlkRep.mono (w:=w) cF (fun _ _ h=>h) (fun _ _ _ h=>h) rfl (fun _ _=>rfl) (bX.blk k' z (mV k' z hz))
  ·intro k1 k2 z z' b h1 h2;exact bX.inj k1 k2 z z' b (mV _ _ h1) (mV _ _ h2)
  ·intro k' z b hz;exact bX.sep k' z b (mV _ _ hz)
 have cp:lk ((k,some (Blk.row sz es))::H) k=some (.row sz es):=by rw[aA,ajg rfl]
 have mU:=bX.blk k _ cp
 have Ge:∀b,m k=some b->¬aO H m b:=by
  rintro b hb ⟨k',z,hz,hb'⟩;have:=bX.inj k k' _ _ b cp (mV _ _ hz) hb hb';subst this;rw[hk]at hz;cases hz
 have h1 := h.ret ext m w vs hext ac7 (by rw [cM, hl]) (by
  intro j v x hv hx
  have hj:j<args'.length:=by
   rw[hl];rcases aid j args.length with h |h
   ·exact h
   ·rw[aig h]at hx;cases hx
  have hx':=ah9 hj;have h2:=dl j v _ hv hx';rcases p6 j _ hx' with h3 |h5
  ·rw[hx]at h3;cases h3
   exact h2.mono cF (fun _ _ h=>h) (fun _ _ _ h=>h)
  ·rw[hx]at h5;cases h5
   have h6:=uZ (g:=Im ext H m w) (k:=k) (sz:=sz) (es:=es) (h2.mono cF (fun _ _ h=>h) (fun _ _ _ h=>h)) (by
    intro b hb;rw[hb]at mU;cases mU with
    | @row _ _ _ c t hw hn hl hs h1 hr =>
     exact⟨c,⟨(bX.sep k _ b cp hb).1,Ge b hb,t,_,hw⟩,hn,hl,hs,h1,fun i j e u x he hx hu=>(hr i j e u x he hx hu).mono cF (fun _ _ h=>h) (fun _ _ _ h=>h)⟩)
   exact h6)
 refine Calls.mono h1 ?_;rintro e w' ⟨v,m',rfl,hf,hh,hn,rQ,aS⟩
 have uD:∀k' z,lk ((k,some (Blk.row sz es))::H') k'=some z->(k'=k/\z=.row sz es)\/(k'≠k/\lk H' k'=some z):=by
  intro k' z hz;rw[aA]at hz;split at hz
  ·rename_i e;cases hz;exact .inl ⟨e,rfl⟩
  ·rename_i e;exact .inr ⟨e,hz⟩
 have xE:Frame (aO ((k,some (.row sz es))::H) m) w w':=⟨hf.os,hf.tape,hf.output,hf.size,hf.sz,fun b h1 h2=>hf.keep b h1 (fun h'=>h2 (Gc b h'))⟩
 have bm:∀k' x b,lk ((k,some (Blk.row sz es))::H') k'=some x->(if k'=k then m k else m' k')=some b->aO ((k,some (.row sz es))::H) m b\/w.heap.size<=b:=by
  intro k' x b hx hb;rcases uD k' x hx with⟨rfl,rfl⟩ |⟨h2,h3⟩
  ·rw[ajg rfl]at hb;exact .inl ⟨k',_,cp,hb⟩
  ·rw[ajf h2]at hb;rcases hn k' x b h3 hb with h4 |h4
   ·exact .inl (Gc b h4)
   ·exact .inr h4
 have ac8:=eO (ext:=ext) xE (hp':=(k,some (.row sz es))::H') (m':=fun k'=>if k'=k then m k else m' k') bm;refine⟨v,fun k'=>if k'=k then m k else m' k',rfl,xE,⟨?_,?_,?_⟩,bm,?_,D6 hr aS⟩
 ·intro k' z hz;rcases uD k' z hz with⟨rfl,rfl⟩ |⟨h2,h3⟩
  ·rw[ajg rfl];exact BlkRep.mono ac8 (fun b n h=>hf.sz b n h) (fun _ _ hn=>hn.elim) rfl (fun b hb=>hf.keep b (bX.sep k' _ b cp hb).2 (Ge b hb)) mU
  ·rw[ajf h2];exact X1 (hH' k' z h3) (hh.blk k' z h3)
 ·intro k1 k2 z z' b h1 h2 bh a8
  have key:∀k' z,k'≠k->lk H' k'=some z->m k=some b->m' k'=some b->False:=by
   intro k' z aF hz hb hb';rcases hn k' z b hz hb' with h4 |h4
   ·exact Ge b hb h4
   ·have:=(bX.sep k _ b cp hb).2;omega
  rcases uD k1 z h1 with⟨rfl,rfl⟩ |⟨h3,h4⟩ <;> rcases uD k2 z' h2 with⟨h5,rfl⟩ |⟨h5,h6⟩
  ·exact h5.symm
  ·rw[ajg rfl]at bh;rw[ajf h5]at a8
   exact(key k2 z' h5 h6 bh a8).elim
  ·rw[ajf h3]at bh;rw[ajg h5]at a8
   exact(key k1 z h3 h4 a8 bh).elim
  ·rw[ajf h3]at bh;rw[ajf h5]at a8
   exact hh.inj k1 k2 z z' b h4 h6 bh a8
 ·intro k' z b hz hb;rcases uD k' z hz with⟨rfl,rfl⟩ |⟨h2,h3⟩
  ·rw[ajg rfl]at hb;have:=bX.sep k' _ b cp hb;exact⟨this.1,aip this.2 hf.size⟩
  ·rw[ajf h2]at hb;exact hh.sep k' z b h3 hb
 ·intro k' x y hx hy;rcases uD k' y hy with⟨rfl,rfl⟩ |⟨h2,h3⟩
  ·exact ajg rfl
  ·have hx' : lk H k' = some x := by rw [aA, ajf h2] at hx; exact hx
   exact(ajf h2).trans (rQ k' x y hx' h3)
theorem Zx{k sz off len:Nat}{es:List AV}(h:off+len<=es.length):AV.fz k sz es (.ms k sz off len)=.lst sz ((es.drop off).take len):=by
 have e1:Nat.ble (off+len) es.length=true:=aec h;have e2:∀n,afe n n=true:=fun n=>aee n
 simp only[AV.fz,e1,e2,Bool.and_self]
theorem Con.borrow{P:ajs}{f:FuncId}{args args':List AV}{H H':Hp}{r:AV}(k sz:Nat)(es:List AV)(hk:lk H k=none)(hk':lk H' k=none)(hl:args'.length=args.length)
  (p6:∀(j:Nat)(x':AV),args'[j]?=some x'->args[j]?=some x'\/(∃off len,x'=.ms k sz off len/\off+len<=es.length/\args[j]?=some (.lst sz ((es.drop off).take len))))
  (hr:r.sc=true) (hH':∀k' x,lk H' k'=some x->x.sc=true) (h:Con P f args H r H') :
  Con P f args' ((k,some (.row sz es))::H) r ((k,some (.row sz es))::H') :=
 Con.borrowF k sz es hk hk' hl (fun j x' hj=>by
  rcases p6 j x' hj with h |⟨off,len,rfl,h1,h2⟩
  ·exact .inl h
  ·exact .inr (by rw[Zx h1];exact h2)) hr hH' h
theorem Con.freeze{P:ajs}{f:FuncId}{args:List AV}{k sz off len:Nat}{es:List AV}(hl:off+len<=es.length)
  (h:Con P f args [] (.ms k sz off len) [(k,some (.row sz es))]):jF P f args (.lst sz ((es.drop off).take len)):=by
 refine⟨h.ok,?_⟩;intro ext m w vs hext bX cM dl;refine Calls.mono (h.ret ext m w vs hext bX cM dl) ?_;rintro e w' ⟨v,m',rfl,hf,hh,hn,rQ,aS⟩;have cp:lk [(k,some (Blk.row sz es))] k=some (.row sz es):=by rw[aA,ajg rfl]
 have mU:=hh.blk k _ cp;have cF:∀b cs,Im ext [(k,some (.row sz es))] m' w' b cs->Im ext [] m' w' b cs:=fun b cs ⟨h1,h2,h3⟩=>⟨h1,(fun⟨_,_,h',_⟩=>by cases h'),h3⟩
 refine⟨v,m',rfl,hf,⟨(fun k z h=>by cases h),(fun k k' z z' b h=>by cases h),(fun k z b h=>by cases h)⟩,(fun k x b h=>by cases h),(fun k x y h=>by cases h),?_⟩
 have h6:=uZ (g:=Im ext [] m' w') (k:=k) (sz:=sz) (es:=es) (aS.mono cF (fun _ _ h=>h) (fun _ _ _ h=>h)) (by
  intro b hb;rw[hb]at mU;cases mU with
  | @row _ _ _ c t hw hn hl hs h1 hr =>
   exact⟨c,⟨(hh.sep k _ b cp hb).1,(fun⟨_,_,h',_⟩=>by cases h'),t,_,hw⟩,hn,hl,hs,h1,fun i j e u x he hx hu=>(hr i j e u x he hx hu).mono cF (fun _ _ h=>h) (fun _ _ _ h=>h)⟩)
 have h7:AV.fz k sz es (.ms k sz off len)=.lst sz ((es.drop off).take len):=by
  have e1:Nat.ble (off+len) es.length=true:=aec hl;have e2:∀n,afe n n=true:=fun n=>aee n
  simp only[AV.fz,e1,e2,Bool.and_self]
 rwa [h7]at h6
theorem Con.rekeyR{P:ajs}{f:FuncId}{k sz off len off' len':Nat}{xs es es':List AV}(d:Nat)(jP:(xs.all fun x=>x.nm.isEmpty)=true)
  (h:Con P f (.ms k sz off len::xs) [(k,some (.row sz es))] (.ms k sz off' len') [(k,some (.row sz es'))]) :
  Con P f (.ms d sz off len::xs) [(d,some (.row sz es))] (.ms d sz off' len') [(d,some (.row sz es'))]:=by
 refine⟨h.ok,?_⟩;intro ext m w vs hext bX cM dl
 have h1 := h.ret ext (fun _ => m d) w vs hext (sb (k := d) rfl bX) (by simpa using cM) (by
  intro j v x hv hx;rw[mM (d:=k) (k:=d) (y:=.row sz es) (x:=.row sz es) (m2:=fun _=>m d) (m:=m) rfl]
  match j,hx with
  |0,hx =>
   cases hx;have h2:=dl 0 v _ hv rfl;cases h2 with
   |ms0 a=>exact .ms0 a _ _ _
   |ms hm hc hS=>exact .ms hm hc hS
  |j+1,hx =>
   have h2:=dl (j+1) v x hv hx;refine nU ?_ h2;have:=aif.1 jP x (ah3 hx);simpa using this)
 refine Calls.mono h1 ?_;rintro e w' ⟨v,m',rfl,hf,hh,hn,hk,aS⟩
 have ho:aO [(k,some (Blk.row sz es))] (fun _=>m d)=aO [(d,some (Blk.row sz es))] m:=by
  funext b;apply propext;rw[mI,mI]
 refine⟨v,fun _=>m' k,rfl,ho▸hf,sb (k:=k) rfl hh,?_,?_,?_⟩
 ·intro k' x b hx hb;rw[<- ho];exact hn k _ b (by rw[aA,ajg rfl]) hb
 ·intro k' x y hx hy;obtain⟨rfl,_⟩:=ic hx;exact hk k _ _ (by rw[aA,ajg rfl]) (by rw[aA,ajg rfl])
 ·rw[mM (d:=d) (k:=k) (y:=.row sz es') (x:=.row sz es') (m2:=fun _=>m' k) (m:=m') rfl];cases aS with
  |ms0 a=>exact .ms0 a _ _ _
  |ms hm hc hS=>exact .ms hm hc hS
end Go.Lw
namespace Go.Lw
variable{P:ajs}{N:Nat}{R:Array Oper}{s:AS}{pos:String}{after:Array Edge}
theorem Step.weaken{o:Oper}{u u':Out}(h:Step P N R s o u)(am:∀s',gj s s' u'->gj s s' u)(iw:∀s',gj s s' u'->jz s' u)
  (hw:∀s',gj s s' u'->Wk (s'.app o.dst u) (s'.app o.dst u')):Step P N R s o u':=by
 refine⟨fun s' jm _ C m a w Q next hC hr hnext=>?_⟩
 exact h.run s' (am s' jm) (iw s' jm) C m a w Q next hC hr (fun m' a' w' hr'=>by
  obtain⟨m'',hr''⟩:=hw s' jm C m' a' w' hr';exact hnext m'' a' w' hr'')
theorem pz{d f k sz:Nat}{es:List AV}{args:Array ajp}{ts:Array ajr}{xs:List AV}{r:AV}{t:ajr}
  (cG:Con P f xs [(k,some (.row sz es))] r [(k,some (.row sz es))]) (ha:EvL s args.toList xs) (hk:s.blk k=some (.row sz es)) (bc:fU s [(k,some (.row sz es))] [(k,some (.row sz es))] r=true) (hN:aek d N=true) :
  Step P N R s ⟨some d,.call ⟨.value (.func f),args,ts⟩,t,pos,after,none⟩ ⟨some r,[],cA args.toList,[k]⟩:=by
 refine Step.weaken (br (d:=d) cG ha (fun k' z h=>by
  obtain⟨rfl,h9⟩:=ic h;cases h9;exact hk) bc hN) (fun s' h=>h) (fun s' h k' hk'=>?_) (fun s' h=>?_)
 ·left;simp only[ai4,cz,ajd,List.map_nil,aia,aiq,aim,or_false]at hk' ⊢;rcases hk' with h9 |h9 <;> exact h9
 ·intro C m a w hr;refine⟨m,hr.weak (fun t x hx=>⟨x,hx,.refl _⟩) (fun k' x hx=>⟨x,?_,.refl _⟩)⟩;have hb:lk s'.hp k=some (.row sz es):=(h.2 k (afr.2 rfl)).trans hk;show lk ([(k,some (.row sz es))]++cz [(k,some (.row sz es))]++s'.hp) k'=some x;have hx':lk s'.hp k'=some x:=hx;simp only[cz,ajd,List.map_nil,agj,nil_append,aA]
  by_cases e:k'=k
  ·rw[ajg e];rw[e,hb]at hx';exact hx'
  ·rw[ajf e,ajf e];exact hx'
theorem Con.rekey1{P:ajs}{f:FuncId}{k sz off len:Nat}{xs es es':List AV}{y r:AV}(d:Nat)(hy:y.nm=[])(jP:(xs.all fun x=>x.nm.isEmpty)=true)(hr:r.nm=[])
  (h:Con P f (y :: .ms k sz off len::xs) [(k,some (.row sz es))] r [(k,some (.row sz es'))]):Con P f (y :: .ms d sz off len::xs) [(d,some (.row sz es))] r [(d,some (.row sz es'))]:=by
 refine⟨h.ok,?_⟩;intro ext m w vs hext bX cM dl
 have h1 := h.ret ext (fun _ => m d) w vs hext (sb (k := d) rfl bX) (by simpa using cM) (by
  intro j v x hv hx;rw[mM (d:=k) (k:=d) (y:=.row sz es) (x:=.row sz es) (m2:=fun _=>m d) (m:=m) rfl]
  match j,hx with
  |0,hx =>
   cases hx;exact nU hy (dl 0 v _ hv rfl)
  |1,hx =>
   cases hx;have h2:=dl 1 v _ hv rfl;cases h2 with
   |ms0 a=>exact .ms0 a _ _ _
   |ms hm hc hS=>exact .ms hm hc hS
  |j+2,hx =>
   have h2:=dl (j+2) v x hv hx;refine nU ?_ h2;have:=aif.1 jP x (ah3 hx);simpa using this)
 refine Calls.mono h1 ?_;rintro e w' ⟨v,m',rfl,hf,hh,hn,hk,aS⟩
 have ho:aO [(k,some (Blk.row sz es))] (fun _=>m d)=aO [(d,some (Blk.row sz es))] m:=by
  funext b;apply propext;rw[mI,mI]
 refine⟨v,fun _=>m' k,rfl,ho▸hf,sb (k:=k) rfl hh,?_,?_,?_⟩
 ·intro k' x b hx hb;rw[<- ho];exact hn k _ b (by rw[aA,ajg rfl]) hb
 ·intro k' x y hx hy;obtain⟨rfl,_⟩:=ic hx;exact hk k _ _ (by rw[aA,ajg rfl]) (by rw[aA,ajg rfl])
 ·rw[mM (d:=d) (k:=k) (y:=.row sz es') (x:=.row sz es') (m2:=fun _=>m' k) (m:=m') rfl];exact nU hr aS
end Go.Lw
namespace Go.Lw
variable{P:ajs}{N:Nat}{Q:Exit->AS->Prop}
inductive TyT where
  |lf
  |nd (l:TyT) (k:Nat) (t:TI) (r:TyT)
def TyT.get:TyT->Nat->Option TI
  | .lf,_=>none
  | .nd l k t r,n=>match afe n k with
    |true=>some t
    |false=>match aek n k with
      |true=>l.get n
      |false=>r.get n
inductive TyT.Ok(P:ajs):TyT->Prop
  |lf:TyT.Ok P .lf
  |nd {l r:TyT} {k:Nat} {t:TI} (hl:TyT.Ok P l) (h:aq P k=some t) (hr:TyT.Ok P r):TyT.Ok P (.nd l k t r)
theorem TyT.Ok.get{T:TyT}(h:T.Ok P){n:Nat}{t:TI}(hg:T.get n=some t):aq P n=some t:=by
 induction h with
 |lf=>cases hg
 |nd _ h _ ihl ihr =>
  unfold TyT.get at hg;split at hg
  ·rename_i hb;rw[ah5 hb,h];exact hg
  ·split at hg
   ·exact ihl hg
   ·exact ihr hg
structure Tys(P:ajs) where
  tab:TyT
  ok:tab.Ok P
  mix:P.follows .mixedOrders=true
def bS(P:ajs)[Inhabited (Tys P)](n:Nat):Option TI:=(default:Tys P).tab.get n
theorem bA[Inhabited (Tys P)]{n:Nat}{t:TI}(h:bS P n=some t):aq P n=some t:=(default:Tys P).ok.get h
inductive AllP:List Prop->Prop
  |nil:AllP []
  |cons {p:Prop} {l:List Prop} (h:p) (hl:AllP l):AllP (p::l)
theorem AllP.app{a b:List Prop}(h:AllP (a++b)):AllP a/\AllP b:=by
 induction a with
 |nil=>exact⟨.nil,h⟩
 |cons p a ih =>
  cases h with |cons h hl=>exact⟨.cons h (ih hl).1,(ih hl).2⟩
def AV.optB:AV->Option (Bool×AV)
  | .opt b x=>some (b,x)
  |_=>none
theorem AV.optB_some{x y:AV}{b:Bool}(h:x.optB=some (b,y)):x=.opt b y:=by cases x <;> simp_all [AV.optB]
def dt(g:Bool)(G:Prop)(s:AS):ajp->Option (AV×List Prop)
  | .tmp t=>match s.get t with
    |some x=>match g with
      |true=>match x.optB with
        |some (b,y)=>some (y,[G->b=true])
        |none=>some (x,[])
      |false=>some (x,[])
    |none=>none
  | .const c=>some (.v c,[])
  | .func f=>some (.v (.func (.func f) #[] #[]),[])
  | .global _=>none
theorem dV{g:Bool}{G:Prop}{s:AS}{o:ajp}{x:AV}{ob:List Prop}(h:dt g G s o=some (x,ob))(ho:AllP ob)(hG:G):Ev s o x:=by
 cases o with
 |tmp t =>
  simp only[dt]at h;split at h
  ·rename_i y hy;split at h
   ·split at h
    ·rename_i b z hz;cases h;cases ho with
     |cons h1 _=>exact .opt (by rw[hy,AV.optB_some hz]) (h1 hG)
    ·cases h;exact .tmp hy
   ·cases h;exact .tmp hy
  ·cases h
 |const c=>cases h;exact .const c
 |func f=>cases h;exact .func f
 |global n=>cases h
def iJ:List AV->Option (List AV)
  |[]=>some []
  |x::l=>match iJ l with
    |some r=>some (x::r)
    |none=>none
theorem jH:∀{l r:List AV},iJ l=some r->r=l
 |[],r,h=>by cases h;rfl
 |x::l,r,h=>by
  unfold iJ at h;split at h
  ·rename_i r' hr;cases h;rw[jH hr]
  ·cases h
def pv(g:Bool)(G:Prop)(s:AS):List ajp->Option (List AV×List Prop)
  |[]=>some ([],[])
  |o::os=>match dt g G s o with
    |some (x,a)=>match pv g G s os with
      |some (xs,b)=>some (x::xs,a++b)
      |none=>none
    |none=>none
theorem sN{g:Bool}{G:Prop}{s:AS}(hG:G):∀{os:List ajp}{xs:List AV}{ob:List Prop},pv g G s os=some (xs,ob)->AllP ob->EvL s os xs
 |[],xs,ob,h,ho=>by cases h;exact .nil
 |o::os,xs,ob,h,ho=>by
  unfold pv at h;split at h
  ·rename_i x a h1;split at h
   ·rename_i ys b h2;cases h;exact .cons (dV h1 ho.app.1 hG) (sN hG h2 ho.app.2)
   ·cases h
  ·cases h
def zX(g:Bool)(G:Prop)(s:AS):List (Nat×ajp)->Option (List (Nat×AV)×List Prop)
  |[]=>some ([],[])
  |p::os=>match dt g G s p.2 with
    |some (x,a)=>match zX g G s os with
      |some (xs,b)=>some ((p.1,x)::xs,a++b)
      |none=>none
    |none=>none
theorem OB{g:Bool}{G:Prop}{s:AS}(hG:G):∀{os:List (Nat×ajp)}{xs:List (Nat×AV)}{ob:List Prop},zX g G s os=some (xs,ob)->AllP ob->EvP s os xs
 |[],xs,ob,h,ho=>by cases h;exact .nil
 |p::os,xs,ob,h,ho=>by
  unfold zX at h;split at h
  ·rename_i x a h1;split at h
   ·rename_i ys b h2;cases h;exact .cons (dV h1 ho.app.1 hG) (OB hG h2 ho.app.2)
   ·cases h
  ·cases h
structure R1 where
  x:AV
  rt:List Nat
  rd:List Nat
  ob:List Prop
def d7:IntKind->Nat
  | .i8=>0 | .i16=>1 | .i32=>2 | .i64=>3 | .u8=>4 | .u16=>5 | .u32=>6 | .u64=>7
theorem nE{a b:IntKind}(h:afe (d7 a) (d7 b)=true):a=b:=by cases a <;> cases b <;> first |rfl |(exact ajm h (by decide))
def zg:BinOp->Bool
  | .eql | .neq | .lss | .leq | .gtr | .geq=>true
  |_=>false
def xl(ti:TI)(l:List AV):Option AV:=match ti.ag with
  |true=>match iJ (l.take ti.size)with
    |some r=>some (.agg r)
    |none=>none
  |false=>match afe ti.size 1,l with
    |true,x::_=>some x
    |_,_=>none
theorem EP{ti:TI}{l:List AV}{x:AV}(h:xl ti l=some x):(ti.ag||afe ti.size 1)=true/\x=kc ti.ag (l.take ti.size):=by
 unfold xl at h;split at h
 ·rename_i ha;split at h
  ·rename_i r hr;cases h;rw[ha,jH hr];exact⟨rfl,rfl⟩
  ·cases h
 ·rename_i ha;split at h
  ·rename_i h1;cases h
   rw[ha,ah5 h1];exact⟨rfl,rfl⟩
  ·cases h
section
variable{s:AS}{R:Array Oper}{d:Nat}{t T:ajr}{pos:String}{after:Array Edge}{r:R1}
def wl(ti:TI)(x:ajp)(f:Nat)(ob:List Prop)(y:AV):Option R1:=match ti.k with
  | .struct=>match ti.fs[f]? with
    |some (o,n)=>match aek 0 n with
      |true=>match y with
        | .ptr k off=>some ⟨.ptr k (off+o),ai x,[],ob⟩
        | .eptr k sz i off=>some ⟨.eptr k sz i (off+o),ai x,[],ob⟩
        | .iptr xs=>some ⟨.iptr (xs.drop o),ai x,[],ob⟩
        |_=>none
      |false=>none
    |none=>none
  |_=>none
theorem abm{x:ajp}{y:AV}{f:Nat}{ti:TI}{ob:List Prop}(hx:Ev s x y)(hT:aq P T=some ti)(h:wl ti x f ob y=some r)(hN:aek d N=true) :
  Step P N R s ⟨some d,.fieldAddr T x f,t,pos,after,none⟩ ⟨some r.x,[],r.rt,r.rd⟩:=by
 unfold wl at h;split at h
 ·rename_i hk;split at h
  ·rename_i o n hf;split at h
   ·rename_i hn;split at h
    ·cases h;exact YG hx hT hk hf hn hN
    ·cases h;exact UI hx hT hk hf hn hN
    ·cases h;exact aaq hx hT hk hf hn hN
    ·cases h
   ·cases h
  ·cases h
 ·cases h
theorem ZB{x:ajp}{y:AV}{f:Nat}{ti:TI}{ob:List Prop}(h:wl ti x f ob y=some r):r.ob=ob:=by
 unfold wl at h
 repeat' split at h
 all_goals first |(cases h;rfl) |cases h
end
variable[Inhabited (Tys P)]
def sH(P:ajs)[Inhabited (Tys P)](s:AS)(ti:TI)(x:ajp)(ob:List Prop):AV->Option R1
  | .ptr k off=>match s.blk k with
    |some (.box cs)=>match Nat.ble (off+ti.size) cs.length with
      |true=>match xl ti (cs.drop off)with
        |some v=>some ⟨v,ai x,[k],ob⟩
        |none=>none
      |false=>none
    |_=>none
  | .iptr xs=>match aek 0 ti.size&&Nat.ble ti.size xs.length with
    |true=>match xl ti xs with
      |some v=>some ⟨v,ai x,[],ob⟩
      |none=>none
    |false=>none
  |_=>none
def DE:ajq->Prop:=fun v=>v=.nilIface\/∃T u,v=.iface T u
def sW(P:ajs)[Inhabited (Tys P)](op:BinOp)(S:ajr)(x y:ajp)(ob:List Prop)(vx vy:ajq):Option R1:=match vy with
  | .int k b=>match vx with
    | .int k' a=>match zg op&&afe (d7 k) (d7 k')with
      |true=>some ⟨.v (.bool (aa op a b)),ai x++ai y,[],ob⟩
      |false=>none
    |_=>none
  | .string b=>match vx with
    | .string a=>match op with
      | .eql=>some ⟨.v (.bool (a.toList==b.toList)),ai x++ai y,[],ob⟩
      | .neq=>some ⟨.v (.bool !(a.toList==b.toList)),ai x++ai y,[],ob⟩
      |_=>none
    |_=>none
  | .bool b=>match vx with
    | .bool a=>match bS P S with
      |some ti=>match ti.k with
        | .bool=>match op with
          | .eql=>some ⟨.v (.bool (a==b)),ai x++ai y,[],ob⟩
          | .neq=>some ⟨.v (.bool (a != b)),ai x++ai y,[],ob⟩
          |_=>none
        |_=>none
      |none=>none
    |_=>none
  | .nilIface=>match y with
    | .const _=>match bS P S with
      |some ti=>match ti.k with
        | .iface _=>match op with
          | .eql=>some ⟨.v (.bool (eI vx)),ai x++[],[],DE vx::ob⟩
          | .neq=>some ⟨.v (.bool !(eI vx)),ai x++[],[],DE vx::ob⟩
          |_=>none
        |_=>none
      |none=>none
    |_=>none
  |_=>none
def uz(P:ajs)[Inhabited (Tys P)](x:ajp)(T:ajr)(ob:List Prop)(y:AV):Option R1:=match bS P T with
  |some ti=>match ti.k with
    | .slice _=>match y with
      | .ms _ _ _ len=>some ⟨.v (.int .i64 len),ai x,[],ob⟩
      | .v (.slice _ n _)=>some ⟨.v (.int .i64 n),ai x,[],ob⟩
      |_=>none
    | .string=>match y with
      | .v (.string b)=>some ⟨.v (.int .i64 b.size),ai x,[],ob⟩
      |_=>none
    |_=>none
  |none=>none
def Ky:TK->Bool
  | .int _ | .struct | .pointer _ | .string=>true
  |_=>false
def wS:Nat->List (Nat×ajp)->Bool
  |_,[]=>true
  |n,p::l=>afe p.1 n&&wS (n+1) l
theorem BP:∀{l:List (Nat×ajp)}{n:Nat},wS n l=true->l=kP n (l.map (·.2))
 |[],n,_=>rfl
 |(i,o)::l,n,h=>by
  simp only[wS,ah7]at h;have h1:=ah5 h.1;subst h1;simp only[ajd,kP];rw[<- BP h.2]
def Ap{α:Type}:List α->Bool
  |[]=>true
  |_=>false
theorem Ig{α:Type}{l:List α}(h:Ap l=true):l=[]:=by cases l <;> simp_all [Ap]
def pG(g:Bool)(G:Prop)(b w:Bool):Prop:=match g with
  |true=>G/\b=w
  |false=>b=w
theorem HH{g:Bool}{G:Prop}{b w:Bool}(hG:G)(h:b=w):pG g G b w:=by cases g <;> first |exact h |exact⟨hG,h⟩
def vQ(P:ajs)[Inhabited (Tys P)](g:Bool)(G:Prop)(s:AS):Op->Option R1
  | .move x=>match dt g G s x with
    |some (v,ob)=>some ⟨v,ai x,[],ob⟩
    |none=>none
  | .assign x=>match dt g G s x with
    |some (v,ob)=>some ⟨v,ai x,[],ob⟩
    |none=>none
  | .load T x=>match dt g G s x with
    |some (v,ob)=>match bS P T with
      |some ti=>sH P s ti x ob v
      |none=>none
    |none=>none
  | .fieldAddr T x f=>match dt g G s x with
    |some (v,ob)=>match bS P T with
      |some ti=>wl ti x f ob v
      |none=>none
    |none=>none
  | .extract x i=>match dt g G s x with
    |some (.tup xs,ob)=>match xs[i]? with
      |some y=>some ⟨y,ai x,[],ob⟩
      |none=>none
    |_=>none
  | .unOp .not _ x=>match dt g G s x with
    |some (.v (.bool b),ob)=>some ⟨.v (.bool !b),ai x,[],ob⟩
    |_=>none
  | .binOp op S x y _=>match dt g G s y with
    |some (.v vy,ob)=>match dt g G s x with
      |some (.v vx,ob')=>sW P op S x y (ob'++ob) vx vy
      |_=>none
    |_=>none
  | .makeInterface T x=>match dt g G s x with
    |some (.v v,ob)=>match bS P T with
      |some ti=>match Ky ti.k with
        |true=>some ⟨.v (.iface T v),ai x,[],ob⟩
        |false=>none
      |none=>none
    |_=>none
  | .nilCheck x=>match dt g G s x with
    |some (.ptr k off,ob)=>some ⟨.ptr k off,ai x,[],ob⟩
    |some (.iptr xs,ob)=>some ⟨.iptr xs,ai x,[],ob⟩
    |_=>none
  | .makeFunc (.func f) first caps=>match first.toList with
    |[]=>match pv g G s caps.toList with
      |some (xs,ob)=>some ⟨.fn f xs,cA caps.toList,[],ob⟩
      |none=>none
    |_=>match caps.toList with
      |[]=>match pv g G s first.toList with
        |some (xs,ob)=>match xs.all fun x=>x.nm.isEmpty with
          |true=>some ⟨.cl f xs [],cA first.toList,[],ob⟩
          |false=>none
        |none=>none
      |_=>none
  | .build T parts=>match bS P T with
    |some ti=>match ti.k with
      | .struct=>match ti.zero.all Value.oneCell'&&ti.fs.all fun p=>aek 0 p.2 with
        |true=>match zX g G s parts.toList with
          |some (xs,ob)=>match wW (fun i=>ti.fs[i]?) (ti.zero.map .v) xs with
            |some l=>match iJ l with
              |some l=>some ⟨.agg l,sO parts.toList,[],ob⟩
              |none=>none
            |none=>none
          |none=>none
        |false=>none
      |_=>none
    |none=>none
  | .buildSlice T n parts=>match n with
    |0=>none
    |n+1=>match bS P T with
      |some ti=>match ti.k with
        | .slice E=>match bS P E with
          |some te=>match pv g G s (parts.toList.map (·.2))with
            |some (es,ob)=>match wS 0 parts.toList&&te.zero.all Value.oneCell'&&afe te.zero.length te.size&&(es.all fun e=>afe e.cells.length te.size&&e.ok) &&
                Ap (AV.nms es)&&afe (n+1) es.length&&Nat.ble ((n+1)*te.size) 16777216&&Nat.ble (n+1) 16777216 with
              |true=>some ⟨.lst te.size es,cA (parts.toList.map (·.2)),[],ob⟩
              |false=>none
            |none=>none
          |none=>none
        |_=>none
      |none=>none
  | .pick c x y=>match dt g G s c with
    |some (.v (.bool b),ob)=>match dt true (pG g G b true) s x with
      |some (.v (.bool bx),ob')=>match dt true (pG g G b false) s y with
        |some (.v (.bool bz),ob'')=>some ⟨.v (.bool (cond b bx bz)),ai c++(ai x++ai y),[],ob++(ob'++ob'')⟩
        |_=>none
      |_=>none
    |_=>none
  | .call ⟨.builtin .len,args,ts⟩=>match args.toList with
    |[x]=>match ts.toList with
      |[T]=>match dt g G s x with
        |some (y,ob)=>uz P x T ob y
        |none=>none
      |_=>none
    |_=>none
  |_=>none
section
variable{g:Bool}{G:Prop}{s:AS}{R:Array Oper}{d:Nat}{t T:ajr}{pos:String}{after:Array Edge}{r:R1}
theorem M3{x:ajp}{y:AV}{ti:TI}{ob:List Prop}(hx:Ev s x y)(hT:aq P T=some ti)(h:sH P s ti x ob y=some r)(hN:aek d N=true) :
  Step P N R s ⟨some d,.load T x,t,pos,after,none⟩ ⟨some r.x,[],r.rt,r.rd⟩:=by
 unfold sH at h;split at h
 ·split at h
  ·split at h
   ·split at h
    ·cases h;rename_i hk _ h1 _ v hv;obtain⟨h2,rfl⟩:=EP hv;exact WV hx hk hT h1 h2 hN
    ·cases h
   ·cases h
  ·cases h
 ·split at h
  ·split at h
   ·cases h;rename_i h1 _ v hv;obtain⟨h2,rfl⟩:=EP hv;exact Zy hx hT h1 h2 hN
   ·cases h
  ·cases h
 ·cases h
theorem MQ{op:BinOp}{x y:ajp}{vx vy:ajq}{S:ajr}{ob:List Prop}(hx:Ev s x (.v vx))(hy:Ev s y (.v vy))(h:sW P op S x y ob vx vy=some r)(ho:AllP r.ob)
  (hN:aek d N=true):Step P N R s ⟨some d,.binOp op S x y T,t,pos,after,none⟩ ⟨some r.x,[],r.rt,r.rd⟩:=by
 unfold sW at h;split at h
 ·split at h
  ·split at h
   ·rename_i hc;cases h
    simp only[ah7]at hc;cases nE hc.2;exact IM hx hy (by have:=hc.1;cases op <;> simp_all [zg]) hN
   ·cases h
  ·cases h
 ·split at h
  ·split at h
   ·cases h;exact Mz hx hy hN
   ·cases h;exact NN hx hy hN
   ·cases h
  ·cases h
 ·split at h
  ·split at h
   ·rename_i ti bR;split at h
    ·rename_i hk;split at h
     ·cases h;exact UT hx hy (bA bR) hk hN
     ·cases h;exact Xy hx hy (bA bR) hk hN
     ·cases h
    ·cases h
   ·cases h
  ·cases h
 ·split at h
  ·rename_i c;have hc:c = .nilIface:=by cases hy; rfl
   subst hc;split at h
   ·rename_i ti bR;split at h
    ·rename_i hk;split at h
     ·cases h;cases ho with |cons h1 _=>exact HG hx h1 (bA bR) hk hN
     ·cases h;cases ho with |cons h1 _=>exact G2 hx h1 (bA bR) hk hN
     ·cases h
    ·cases h
   ·cases h
  ·cases h
 ·cases h
theorem Tm{op:BinOp}{x y:ajp}{vx vy:ajq}{S:ajr}{ob:List Prop}(h:sW P op S x y ob vx vy=some r)(ho:AllP r.ob):AllP ob:=by
 unfold sW at h
 repeat' split at h
 all_goals first |(cases h;exact ho) |(cases h;cases ho;assumption) |cases h
theorem OK{x:ajp}{y:AV}{ob:List Prop}(hx:Ev s x y)(h:uz P x T ob y=some r)(hN:aek d N=true) :
  Step P N R s ⟨some d,.call ⟨.builtin .len,#[x],#[T]⟩,t,pos,after,none⟩ ⟨some r.x,[],r.rt,r.rd⟩:=by
 unfold uz at h;split at h
 ·rename_i ti bR;have bR:=bA bR;split at h
  ·rename_i hk;split at h
   ·cases h;exact TJ hx bR hk hN
   ·cases h;exact U2 hx bR hk hN
   ·cases h
  ·rename_i hk;split at h
   ·cases h;exact Ru hx bR hk hN
   ·cases h
  ·cases h
 ·cases h
theorem TP{x:ajp}{y:AV}{ti:TI}{ob:List Prop}(h:sH P s ti x ob y=some r):r.ob=ob:=by
 unfold sH at h
 repeat' split at h
 all_goals first |(cases h;rfl) |cases h
theorem Xl{x:ajp}{y:AV}{ob:List Prop}(h:uz P x T ob y=some r):r.ob=ob:=by
 unfold uz at h
 repeat' split at h
 all_goals first |(cases h;rfl) |cases h
theorem Ay{op:Op}(h:vQ P g G s op=some r)(ho:AllP r.ob)(hG:G)(hN:aek d N=true):Step P N R s ⟨some d,op,t,pos,after,none⟩ ⟨some r.x,[],r.rt,r.rd⟩:=by
 unfold vQ at h;split at h
 ·split at h
  ·rename_i h1;cases h;exact Uc (dV h1 ho hG) hN
  ·cases h
 ·split at h
  ·rename_i h1;cases h;exact Ss (dV h1 ho hG) hN
  ·cases h
 ·split at h
  ·rename_i h1;split at h
   ·rename_i ti bR;rw[TP h]at ho;exact M3 (dV h1 ho hG) (bA bR) h hN
   ·cases h
  ·cases h
 ·split at h
  ·rename_i h1;split at h
   ·rename_i ti bR;rw[ZB h]at ho;exact abm (dV h1 ho hG) (bA bR) h hN
   ·cases h
  ·cases h
 ·split at h
  ·rename_i h1;split at h
   ·rename_i hy;cases h;exact VW (dV h1 ho hG) hy hN
   ·cases h
  ·cases h
 ·split at h
  ·rename_i h1;cases h;exact ZG (dV h1 ho hG) hN
  ·cases h
 ·split at h
  ·rename_i h1;split at h
   ·rename_i h2;have:=(Tm h ho).app;exact MQ (dV h2 this.1 hG) (dV h1 this.2 hG) h ho hN
   ·cases h
  ·cases h
 ·split at h
  ·rename_i h1;split at h
   ·rename_i ti bR;split at h
    ·rename_i hk;cases h
     exact V7 (dV h1 ho hG) hN (bA bR) (by
      generalize ti.k=k at hk;cases k <;> simp_all [Ky])
    ·cases h
   ·cases h
  ·cases h
 ·split at h
  ·rename_i h1;cases h;exact U8 (dV h1 ho hG) hN
  ·rename_i h1;cases h;exact Xq (dV h1 ho hG) hN
  ·cases h
 ·rename_i f first caps
  split at h
  ·rename_i hf;have:first = #[]:=by apply ahl.1; simpa using hf
   subst this;split at h
   ·rename_i h1;cases h;exact W6 (sN hG h1 ho) hN
   ·cases h
  ·split at h
   ·rename_i hf;have:caps = #[]:=by apply ahl.1; simpa using hf
    subst this;split at h
    ·rename_i h1;split at h
     ·rename_i h2;cases h;exact QZ (sN hG h1 ho) h2 hN
     ·cases h
    ·cases h
   ·cases h
 ·split at h
  ·rename_i ti bR;split at h
   ·rename_i hk;split at h
    ·rename_i hz;simp only[ah7]at hz;split at h
     ·rename_i h1;split at h
      ·rename_i hl;split at h
       ·rename_i hr;cases h;exact SK (OB hG h1 ho) (bA bR) hk hz.1 hz.2 (by rw[hl,jH hr]) hN
       ·cases h
      ·cases h
     ·cases h
    ·cases h
   ·cases h
  ·cases h
 ·rename_i T n parts;split at h
  ·cases h
  ·rename_i n;split at h
   ·rename_i ti bR;split at h
    ·rename_i E hk;split at h
     ·rename_i te xF;split at h
      ·rename_i es ob h1;split at h
       ·rename_i hc;cases h;simp only[ah7]at hc;obtain⟨⟨⟨⟨⟨⟨⟨c1,c2⟩,c3⟩,c4⟩,c5⟩,c6⟩,c7⟩,c8⟩:=hc;exact US (by rw[<- BP c1]) (sN hG h1 ho) (bA bR) hk (bA xF) c2 c3 (by simpa only[ah7]using c4) (Ig c5) (ah5 c6) c7 c8 hN
       ·cases h
      ·cases h
     ·cases h
    ·cases h
   ·cases h
 ·split at h
  ·rename_i h1;split at h
   ·rename_i h2;split at h
    ·rename_i h3;cases h;have hp:=ho.app;have hq:=hp.2.app;exact B9 (dV h1 hp.1 hG) (fun hb=>dV h2 hq.1 (HH hG hb)) (fun hb=>dV h3 hq.2 (HH hG hb)) hN
    ·cases h
   ·cases h
  ·cases h
 ·rename_i args ts;split at h
  ·rename_i x hx;split at h
   ·rename_i T hT;have e1:args = #[x]:=by apply ahl.1; simpa using hx
    have e2:ts=#[T]:=by apply ahl.1;simpa using hT
    subst e1;subst e2
    split at h
    ·rename_i h1;rw[Xl h]at ho;exact OK (dV h1 ho hG) h hN
    ·cases h
   ·cases h
  ·cases h
 ·cases h
end
end Go.Lw
namespace Go.Lw
variable{P:ajs}{N:Nat}{R:Array Oper}{s:AS}{pos:String}{after:Array Edge}{Q:Exit->AS->Prop}
theorem Xn{ρ:ajp->ajq}{o:Oper}{g:ajp}{l:Nat}{args:Array ajp}{ts:Array ajr}(ho:o.op=.call ⟨.value g,args,ts⟩)
  (hρ:ρ g=.func (.yield l) #[] #[]):(execOp ρ o).run P=(Instr.yield l (args.map ρ)).run P:=by
 obtain⟨dst,op,type,pos,after,guard⟩:=o;subst ho;funext w;simp[execOp,resolve,hρ,Deferred.ofValue,invoke]
def tJ(P:ajs)(vs:Array ajq)(w:ajt)(R:Ending->ajt->Prop):Prop :=
  ∃l f ts x y,vs[0]?=some (.func (.yield l) #[] #[])/\(Instr.yield l (vs.toList.drop 1).toArray).run P w=.ok (.round l f ts x y) w/\∀ro n,RoundIn (Fw ro) n P l f ts x y w R
theorem tJ.mono{vs:Array ajq}{w:ajt}{R R':Ending->ajt->Prop}(h:tJ P vs w R)(hr:∀e w',R e w'->R' e w'):tJ P vs w R':=by
 obtain⟨l,f,ts,x,y,h1,h2,h3⟩:=h;exact⟨l,f,ts,x,y,h1,h2,fun ro n=>(h3 ro n).mono hr⟩
def yG(P:ajs)(k:Nat)(xs:List AV)(H:Hp)(r:AV)(H':Hp):Prop:=D7 (tJ P) (.yl k::xs) H r H'
theorem XY{d:Nat}{g:ajp}{k:Nat}{args:Array ajp}{ts:Array ajr}{xs:List AV}{H H':Hp}{r:AV}{t:ajr}
  (hg:Ev s g (.yl k)) (cG:yG P k xs H r H') (ha:EvL s args.toList xs) (hH:∀k z,lk H k=some z->s.blk k=some z) (bc:fU s H H' r=true) (hN:aek d N=true) :
  Step P N R s ⟨some d,.call ⟨.value g,args,ts⟩,t,pos,after,none⟩ ⟨some r,H'++cz H,ai g++cA args.toList,H.map (·.1)⟩:=by
 refine⟨fun s' am bm C m a w Q next hC hr hnext=>?_⟩;rw[ajg (nk rfl _)];intro ro n;have jm:gj s s' ⟨none,[],ai g++cA args.toList,[]⟩:=⟨am.1,fun k hk=>by cases hk⟩
 have ha':=ha.agree jm (fun _ h=>aia.2 (.inr h));have gS:=(hg.agree jm (fun _ h=>aia.2 (.inl h))).rep hr
 have da:∃l,a.eval g=.func (.yield l) #[] #[]:=by
  generalize a.eval g=u at gS;cases gS;exact⟨_,rfl⟩
 obtain⟨l,da⟩:=da;rw[Xn rfl da];simp only[fU,ah7,aif]at bc;obtain⟨rS,xy⟩:=bc
 have hc := hr.called (run := tJ P) (fun _ _ _ _ h h' => tJ.mono h h') cG (vs := #[Value.func (.yield l) #[] #[]] ++ args.map a.eval) (by have := ha'.length; simp at this ⊢; omega) (by
   intro j v x hv hx;cases j with
   |zero =>
    cases hx;rw[aho,ajg (by show 0<1;omega)]at hv;cases hv;rw[<- da];exact gS
   |succ j =>
    refine ha'.rep hr j v x ?_ (by simpa using hx);rw[aho,ajf (by show ¬j+1<1;omega)]at hv;have h9:(Array.map a.eval args)[j]?=some v:=hv;simpa using h9)
  (fun k z hz=>by rw[<- hH k z hz];exact am.2 k (jW hz)) (by
  intro k z hz;rcases bm k (by simp only[ai4,aia];exact .inl (jW hz))with h |h
  ·obtain⟨p,hp,rfl⟩:=af0.1 h;exact .inl (iQ.1 (rS p hp))
  ·exact .inr h) (by
  intro k hk;obtain⟨p,hp,rfl⟩:=af0.1 hk;exact rS p hp) xy
 obtain⟨l',f,ts',x,y,h1,h2,h3⟩:=hc
 have hl:l'=l:=by
  rw[aho,ajg (by show 0<1;omega)]at h1;cases h1;rfl
 subst hl;have e1:((#[Value.func (.yield l') #[] #[]]++args.map a.eval).toList.drop 1).toArray=args.map a.eval:=by simp;rw[<- Array.toList_map,Array.toArray_toList]
 rw[e1]at h2;rw[h2];refine⟨(fun h=>by cases h),(h3 ro (n-1)).mono ?_⟩;rintro e w' ⟨v,m'',rfl,hr',aS,_⟩;rw[ad5]at hN;have:=hr'.put d v (some r) (fun z hz=>by cases hz;exact⟨by have:=hr'.nt;omega,aS⟩);exact hnext m'' _ _ (by simpa[AS.app,Act.put]using this)
theorem LP{d j g:Nat}{op:Op}{t:ajr}{want b:Bool}{x:AV}{upd:Hp}{rt rd:List Nat}
  (hj:(R[j]?).bind (·.dst)=some g) (hb:s.get g=some (.v (.bool b))) (hN:aek d N=true)
  (iw:b≠want->∀k∈upd.map (·.1),k∈rd/\lk upd k=s.blk k)
  (h:b=want->Step P N R s ⟨some d,op,t,pos,after,none⟩ ⟨some x,upd,rt,rd⟩) :
  Step P N R s ⟨some d,op,t,pos,after,some (j,want)⟩ ⟨some (.opt (b==want) x),upd,g::rt,rd⟩:=by
 refine⟨fun s' am bm C m a w Q next hC hr hnext=>?_⟩;have hg:=hr.slots g _ ((am.1 g (by simp)).trans hb)
 have oh:a.tmps[g]?=some (.bool b):=by
  obtain⟨h1,h2⟩:=hg;generalize hu:a.tmps.getD g undef=u at h2;cases h2;simp only[aic]at hu;rw[ahm h1]at hu ⊢;simpa using hu
 have hy:yielded R a.tmps j=some b:=by simp[yielded,hj,oh]
 have hd:d<a.tmps.size:=by rw[ad5]at hN;have:=hr.nt;omega
 by_cases kS:b=want
 ·subst kS;have c9:Region.wanted ⟨some d,op,t,pos,after,some (j,b)⟩ (yielded R a.tmps) = true:=by simp [Region.wanted,hy]
  rw[ajg c9];have:=(h rfl).run s' ⟨fun t ht=>am.1 t (by simp[show t∈rt from ht]),am.2⟩ bm C m a w Q next hC hr (fun m' a' w' h'=>hnext m' a' w' ?_)
  ·rw[ajg (nk rfl _)]at this;exact this
  ·refine⟨fun t y hy=>?_,h'.heap,h'.frame,h'.new,h'.keep,h'.defers,h'.nt⟩;simp only[gy]at hy;split at hy
   ·rename_i lV;cases hy;have:=h'.slots t x (by simp only[gy,ajg lV]);exact⟨this.1,.opt (fun _=>this.2) (fun h=>by simp at h)⟩
   ·rename_i lV;exact h'.slots t y (by simp only[gy,ajf lV];exact hy)
 ·have c9 : ¬ Region.wanted ⟨some d, op, t, pos, after, some (j, want)⟩ (yielded R a.tmps) = true := by simp [Region.wanted, hy, kS]
  rw[ajf c9];have:=hr.put d undef (some (.opt (b==want) x)) (fun y hy=>by cases hy;exact⟨hd,.opt (fun h=>ajm (beq_iff_eq.1 h) kS) (fun _=>rfl)⟩);refine hnext m _ _ ?_;refine RelM.congr (s:=⟨(d,some (.opt (b==want) x))::s'.sl,s'.hp⟩) (fun t=>rfl) (fun k=>?_) (by simpa[Act.put]using this);simp only[AS.app,AS.blk,ky];split
  ·rename_i hk;obtain⟨h1,h2⟩:=iw kS k hk;rw[h2];exact am.2 k h1
  ·rfl
theorem RelM.setLoop{C:Ctx}{m:Nat->Option Nat}{a:Act}{w:ajt}(h:RelM C s m a w){k l:Nat}{d:LpD}{st:LoopState}{pe:Option Code}{sl:bn}{r:Loop}
  (hk:lk s.hp k=some (.loop d st pe sl)) (hm:m k=some l) (hl:w.heap[l]?=some (.loop r)) (st':LoopState) (pe':Option Code) :
  RelM C ⟨s.sl,(k,some (.loop d st' pe' sl))::s.hp⟩ m a (w.putObj l (.loop { r with state:=st',pending:=pe' })):=by
 have hlt:=(h.heap.sep k _ l hk hm).2;have cE:∀b',b'≠l->(w.putObj l (.loop { r with state:=st',pending:=pe' })).heap[b']?=w.heap[b']? := fun b' hb=>World.putObj_heap_other hb
 have bF:∀k' y,lk ((k,some (Blk.loop d st' pe' sl))::s.hp) k'=some y->∃z,lk s.hp k'=some z:=by
  intro k' y hy;rw[aA]at hy;split at hy
  ·subst_vars;exact⟨_,hk⟩
  ·exact⟨y,hy⟩
 have hf:Frame (aO s.hp m) w (w.putObj l (.loop { r with state:=st',pending:=pe' })):=by
  refine⟨rfl,rfl,rfl,by simp,?_,?_⟩
  ·rintro b' n ⟨c1,t1,f1,h1,h2⟩;refine⟨c1,t1,f1,?_,h2⟩;rw[cE,h1];rintro rfl;rw[hl]at h1;cases h1
  ·intro b' hb' hn;refine cE b' ?_;rintro rfl;exact hn ⟨k,_,hk,hm⟩
 have bg:∀k' y b',lk ((k,some (Blk.loop d st' pe' sl))::s.hp) k'=some y->m k'=some b'->aO s.hp m b'\/w.heap.size<=b':=by
  intro k' y b' hy hb';obtain⟨z,hz⟩:=bF k' y hy;exact .inl ⟨k',z,hz,hb'⟩
 refine h.update hf (fun t y k' b' _ _ hb'=>hb') bg (fun k' y _ hy=>⟨bF k' y hy,rfl⟩) ⟨?_,?_,?_⟩
 ·intro k' y hy
  by_cases e:k'=k
  ·subst e;rw[aA,ajg rfl]at hy;cases hy;have hb:=h.heap.blk k' _ hk;rw[hm]at hb ⊢;cases hb with
   |loop hw h1 h2 h3 h4 h5 hn hr =>
    rw[hl]at hw;cases hw
    exact .loop (World.putObj_heap_same hlt) rfl rfl h3 h4 h5 hn (fun t x hx=>⟨(hr t x hx).1,(hr t x hx).2.mono (eO hf bg) hf.sz (fun _ _ _ h=>h)⟩)
  ·rw[aA,ajf e]at hy;refine BlkRep.mono (eO hf bg) hf.sz (fun k'' b' _ hb'=>hb') rfl ?_ (h.heap.blk k' y hy);intro b' hb';refine cE b' ?_;rintro rfl;exact e (h.heap.inj k' k y _ b' hy hk hb' hm)
 ·intro k1 k2 y1 y2 b' h1 h2 bh a8;obtain⟨z1,co⟩:=bF k1 y1 h1;obtain⟨z2,km⟩:=bF k2 y2 h2;exact h.heap.inj k1 k2 z1 z2 b' co km bh a8
 ·intro k' y b' hy hb';obtain⟨z,hz⟩:=bF k' y hy;have:=h.heap.sep k' z b' hz hb';exact⟨this.1,aip this.2 hf.size⟩
def uP:List Tmp->List AV->bn->bn
  |p::ps,x::xs,sl=>uP ps xs ((p,some x)::sl)
  |_,_,sl=>sl
theorem RelM.params{C:Ctx}{m:Nat->Option Nat}{w:ajt}{hp:Hp}:∀(ps:List Tmp)(xs:List AV)(vs:List ajq)(sl:bn)(a:Act),RelM C ⟨sl,hp⟩ m a w->vs.length=xs.length->(∀p∈ps,p<C.nt) ->
  (∀(j:Nat) v x,vs[j]?=some v->xs[j]?=some x->Rep (Im C.ext hp m w) (Sz w) m v x) ->
  RelM C ⟨uP ps xs sl,hp⟩ m { a with tmps:=(ps.zip vs).foldl (fun t (p,v)=>t.setIfInBounds p v) a.tmps } w
 |[],_,_,sl,a,h,_,_,_=>by simpa[uP]using h
 |p::ps,[],[],sl,a,h,_,_,_=>by simpa[uP]using h
 |p::ps,x::xs,v::vs,sl,a,h,hl,hp,hr=>by
  have h1:=h.put p v (some x) (fun y hy=>by cases hy;exact⟨aip (hp p (by simp)) h.nt,hr 0 v x rfl rfl⟩);exact RelM.params ps xs vs _ _ h1 (by simpa using hl) (fun q hq=>hp q (by simp[hq])) (fun j v' x' hv hx=>hr (j+1) v' x' hv hx)
def W1(k:Nat)(d:LpD)(r:AV)(H':Hp):Exit->AS->Prop
  | .normal,s=>∃pe sl,lk s.hp k=some (.loop d .busy pe sl)/\aJ ⟨s.sl,(k,some (.loop d .ready none sl))::s.hp⟩ (.v (.bool true)) r H'
  | .ret,s=>∃pe sl,lk s.hp k=some (.loop d .busy pe sl)/\aJ ⟨s.sl,(k,some (.loop d .done (some .ret) sl))::s.hp⟩ (.v (.bool false)) r H'
  |_,_=>False
def abl(P:ajs)(k:Nat)(d:LpD)(r:AV)(H':Hp)(e:Exit)(s:AS):Prop :=
  e=.normal/\∃pe sl,lk s.hp k=some (.loop d .ready pe sl)/\bb P d.nt d.body (W1 k d r H') ⟨s.sl,(k,some (.loop d .busy pe sl))::s.hp⟩
theorem RelM.loopAt{C:Ctx}{m:Nat->Option Nat}{a:Act}{w:ajt}(h:RelM C s m a w){k l:Nat}{d:LpD}{st:LoopState}{pe:Option Code}{sl:bn}
  (hk:lk s.hp k=some (.loop d st pe sl)) (hm:m k=some l):∃r:Loop,w.heap[l]?=some (.loop r)/\r.state=st/\r.pending=pe:=by
 have hb:=h.heap.blk k _ hk;rw[hm]at hb;cases hb with
 |loop hw h1 h2=>exact⟨_,hw,h1,h2⟩
theorem Wb{k:Nat}{d:LpD}{xs:List AV}{H:Hp}{r:AV}{H':Hp}{sl:bn}(hH:∀k z,lk H k=some z->1000<=k)(hk:lk H k=some (.loop d .ready none sl))
  (hl:xs.length=d.params.size) (oa:∀p∈d.params.toList,p<d.nt) (h:bb P d.nt d.assign (abl P k d r H') ⟨uP d.params.toList xs sl,H⟩):yG P k xs H r H':=by
 intro ext m w vs hext bX cM dl;have hs:vs.size=xs.length+1:=cM;have h0:vs[0]?=some vs[0]:=ahm oz;have hy:=dl 0 _ _ h0 rfl;generalize vs[0]=v0 at h0 hy;cases hy with
 | @yl _ _ l hm =>
  have hb:=bX.blk k _ hk;rw[hm]at hb;cases hb with
  | @loop _ r0 _ _ _ _ hw h1 h2 h3 h4 h5 hn hr =>
   have O8:=hH k _ hk
   let C:Ctx:=⟨w,ext,aO H m,m,d.nt,hext,some l⟩
   have jl:RelM C ⟨sl,H⟩ m { tmps:=r0.tmps,defers:=[] } w :=
    ⟨fun t x hx=>hr t x hx,bX,Frame.refl _ _,fun k x b h1 h2=>.inl ⟨k,x,h1,h2⟩,fun _ _ _ _=>rfl,un.nil _ _,hn⟩
   have p6:((vs.toList.drop 1).toArray).size=r0.params.size:=by rw[h3];simp;omega
   have aQ:=jl.params d.params.toList xs (vs.toList.drop 1) sl _ (by simp;omega) oa (fun j v x hv hx=>dl (j+1) v x (by simpa[aeq]using hv) (by simpa using hx))
   have e1:(r0.params.zip (vs.toList.drop 1).toArray).foldl (fun tmps (t,a)=>tmps.setIfInBounds t a) r0.tmps=(d.params.toList.zip (vs.toList.drop 1)).foldl (fun t (p,v)=>t.setIfInBounds p v) r0.tmps:=by
    rw[h3,<- Array.foldl_toList,Array.toList_zip]
   refine⟨l,r0.fn,_,r0.assign,r0.body,h0,run_yield hw p6,fun ro n=>roundIn_of_wpIn (F:=Fw ro) trivial ?_⟩;rw[e1,h4,h5];refine wpIn_mono (h C m _ w n rfl aQ) ?_;rintro e a1 w1 ⟨s1,m1,⟨rfl,pe1,sl1,iz,ac9⟩,Gf⟩;have f0:m1 k=some l:=(Gf.keep k _ O8 iz).trans hm;obtain⟨r1,jN,ada,adb⟩:=Gf.loopAt iz f0;have ek:=Gf.setLoop iz f0 jN .busy pe1;refine⟨_,run_beginRound jN ada,?_⟩;have e2:({ r1 with state:=.busy }:Loop)={ r1 with state:=.busy,pending:=pe1 }:=by rw[<- adb]
   rw[e2];refine wpIn_mono (ac9 C m1 a1 _ n rfl ek) ?_;rintro e a3 w3 ⟨s3,m3,hq,p5⟩
   have fin:∀(jump:Option Code)(pe:Option Code)(sl3:bn),lk s3.hp k=some (.loop d .busy pe sl3) ->
     aJ ⟨s3.sl,(k,some (.loop d (if jump.isNone then .ready else .done) jump sl3))::s3.hp⟩ (.v (.bool jump.isNone)) r H' ->
     ∃v w',(Instr.endRound l jump).run P w3=.ok v w'/\∃v' m',Ending.returned v=.returned v'/\Frame (aO H m) w w'/\HeapRel ext H' m' w' /\
      (∀k x b,lk H' k=some x->m' k=some b->aO H m b\/w.heap.size<=b)/\(∀k x y,lk H k=some x->lk H' k=some y->m' k=m k)/\Rep (Im ext H' m' w') (Sz w') m' v' r:=by
    intro jump pe sl3 mZ jK;have rV:m3 k=some l:=(p5.keep k _ O8 mZ).trans hm;obtain⟨r3,xG,O9,Pa⟩:=p5.loopAt mZ rV;have mX:=p5.setLoop mZ rV xG (if jump.isNone then .ready else .done) jump;obtain⟨m'',g3,g4,g5,g6⟩:=jK ext m3 _ _ mX.heap (fun b hb=>mX.ext_lt hb) (.v (.bool jump.isNone));refine⟨_,_,run_endRound jump xG,_,m'',rfl,mX.frame,g3,?_,?_,g6⟩
    ·intro k' z b hk' hb';obtain⟨k2,z2,cD,a8⟩:=g4 k' z b hk' hb';exact mX.new k2 z2 b cD a8
    ·intro k' z y hk' hy';obtain⟨⟨y',oi⟩,h8⟩:=g5 k' y (hH k' z hk') hy';rw[h8];exact mX.keep k' y' (hH k' z hk') oi
   cases e with
   |normal =>
    obtain⟨pe,sl3,mZ,jK⟩:=hq;exact fin none pe sl3 mZ jK
   |ret =>
    obtain⟨pe,sl3,mZ,jK⟩:=hq;exact fin (some .ret) pe sl3 mZ jK
   |_=>exact hq.elim
theorem EG{x y:Code}(h:bb P N x (fun e s=>match e with | .normal=>kF P N y Q s |e=>Q e s) s):kF P N (.seq x y) Q s:=by
 intro C m a w n kR hN hr;refine wpIn_seq (wpIn_mono (h C m a w n hN hr) ?_);rintro e a' w' ⟨s',m',hq,hr'⟩;cases e with
 |normal=>exact hq C m' a' w' n kR hN hr'
 |_=>exact⟨s',m',hq,hr'⟩
theorem Z4{x y:Code}(h:kF P N x (fun e s=>match e with | .normal=>kF P N y Q s |e=>Q e s) s):kF P N (.seq x y) Q s:=by
 intro C m a w n kR hN hr;refine wpIn_seq (wpIn_mono (h C m a w n kR hN hr) ?_);rintro e a' w' ⟨s',m',hq,hr'⟩;cases e with
 |normal=>exact hq C m' a' w' n kR hN hr'
 |_=>exact⟨s',m',hq,hr'⟩
theorem act{id:Nat}{c:Code}(h:kF P N c (yF id (Q .normal) Q) s):kF P N (.block id c) Q s:=by
 intro C m a w n kR hN hr;refine wpIn_block (wpIn_mono (h C m a w n kR hN hr) ?_);rintro e a' w' ⟨s',m',hq,hr'⟩;cases e with
 |exit id' =>
  simp only[Exit.inBlock];simp only[yF]at hq;split at hq
  ·rename_i hb;rw[ajg (ah5 hb)];exact⟨s',m',hq,hr'⟩
  ·rename_i hb;rw[ajf (aes hb)];exact⟨s',m',hq,hr'⟩
 |_=>exact⟨s',m',hq,hr'⟩
theorem RelM.mark{C:Ctx}{m:Nat->Option Nat}{a:Act}{w:ajt}(hr:RelM C s m a w) :
  RelM C s m { a with defers:=tk w.heap.size::a.defers } { w with heap:=w.heap.push (.deferred (some [])) }:=by
 have hf:=CN (aO s.hp m) w (.deferred (some []));have bg:∀k' y b',lk s.hp k'=some y->m k'=some b'->aO s.hp m b'\/w.heap.size<=b':=fun k' y b' h1 h2=>.inl ⟨k',y,h1,h2⟩
 have aQ:RelM C s m a { w with heap:=w.heap.push (.deferred (some [])) }:=by
  refine hr.update hf (fun t y k' b' _ _ hb'=>hb') bg (fun k' y _ hy=>⟨⟨y,hy⟩,rfl⟩) ⟨?_,hr.heap.inj,?_⟩
  ·intro k y hk;refine BlkRep.mono (eO hf bg) hf.sz (fun _ _ _ h=>h) rfl ?_ (hr.heap.blk k y hk);intro b hb;have:=(hr.heap.sep k y b hk hb).2;show(w.heap.push _)[b]?=_;rw[ahk,ajf oz]
  ·intro k y b hk hb;have:=hr.heap.sep k y b hk hb;refine⟨this.1,?_⟩;have:=this.2;simp;omega
 refine⟨aQ.slots,aQ.heap,aQ.frame,aQ.new,aQ.keep,?_,aQ.nt⟩;obtain⟨Ds,e,hn,hD⟩:=hr.defers;have bm:(w.heap.push (.deferred (some [])))[w.heap.size]?=some (Obj.deferred (some [])):=by simp
 refine⟨w.heap.size::Ds,by simp[e],List.nodup_cons.2 ⟨fun hm=>?_,hn⟩,?_⟩
 ·have:=hr.heap.lt (hD _ hm).2;omega
 ·intro D hm;rcases aiq.1 hm with rfl |hm
  ·exact⟨hr.frame.size,bm⟩
  ·obtain⟨h1,h2⟩:=hD D hm;refine⟨h1,?_⟩;have:=hr.heap.lt h2;show(w.heap.push _)[D]?=_;rw[ahk,ajf oz];exact h2
theorem Km{g:ajp}{ps:Array Tmp}{assign body:Code}{f:FuncId}{caps:List AV}{k:Nat}{H H':Hp}{r:AV}{st:LoopState}{pe:Option Code}{sl0 sl':bn}
  (hg:Ev s g (.fn f caps)) (eC:∀t x,lk sl0 t=some x->s.get t=some x) (Pc:(Eh sl0).contains k=false) (hfr:s.freshB k=true) (cG:Con P f (.yl k::caps) H r H')
  (hH:∀k' z,lk H k'=some z->lk ((k,some (.loop ⟨ps,assign,body,N⟩ .ready none sl0))::s.hp) k'=some z) (bc:fU s H H' r=true)
  (hkH:iF H k=true) (bm:(H'.all fun p=>iF H p.1)=true) (uC:lk H' k=some (.loop ⟨ps,assign,body,N⟩ st pe sl')) (cg:st≠.busy)
  (kQ:pe=none/\Q .normal ⟨s.sl,(k,none)::(H'++cz H++s.hp)⟩\/pe=some .ret/\Q .ret ⟨s.sl,(k,none)::(H'++cz H++s.hp)⟩) :
  kF P N (.rangeFunc g ps assign body) Q s:=by
 intro C m a w n kR hN hr;rw[kR];simp only[fU,ah7,aif]at bc bm;obtain⟨rS,xy⟩:=bc;have gS:=hg.rep hr;generalize da:a.eval g=u at gS;cases gS with
 | @fn _ _ cvs _ hn' aS =>
  refine wpIn_rangeFunc (F:=Fw none) fun fn _=>?_
  have Pe:=AS.fresh_of hfr;have aQ:=hr.mark
  have hnm:¬(Blk.loop ⟨ps,assign,body,N⟩ .ready none sl0).Names k:=by
   rintro⟨t,x,hx,hn⟩;have h9:k∈Eh sl0:=List.mem_flatMap.2 ⟨_,hx,hn.mem⟩;have h8:=List.elem_eq_true_of_mem h9;rw[List.contains]at Pc;rw[Pc]at h8;cases h8
  have ek:=aQ.alloc (k:=k) Pe (.loop { state:=.ready,pending:=none,fn,tmps:=a.tmps,params:=ps,assign,body,defers:=w.heap.size }) (.loop ⟨ps,assign,body,N⟩ .ready none sl0) hnm
   (fun g' S' m' w' h1 h2 h3 h4 => .loop h4 rfl rfl rfl rfl rfl (by have := hr.nt; rw [hN] at this; exact this) (fun t x hx => by
    obtain⟨g1,g2⟩:=aQ.slots t x (eC t x hx);exact⟨g1,g2.mono h1 h2 (fun k' b hk hb=>h3 k' b (fun e=>Pe.2.2.1 t x (eC t x hx) (e▸hk)) hb)⟩))
  have adc:(w.heap.push (Obj.deferred (some []))).size=w.heap.size+1:=by simp
  have aN:∀k',k'=k->(if k'=k then some (w.heap.push (Obj.deferred (some []))).size else m k')=some (w.heap.size+1):=fun k' e=>by rw[ajg e,adc]
  have hc := ek.called (run := Calls P f) (fun _ _ _ _ h h' => Calls.mono h h') cG.ret (vs := #[Value.func (.yield (w.heap.size + 1)) #[] #[]] ++ cvs) (by simp [hn']; omega) (by
    intro j v x hv hx;cases j with
    |zero =>
     cases hx;rw[aho,ajg (by show 0<1;omega)]at hv;cases hv;exact .yl (aN k rfl)
    |succ j =>
     rw[aho,ajf (by show ¬j+1<1;omega)]at hv;have h9:cvs[j]?=some v:=hv;have hx':caps[j]?=some x:=hx;have ade:({ a with defers:=tk w.heap.size::a.defers }:Act).eval g=.func (.func f) #[] cvs:=by cases g <;> exact da
     have adf:gj s ⟨s.sl,(k,some (.loop ⟨ps,assign,body,N⟩ .ready none sl0))::s.hp⟩ ⟨none,[],ai g,[]⟩:=⟨fun _ _=>rfl,fun k hk=>by cases hk⟩
     have h8:=(hg.agree adf (fun _ h=>h)).rep ek;rw[ade]at h8;cases h8 with
     |fn k9 Gg=>exact Gg j v x h9 hx')
   hH (by
    intro k' z hz;have:=bm _ (oQ hz);exact .inl (iQ.1 this)) (by
    intro k' hk';obtain⟨p,hp,rfl⟩:=af0.1 hk';exact rS p hp) xy
  let W2:=(w.alloc (.deferred (some []))).alloc (.loop { state:=.ready,pending:=none,fn,tmps:=a.tmps,params:=ps,assign,body,defers:=w.heap.size })
  refine⟨w.heap.size+1,[tk w.heap.size],W2,{ target:=.fn (.func f) cvs,args:=#[.func (.yield (w.heap.size+1)) #[] #[]] },W2,f,
   #[Value.func (.yield (w.heap.size+1)) #[] #[]]++cvs,W2,run_enterLoop_outer fn a.tmps ps assign body,?_,fun _ _=>trivial,?_,(fun h=>by cases h),(callsIn_wide (n:=n-1)).2 (Calls.mono hc ?_)⟩
  ·simp only[resolve,da];simp[go_sem]
  ·simp[invoke,go_sem,cG.ok _ _]
  ·rintro e w' ⟨v,m'',rfl,p5,_,cp⟩;obtain⟨y,hy⟩:=iQ.1 hkH;have hm:m'' k=some (w.heap.size+1):=(cp k y _ hy uC).trans (aN k rfl)
   have Pf:lk (H'++cz H++(k,some (Blk.loop ⟨ps,assign,body,N⟩ .ready none sl0))::s.hp) k=some (.loop ⟨ps,assign,body,N⟩ st pe sl'):=by
    rw[ajc,ky,ajg (jW uC)];exact uC
   obtain⟨r3,xG,O9,Pa⟩:=p5.loopAt Pf hm
   have mX:=(p5.setLoop Pf hm xG .exhausted pe).fewer (hp':=(k,none)::(H'++cz H++s.hp)) (by
    intro k' z hz;rw[aA]at hz;split at hz
    ·cases hz
    ·rename_i aF;rw[aA,ajf aF];rw[ajc,ky]at hz ⊢;split at hz
     ·rename_i h1;rw[ajg h1];exact hz
     ·rename_i h1;rw[ajf h1]
      rw[ky]at hz ⊢;split at hz
      ·rename_i h2;rw[ajg h2];exact hz
      ·rename_i h2;rw[ajf h2,aA,ajf aF];exact hz)
   have dK:=run_endLoop (P:=P) xG (by rw[O9];exact cg);rw[Pa]at dK;refine⟨pe,_,dK,?_⟩;rcases kQ with⟨rfl,hq⟩ |⟨rfl,hq⟩
   ·exact⟨_,m'',hq,mX⟩
   ·exact wpIn_ret ⟨_,m'',hq,mX⟩
theorem Hr{f:FuncId}{caps:List AV}(hnm:(caps.all fun x=>x.nm.isEmpty)=true):Sub (.fn f caps) (.cl f [] caps):=by
 intro g S m v h;cases h with
 |fn hn hr =>
  exact .cl rfl (fun j u c hu hc => by simp at hc) hn (fun j u c hu hc => (hr j u c hu hc).mono (fun _ _ h => h) (fun _ _ h => h) (fun k b hk => by
   have h1:=aif.1 hnm c (ah3 hc);have h2:=hk.mem;simp only[List.isEmpty_iff]at h1;rw[h1]at h2;cases h2))
theorem Rl{ρ:ajp->ajq}{o:Oper}{g:ajp}{f:FuncId}{pre caps:Array ajq}{args:Array ajp}{ts:Array ajr}{w:ajt}{vs:Array ajq}(ho:o.op=.call ⟨.value g,args,ts⟩)
  (hρ:ρ g=.func (.func f) pre caps) (bc:vX P f) (cM:pre++args.map ρ++caps=vs):(execOp ρ o).run P w=.ok (.enter f vs) w:=by
 subst cM;have:=bc (pre++args.map ρ++caps) w;rw[Array.append_assoc]at this;obtain⟨dst,op,type,pos,after,guard⟩:=o;subst ho;simp[execOp,resolve,hρ,Deferred.ofValue,invoke,this]
theorem NQ{d:Nat}{g:ajp}{f:FuncId}{pre caps:List AV}{args:Array ajp}{ts:Array ajr}{xs:List AV}{H H':Hp}{r:AV}{t:ajr}
  (hg:Ev s g (.cl f pre caps)) (cG:Con P f (pre++xs++caps) H r H') (ha:EvL s args.toList xs) (hH:∀k z,lk H k=some z->s.blk k=some z) (bc:fU s H H' r=true) (hN:aek d N=true) :
  Step P N R s ⟨some d,.call ⟨.value g,args,ts⟩,t,pos,after,none⟩ ⟨some r,H'++cz H,ai g++cA args.toList,H.map (·.1)⟩:=by
 refine wF rfl (fun d' h=>by cases h;exact⟨hN,rfl⟩) cG hH bc fun s' am C m a w hr=>?_
 have jm:gj s s' ⟨none,[],ai g++cA args.toList,[]⟩:=⟨am,fun k hk=>by cases hk⟩
 have ha':=ha.agree jm (fun _ h=>aia.2 (.inr h));have gS:=(hg.agree jm (fun _ h=>aia.2 (.inl h))).rep hr;generalize hv:a.eval g=u at gS;cases gS with
 | @cl _ _ pvs cvs _ _ hn aS hn' adg =>
  have hl:=ha'.length;simp only[ahv]at hl;refine⟨pvs++args.map a.eval++cvs,Rl rfl hv cG.ok rfl,by simp[hn,hn',hl],?_⟩;intro j v x hv' hx;rw[aho]at hv';rw[List.getElem?_append]at hx;simp only[ahs,Array.size_map,ai0,hn,hl]at hv' hx;split at hv'
  ·rename_i h1;rw[ajg h1]at hx;rw[aho]at hv';rw[List.getElem?_append]at hx;split at hv'
   ·rename_i h2;rw[ajg oz]at hx;exact(aS j v x hv' hx).mono (fun _ _ h=>h) (fun _ _ h=>h) (fun k b _ h=>by cases h)
   ·rename_i h2;rw[ajf oz]at hx;rw[hn]at hv';exact ha'.rep hr _ v x (by simpa using hv') hx
  ·rename_i h1;rw[ajf h1]at hx;exact(adg _ v x hv' hx).mono (fun _ _ h=>h) (fun _ _ h=>h) (fun k b _ h=>by cases h)
end Go.Lw
namespace Go.Lw
variable{P:ajs}{N:Nat}{Q:Exit->AS->Prop}
def yq(s:AS)(g:Nat)(want:Bool):Option (Prop×Bool):=match s.get g with
  |some x=>match x with
    | .v (.bool b)=>some (b=want,b==want)
    | .opt c (.v (.bool b))=>some (c=true/\b=want,c&&b==want)
    |_=>none
  |none=>none
inductive Want where
  |ar (op:BinOp) (k:IntKind) (a b:Int)
  |cv (k:IntKind) (n:Int)
  |ln (es:List AV)
  |ix (es:List AV) (i:Int)
  |cl (f:FuncId) (xs:List AV)
def xg(P:ajs)(w:Want)(x:AV):Prop:=match w with
  | .ar op k a b=>∃n,k.wrap (fq op a b)=n/\x=.v (.int k n)
  | .cv k n=>∃m,k.wrap n=m/\x=.v (.int k m)
  | .ln es=>∃n:Nat,es.length=n/\x=.v (.int .i64 n)
  | .ix es i=>0<=i/\∃e,es[i.toNat]?=some e/\x=.iptr e.cells
  | .cl f xs=>jF P f xs x/\x.nm=[]
inductive Fr where
  |seq (c:Code)
  |blk (id:Nat)
  |lp (K:AS->Prop)
def cI(P:ajs)(N:Nat)(Q:Exit->AS->Prop):List Fr->Exit->AS->Prop
  |[],e,s=>Q e s
  | .seq c::k,e,s=>match e with
    | .normal=>bb P N c (cI P N Q k) s
    |e=>cI P N Q k e s
  | .blk id::k,e,s=>match e with
    | .exit id'=>match afe id' id with
      |true=>cI P N Q k .normal s
      |false=>cI P N Q k (.exit id') s
    |e=>cI P N Q k e s
  | .lp K::k,e,s=>match e with
    | .normal=>K s
    |e=>cI P N Q k e s
inductive Cf where
  |code (c:Code) (k:List Fr) (s:AS)
  |ops (id i:Nat) (R:List Oper) (draw:Bool) (s0:AS) (ops:List Oper) (us:List Out) (k:List Fr) (s:AS)
  |ap (o:Oper) (u:Out) (id i:Nat) (R:List Oper) (draw:Bool) (s0:AS) (ops:List Oper) (us:List Out) (k:List Fr) (s:AS)
  |ex (e:Exit) (k:List Fr) (s:AS)
  |st (w:Want) (rt:List Nat) (o:Oper) (id i:Nat) (R:List Oper) (draw:Bool) (s0:AS) (ops:List Oper) (us:List Out) (k:List Fr) (s:AS)
  |sg (G:Prop) (b:Bool) (w:Want) (rt:List Nat) (o:Oper) (id i:Nat) (R:List Oper) (draw:Bool) (s0:AS) (ops:List Oper) (us:List Out) (k:List Fr) (s:AS)
def Gd(P:ajs)(N:Nat)(Q:Exit->AS->Prop):Cf->Prop
  | .code c k s=>bb P N c (cI P N Q k) s
  | .ops _ _ R draw s0 ops us k s=>gw P N R.toArray ops s us (fun s' us'=>(draw=true->chk R us' s0=true)/\cI P N Q k .normal s')
  | .ap o u _ _ R draw s0 ops us k s=>gw P N R.toArray ops (s.app o.dst u) (us++[u]) (fun s' us'=>(draw=true->chk R us' s0=true)/\cI P N Q k .normal s')
  | .ex e k s=>cI P N Q k e s
  | .st w rt o _ _ R draw s0 ops us k s=>(∀x,xg P w x->Step P N R.toArray s o ⟨some x,[],rt,[]⟩)->gw P N R.toArray (o::ops) s us (fun s' us'=>(draw=true->chk R us' s0=true)/\cI P N Q k .normal s')
  | .sg G b w rt o _ _ R draw s0 ops us k s=>(∀x,(G->xg P w x)->Step P N R.toArray s o ⟨some (.opt b x),[],rt,[]⟩)->gw P N R.toArray (o::ops) s us (fun s' us'=>(draw=true->chk R us' s0=true)/\cI P N Q k .normal s')
theorem XP{x y:Code}{k:List Fr}{s:AS}(h:bb P N x (cI P N Q (.seq y::k)) s):bb P N (.seq x y) (cI P N Q k) s :=
 KZ fun K hK=>jg h fun e s he=>by
  cases e with
  |normal=>exact hK s he
  |_=>exact he
theorem abe{id:Nat}{c:Code}{k:List Fr}{s:AS}(h:bb P N c (cI P N Q (.blk id::k)) s):bb P N (.block id c) (cI P N Q k) s :=
 Hi (jg h fun e s he=>by
  cases e with
  |exit id' =>
   show match afe id' id with |true=>_ |false=>_
   simp only[cI]at he;split at he
   ·exact he
   ·exact he
  |_=>exact he)
theorem Ar{R:Array Oper}{K K':AS->List Out->Prop}(hk:∀s us,K s us->K' s us):∀{ops:List Oper}{s:AS}{us:List Out},gw P N R ops s us K->gw P N R ops s us K'
 |[],s,us,h=>hk s us h
 |_::_,s,us,⟨u,h1,h2,h3⟩=>⟨u,h1,h2,Ar hk h3⟩
def w6:List Oper->Bool
  |[]=>true
  |o::l=>match o.op with
    | .defer _=>false
    |_=>w6 l
theorem CX:∀{l:List Oper},w6 l=true->l.all nd=true
 |[],_=>rfl
 |o::l,h=>by
  unfold w6 at h;simp only[all_cons,ah7];split at h
  ·cases h
  ·rename_i hd;refine⟨?_,CX h⟩;unfold nd;split
   ·rename_i c hc;exact ajm hc (hd c)
   ·rfl
theorem JV{id:Nat}{A:Array Oper}{d:Bool}{k:List Fr}{s:AS}(b7:A.toList.all nd=true)(hd:d=true->P.follows .mixedOrders=true)
  (h:gw P N A.toList.toArray A.toList s [] (fun s' us'=>(d=true->chk A.toList us' s=true)/\cI P N Q k .normal s')):bb P N (.region id A d) (cI P N Q k) s:=by
 have e:A=A.toList.toArray:=by simp
 cases d with
 |false =>
  rw[e]
  exact YX b7 (by
   exact Ar (fun s us h=>h.2) h)
 |true =>
  rw[e];exact S8 b7 (hd rfl) (Ar (fun s us h=>⟨h.1 rfl,h.2⟩) h)
variable[Inhabited (Tys P)]
def z6(P:ajs)[Inhabited (Tys P)](s:AS)(d:Nat):Op->Option (Out×List Prop)
  | .alloc T=>match bS P T with
    |some ti=>match ti.zero.all Value.oneCell' with
      |true=>match iJ (ti.zero.map .v)with
        |some l=>some (⟨some (.ptr d 0),[(d,some (.box l))],[],[]⟩,[])
        |none=>none
      |false=>none
    |none=>none
  | .box _ x=>match dt false True s x with
    |some (v,ob)=>match v.ok with
      |true=>match iJ v.cells with
        |some l=>some (⟨some (.ptr d 0),[(d,some (.box l))],ai x,[]⟩,ob)
        |none=>none
      |false=>none
    |none=>none
  |_=>none
def yK(P:ajs)[Inhabited (Tys P)](s:AS):Op->Option (Out×List Prop)
  | .store T x y=>match dt false True s x with
    |some (.ptr k off,ob)=>match dt false True s y with
      |some (v,ob')=>match s.blk k with
        |some (.box cs)=>match bS P T with
          |some ti=>match v.ok&&afe v.cells.length ti.size&&Nat.ble (off+ti.size) cs.length with
            |true=>match iJ (over cs off v.cells)with
              |some l=>some (⟨none,[(k,some (.box l))],ai x++ai y,[k]⟩,ob++ob')
              |none=>none
            |false=>none
          |none=>none
        |_=>none
      |none=>none
    |_=>none
  |_=>none
def zo(s:AS)(r:Out×List Prop):Option (Out×List Prop):=match EU s r.1 with
  |true=>some r
  |false=>none
def EQ(P:ajs)[Inhabited (Tys P)](N:Nat)(R:List Oper)(s:AS)(o:Oper):Option (Out×List Prop):=match o.guard with
  |none=>match o.dst with
    |some d=>match aek d N with
      |true=>match vQ P false True s o.op with
        |some ⟨x,rt,rd,ob⟩=>some (⟨some x,[],rt,rd⟩,ob)
        |none=>match z6 P s d o.op with
          |some r=>zo s r
          |none=>none
      |false=>none
    |none=>match yK P s o.op with
      |some r=>zo s r
      |none=>none
  |some (j,want)=>match R[j]? with
    |some og=>match og.dst with
      |some g=>match o.dst with
        |some d=>match aek d N with
          |true=>match yq s g want with
            |some (G,b)=>match vQ P true G s o.op with
              |some ⟨x,rt,rd,ob⟩=>some (⟨some (.opt b x),[],g::rt,rd⟩,ob)
              |none=>none
            |none=>none
          |false=>none
        |none=>none
      |none=>none
    |none=>none
theorem Hj{s:AS}{r r':Out×List Prop}(h:zo s r=some r'):r'=r/\jz s r.1:=by
 unfold zo at h;split at h
 ·rename_i hn;cases h;exact⟨rfl,vW hn⟩
 ·cases h
theorem KQ{s:AS}{R:Array Oper}{d:Nat}{op:Op}{t:ajr}{pos:String}{after:Array Edge}{r:Out×List Prop}(h:z6 P s d op=some r)(ho:AllP r.2)(hN:aek d N=true) :
  Step P N R s ⟨some d,op,t,pos,after,none⟩ r.1:=by
 unfold z6 at h;split at h
 ·split at h
  ·rename_i ti bR;split at h
   ·rename_i hz;split at h
    ·rename_i l hl;cases h;cases jH hl;exact RW (bA bR) hz hN
    ·cases h
   ·cases h
  ·cases h
 ·split at h
  ·rename_i v ob h1;split at h
   ·rename_i hv;split at h
    ·rename_i l hl;cases h;cases jH hl;exact UR (dV h1 ho trivial) hv hN
    ·cases h
   ·cases h
  ·cases h
 ·cases h
theorem HF{s:AS}{R:Array Oper}{op:Op}{t:ajr}{pos:String}{after:Array Edge}{r:Out×List Prop}(h:yK P s op=some r)(ho:AllP r.2) :
  Step P N R s ⟨none,op,t,pos,after,none⟩ r.1:=by
 unfold yK at h;split at h
 ·split at h
  ·rename_i h1;split at h
   ·rename_i h2;split at h
    ·rename_i hk;split at h
     ·rename_i ti bR;split at h
      ·rename_i hc;simp only[ah7]at hc;split at h
       ·rename_i l hl;cases h;cases jH hl
        exact Hh (dV h1 ho.app.1 trivial) hk (dV h2 ho.app.2 trivial) hc.1.1 (bA bR) hc.1.2 hc.2
       ·cases h
      ·cases h
     ·cases h
    ·cases h
   ·cases h
  ·cases h
 ·cases h
theorem aad{R:List Oper}{s:AS}{o:Oper}{u:Out}{ob:List Prop}(h:EQ P N R s o=some (u,ob))(ho:AllP ob):Step P N R.toArray s o u/\jz s u:=by
 obtain⟨dst,op,ty,pos,after,guard⟩:=o;unfold EQ at h;simp only at h;split at h
 ·split at h
  ·rename_i d;split at h
   ·rename_i hN;split at h
    ·rename_i h1;cases h;exact⟨Ay h1 ho trivial hN,fun k hk=>by simp at hk⟩
    ·split at h
     ·rename_i r h1;obtain⟨h2,h3⟩:=Hj h;subst h2;exact⟨KQ h1 ho hN,h3⟩
     ·cases h
   ·cases h
  ·split at h
   ·rename_i r h1;obtain⟨h2,h3⟩:=Hj h;subst h2;exact⟨HF h1 ho,h3⟩
   ·cases h
 ·rename_i j want;split at h
  ·rename_i og p7;split at h
   ·rename_i g hg;split at h
    ·rename_i d;split at h
     ·rename_i hN;split at h
      ·rename_i G b hG;split at h
       ·rename_i h1;cases h;have hj:(R.toArray[j]?).bind (·.dst) = some g:=by simp [p7,hg]
        unfold yq at hG;split at hG
        ·rename_i x hx;split at hG
         ·cases hG;exact⟨fX hj hx hN (fun h=>Ay h1 ho h hN),fun k hk=>by simp at hk⟩
         ·cases hG;exact⟨rq hj hx hN (fun hc h=>Ay h1 ho ⟨hc,h⟩ hN),fun k hk=>by simp at hk⟩
         ·cases hG
        ·cases hG
       ·cases h
      ·cases h
     ·cases h
    ·cases h
   ·cases h
  ·cases h
def Cq:BinOp->Bool
  | .add | .sub | .mul=>true
  |_=>false
theorem L4:∀{op:BinOp},Cq op=true->(match op with | .add | .sub | .mul=>true |_=>false)=true:=by intro op;cases op <;> intro h <;> first |rfl |cases h
structure R2 where
  w:Want
  rt:List Nat
  ob:List Prop
def zO(P:ajs)[Inhabited (Tys P)](g:Bool)(G:Prop)(s:AS):Op->Option R2
  | .binOp op _ x y _=>match Cq op with
    |true=>match dt g G s x with
      |some (.v (.int k a),ob)=>match dt g G s y with
        |some (.v (.int k' b),ob')=>match afe (d7 k) (d7 k')with
          |true=>some ⟨.ar op k a b,ai x++ai y,ob++ob'⟩
          |false=>none
        |_=>none
      |_=>none
    |false=>none
  | .convert S T x=>match dt g G s x with
    |some (.v (.int _ n),ob)=>match bS P S with
      |some _=>match bS P T with
        |some ti=>match ti.k with
          | .int k'=>some ⟨.cv k' n,ai x,ob⟩
          |_=>none
        |none=>none
      |none=>none
    |_=>none
  | .indexAddr T x ix=>match dt g G s x with
    |some (.lst sz es,ob)=>match dt g G s ix with
      |some (.v (.int _ i),ob')=>match bS P T with
        |some ti=>match ti.k with
          | .slice E=>match bS P E with
            |some te=>match afe te.size sz with
              |true=>some ⟨.ix es i,ai x++ai ix,ob++ob'⟩
              |false=>none
            |none=>none
          |_=>none
        |none=>none
      |_=>none
    |_=>none
  | .call ⟨.builtin .len,args,ts⟩=>match args.toList with
    |[x]=>match ts.toList with
      |[T]=>match dt g G s x with
        |some (.lst _ es,ob)=>match bS P T with
          |some ti=>match ti.k with
            | .slice _=>some ⟨.ln es,ai x,ob⟩
            |_=>none
          |none=>none
        |_=>none
      |_=>none
    |_=>none
  | .call ⟨.value (.func f),args,_⟩=>match pv g G s args.toList with
    |some (xs,ob)=>some ⟨.cl f xs,cA args.toList,ob⟩
    |none=>none
  | .call ⟨.value (.tmp t),args,_⟩=>match dt g G s (.tmp t)with
    |some (.cl f pre caps,ob)=>match pv g G s args.toList with
      |some (xs,ob')=>some ⟨.cl f (pre++xs++caps),ai (.tmp t)++cA args.toList,ob++ob'⟩
      |none=>none
    |_=>none
  |_=>none
theorem Fy{g:Bool}{G:Prop}{s:AS}{R:Array Oper}{d:Nat}{t:ajr}{pos:String}{after:Array Edge}{op:Op}{r:R2}(h:zO P g G s op=some r)(ho:AllP r.ob)(hG:G)(hN:aek d N=true)
  {x:AV} (hm:xg P r.w x):Step P N R s ⟨some d,op,t,pos,after,none⟩ ⟨some x,[],r.rt,[]⟩:=by
 unfold zO at h;split at h
 ·split at h
  ·rename_i el;split at h
   ·rename_i h1;split at h
    ·rename_i h2;split at h
     ·rename_i hk;cases h;cases nE hk;obtain⟨n,e,rfl⟩:=hm;subst e;exact IX (dV h1 ho.app.1 hG) (dV h2 ho.app.2 hG) (L4 el) hN
     ·cases h
    ·cases h
   ·cases h
  ·cases h
 ·split at h
  ·rename_i h1;split at h
   ·rename_i tS hS;split at h
    ·rename_i ti hT;split at h
     ·rename_i k' hk;cases h;obtain⟨m,e,rfl⟩:=hm;subst e;exact Hz (dV h1 ho hG) hN (bA hS) (bA hT) hk
     ·cases h
    ·cases h
   ·cases h
  ·cases h
 ·split at h
  ·rename_i h1;split at h
   ·rename_i h2;split at h
    ·rename_i ti hT;split at h
     ·rename_i E hk;split at h
      ·rename_i te hE;split at h
       ·rename_i aN;cases h;obtain⟨h0,e,he,rfl⟩:=hm;exact Ke (dV h1 ho.app.1 hG) (dV h2 ho.app.2 hG) (bA hT) hk (bA hE) (ah5 aN) h0 he hN
       ·cases h
      ·cases h
     ·cases h
    ·cases h
   ·cases h
  ·cases h
 ·rename_i args ts;split at h
  ·rename_i y hy;split at h
   ·rename_i T hT;have e1:args = #[y]:=by apply ahl.1; simpa using hy
    have e2:ts=#[T]:=by apply ahl.1;simpa using hT
    subst e1;subst e2
    split at h
    ·rename_i h1;split at h
     ·rename_i ti bR;split at h
      ·rename_i e hk;cases h;obtain⟨n,e,rfl⟩:=hm;subst e;exact Lh (dV h1 ho hG) (bA bR) hk hN
      ·cases h
     ·cases h
    ·cases h
   ·cases h
  ·cases h
 ·split at h
  ·rename_i h1;cases h;exact Se hm.1 (sN hG h1 ho) hm.2 hN
  ·cases h
 ·split at h
  ·rename_i h1;split at h
   ·rename_i h2;cases h;exact NQ (dV h1 ho.app.1 hG) hm.1 (sN hG h2 ho.app.2) (fun k z h=>by cases h) (by simp[fU,vA,hm.2]) hN
   ·cases h
  ·cases h
 ·cases h
def CE(P:ajs)[Inhabited (Tys P)](N:Nat)(R:List Oper)(s:AS)(o:Oper)(f:Want->List Nat->Cf)(fG:Prop->Bool->Want->List Nat->Cf):Option (Cf×List Prop):=match o.dst with
  |some d=>match aek d N with
    |true=>match o.guard with
      |none=>match zO P false True s o.op with
        |some ⟨w,rt,ob⟩=>some (f w rt,ob)
        |none=>none
      |some (j,want)=>match R[j]? with
        |some og=>match og.dst with
          |some g=>match yq s g want with
            |some (G,b)=>match zO P true G s o.op with
              |some ⟨w,rt,ob⟩=>some (fG G b w (g::rt),ob)
              |none=>none
            |none=>none
          |none=>none
        |none=>none
    |false=>none
  |none=>none
theorem Rq{R:List Oper}{s:AS}{o:Oper}{f:Want->List Nat->Cf}{fG:Prop->Bool->Want->List Nat->Cf}{c:Cf}{ob:List Prop}(h:CE P N R s o f fG=some (c,ob))(ho:AllP ob) :
  (∃w rt,c=f w rt/\∀x,xg P w x->Step P N R.toArray s o ⟨some x,[],rt,[]⟩)\/(∃G b w rt,c=fG G b w rt/\∀x,(G->xg P w x)->Step P N R.toArray s o ⟨some (.opt b x),[],rt,[]⟩):=by
 obtain⟨dst,op,ty,pos,after,guard⟩:=o;unfold CE at h;simp only at h;split at h
 ·rename_i d;split at h
  ·rename_i hN;split at h
   ·split at h
    ·rename_i h1;cases h;exact .inl ⟨_,_,rfl,fun x hm=>Fy h1 ho trivial hN hm⟩
    ·cases h
   ·rename_i j want;split at h
    ·rename_i og p7;split at h
     ·rename_i g hg;split at h
      ·rename_i G b hG;split at h
       ·rename_i h1;cases h;have hj:(R.toArray[j]?).bind (·.dst) = some g:=by simp [p7,hg]
        refine .inr ⟨_,_,_,_,rfl,fun x hm=>?_⟩;unfold yq at hG;split at hG
        ·rename_i y hy;split at hG
         ·cases hG;exact fX hj hy hN (fun h=>Fy h1 ho h hN (hm h))
         ·cases hG;exact rq hj hy hN (fun hc h=>Fy h1 ho ⟨hc,h⟩ hN (hm ⟨hc,h⟩))
         ·cases hG
        ·cases hG
       ·cases h
      ·cases h
     ·cases h
    ·cases h
  ·cases h
 ·cases h
def step(P:ajs)[Inhabited (Tys P)](N:Nat)(st:Nat×Nat):Cf->Option (Cf×List Prop)
  | .code c k s=>match c with
    | .skip=>match afe 77777 st.1 with
      |true=>none
      |false=>some (.ex .normal k s,[])
    | .ret=>match afe 77777 st.1 with
      |true=>none
      |false=>some (.ex .ret k s,[])
    | .exit id=>match afe 77777 st.1 with
      |true=>none
      |false=>some (.ex (.exit id) k s,[])
    | .seq x y=>some (.code x (.seq y::k) s,[])
    | .block id c=>some (.code c (.blk id::k) s,[])
    | .region id A d=>match afe id st.1&&afe 0 st.2 with
      |true=>none
      |false=>match w6 A.toList with
        |true=>some (.ops id 0 A.toList d s A.toList [] k s,[])
        |false=>none
    |_=>none
  | .ops id i R d s0 ops us k s=>match ops with
    |[]=>match d with
      |false=>some (.ex .normal k s,[])
      |true=>none
    |o::ops=>match afe id st.1&&afe (i+1) st.2 with
      |true=>none
      |false=>match EQ P N R s o with
        |some (u,ob)=>some (.ap o u id i R d s0 ops us k s,ob)
        |none=>CE P N R s o (fun w rt=>.st w rt o id i R d s0 ops us k s) (fun G b w rt=>.sg G b w rt o id i R d s0 ops us k s)
  | .ap o u id i R d s0 ops us k s=>match s with
    |⟨sl,hp⟩=>match u with
      |⟨val,upd,rt,rd⟩=>match o.dst with
        |some t=>match upd with
          |[]=>some (.ops id (i+1) R d s0 ops (us++[⟨val,[],rt,rd⟩]) k ⟨(t,val)::sl,hp⟩,[])
          |p::q=>some (.ops id (i+1) R d s0 ops (us++[⟨val,p::q,rt,rd⟩]) k ⟨(t,val)::sl,p::(q++hp)⟩,[])
        |none=>some (.ops id (i+1) R d s0 ops (us++[⟨val,upd,rt,rd⟩]) k ⟨sl,upd++hp⟩,[])
  | .ex e k s=>match k with
    |[]=>none
    | .seq c::k=>match e with
      | .normal=>some (.code c k s,[])
      |e=>some (.ex e k s,[])
    | .blk id::k=>match e with
      | .exit id'=>match afe id' id with
        |true=>some (.ex .normal k s,[])
        |false=>some (.ex (.exit id') k s,[])
      |e=>some (.ex e k s,[])
    | .lp _::k=>match e with
      | .normal=>none
      |e=>some (.ex e k s,[])
  | .st .. => none
  | .sg .. => none
def run(P:ajs)[Inhabited (Tys P)](N:Nat)(st:Nat×Nat):Nat->Cf->List Prop->Option (Cf×List Prop)
  |0,c,ob=>some (c,ob)
  |n+1,c,ob=>match step P N st c with
    |none=>some (c,ob)
    |some (c',o)=>match o with
      |[]=>run P N st n c' ob
      |p::o=>run P N st n c' (p::(o++ob))
theorem Ml{st:Nat×Nat}{c c':Cf}{ob:List Prop}(h:step P N st c=some (c',ob))(ho:AllP ob)(hg:Gd P N Q c'):Gd P N Q c:=by
 unfold step at h;split at h
 ·split at h
  ·split at h
   ·cases h
   ·cases h;exact Hq hg
  ·split at h
   ·cases h
   ·cases h;exact J9 hg
  ·split at h
   ·cases h
   ·cases h;exact IA hg
  ·cases h;exact XP hg
  ·cases h;exact abe hg
  ·split at h
   ·cases h
   ·split at h
    ·rename_i b7;cases h;exact JV (CX b7) (fun _=>(default:Tys P).mix) hg
    ·cases h
  ·cases h
 ·split at h
  ·split at h
   ·cases h;simpa[Gd,gw]using hg
   ·cases h
  ·split at h
   ·cases h
   ·split at h
    ·rename_i h1;cases h;obtain⟨h2,h3⟩:=aad h1 ho;exact⟨_,h2,h3,hg⟩
    ·rcases Rq h ho with⟨w,rt,rfl,h2⟩ |⟨G,b,w,rt,rfl,h2⟩
     ·exact hg h2
     ·exact hg h2
 ·rename_i o u id i R d s0 ops us k s;obtain⟨sl,hp⟩:=s;obtain⟨val,upd,rt,rd⟩:=u;obtain⟨dst,op,ty,pos,after,guard⟩:=o;cases dst with
  |none=>cases h;exact hg
  |some t =>
   cases upd with
   |nil=>cases h;exact hg
   |cons p q=>cases h;exact hg
 ·rename_i e k s;cases k with
  |nil=>cases h
  |cons f k =>
   cases f with
   |seq c=>cases e <;> cases h <;> exact hg
   |blk id =>
    cases e with
    |exit id' =>
     show cI P N Q (.blk id::k) (.exit id') s;simp only[cI];simp only at h;split at h
     ·cases h;exact hg
     ·cases h;exact hg
    |_=>cases h;exact hg
   |lp K=>cases e <;> cases h <;> exact hg
 ·cases h
 ·cases h
theorem cf{st:Nat×Nat}:∀{n:Nat}{c c':Cf}{ob ob':List Prop},run P N st n c ob=some (c',ob')->AllP ob'->Gd P N Q c'->Gd P N Q c/\AllP ob
 |0,c,c',ob,ob',h,ho,hg=>by cases h;exact⟨hg,ho⟩
 |n+1,c,c',ob,ob',h,ho,hg=>by
  unfold run at h;split at h
  ·cases h;exact⟨hg,ho⟩
  ·rename_i c2 o h1;split at h
   ·obtain⟨h2,h3⟩:=cf h ho hg;exact⟨Ml h1 .nil h2,h3⟩
   ·rename_i p o;obtain⟨h2,h3⟩:=cf h ho hg;cases h3 with |cons h4 h5=>exact⟨Ml h1 (.cons h4 h5.app.1) h2,h5.app.2⟩
end Go.Lw
namespace Go.Lw
variable{P:ajs}{N:Nat}{Q:Exit->AS->Prop}
theorem aU{a b:bn}(h:SlW a b:=by repeat(first |exact SlW.nil |refine SlW.k ?_)):SlW a b:=h
theorem Wk.o {s : AS} {sl : bn} {hp : Hp} (h1 : SlW s.sl sl := by exact aU)
  (h2:HpW s.hp hp:=by repeat(first |exact HpW.nil |refine HpW.cons rfl (.refl _) ?_)):Wk s ⟨sl,hp⟩:=Wk.of h1 h2
def mr:Nat->List Fr->Option (List Fr×Code×List Fr)
  |0,.seq y::k=>some ([],y,k)
  |n+1,f::k=>match mr n k with
    |some (a,y,b)=>some (f::a,y,b)
    |none=>none
  |_,_=>none
theorem vR:∀{n:Nat}{k k1 k2:List Fr}{y:Code},mr n k=some (k1,y,k2)->k=k1 ++ .seq y::k2
 |0,[],_,_,_,h=>by simp[mr]at h
 |0,f::k,k1,k2,y,h=>by cases f <;> simp[mr]at h;obtain⟨rfl,rfl,rfl⟩:=h;rfl
 |n+1,[],_,_,_,h=>by simp[mr]at h
 |n+1,f::k,k1,k2,y,h=>by
  simp only[mr]at h;split at h
  ·rename_i h1;cases h;rw[vR h1];rfl
  ·cases h
theorem mF{k2:List Fr}{y:Code}{K:AS->Prop}(hK:∀s,K s->bb P N y (cI P N Q k2) s) :
  ∀(k1:List Fr)(e:Exit)(s:AS),cI P N Q (k1 ++ .lp K::k2) e s->cI P N Q (k1 ++ .seq y::k2) e s
 |[],e,s,h=>by cases e <;> first |exact hK s h |exact h
 | .seq c::k1,e,s,h=>by
  cases e with
  |normal=>exact jg (h:bb P N c _ s) (fun e s=>mF hK k1 e s)
  |_=>exact mF hK k1 _ s h
 | .blk id::k1,e,s,h=>by
  cases e with
  |exit id' =>
   simp only[agj,cI]at h ⊢;split at h
   ·exact mF hK k1 _ s h
   ·exact mF hK k1 _ s h
  |_=>exact mF hK k1 _ s h
 | .lp K'::k1,e,s,h=>by
  cases e with
  |normal=>exact h
  |_=>exact mF hK k1 _ s h
def tt:Nat->List AV->Option bn
  |_,[]=>some []
  |n,x::xs=>match tt (n+1) xs with
    |some l=>some ((n,some x)::l)
    |none=>none
theorem An:∀{xs:List AV}{n:Nat}{l:bn},tt n xs=some l->l=nT n xs
 |[],n,l,h=>by cases h;rfl
 |x::xs,n,l,h=>by
  unfold tt at h;split at h
  ·rename_i h1;cases h;rw[An h1];rfl
  ·cases h
def pk{α:Type}(l:List (Nat×Option α)):List Nat->Option (List (Nat×Option α))
  |[]=>some []
  |t::ts=>match lk l t with
    |some x=>match pk l ts with
      |some r=>some ((t,some x)::r)
      |none=>none
    |none=>none
theorem Jk{sl:bn}:∀{ts:List Nat}{r:bn},pk sl ts=some r->SlW sl r
 |[],r,h=>by cases h;exact .nil
 |t::ts,r,h=>by
  unfold pk at h;split at h
  ·rename_i h1;split at h
   ·rename_i h2;cases h;exact .cons h1 (.refl _) (Jk h2)
   ·cases h
  ·cases h
theorem LV{hp:Hp}:∀{ts:List Nat}{r:Hp},pk hp ts=some r->HpW hp r
 |[],r,h=>by cases h;exact .nil
 |t::ts,r,h=>by
  unfold pk at h;split at h
  ·rename_i h1;split at h
   ·rename_i h2;cases h;exact .cons h1 (.refl _) (LV h2)
   ·cases h
  ·cases h
theorem SlW.ap{sl a b:bn}(h:SlW sl a)(h':SlW sl b):SlW sl (a++b):=by
 induction h with
 |nil=>exact h'
 |cons h1 h2 _ ih=>exact .cons h1 h2 ih
theorem HpW.ap{sl a b:Hp}(h:HpW sl a)(h':HpW sl b):HpW sl (a++b):=by
 induction h with
 |nil=>exact h'
 |cons h1 h2 _ ih=>exact .cons h1 h2 ih
theorem Wk.p{s:AS}{a b:bn}{c d:Hp}{ks kh:List Nat}(h1:SlW s.sl a)(h2:HpW s.hp c)(hs:pk s.sl ks=some b)(hh:pk s.hp kh=some d):Wk s ⟨a++b,c++d⟩ :=
 Wk.of (h1.ap (Jk hs)) (h2.ap (LV hh))
def wH:Exit->Bool
  | .normal | .ret=>true
  |_=>false
theorem jI{s:AS}{x:Option AV}{rt rd:List Nat}:jz s ⟨x,[],rt,rd⟩:=fun _ hk=>by simp at hk
theorem wM{c:Code}{k:List Fr}{s:AS}{α:Type}{f:α->AV}{l:List α}{t sz:Nat}(ht:s.get t=some (.lst sz (l.map f)))(h:l.length<=az->Gd P N Q (.code c k s)):Gd P N Q (.code c k s):=XF ht h
theorem lR{S:AS}{F:Prop}{K:AS->Prop}{k:List Fr}{s:AS}(hK:∀(s1:AS),F->Wk s1 S->K s1)(hF:F)(hw:Wk s S:=by exact Wk.o):Gd P N Q (.ex .normal (.lp K::k) s):=hK s hF hw
theorem aE{P':Type}{S:P'->AS}{F:P'->Prop}{M:P'->Nat}{m0:Nat}{K:AS->Prop}{k:List Fr}{s:AS}(hK:∀(s1:AS),∀(p2:P'),F p2->M p2<m0->Wk s1 (S p2)->K s1)(p0:P')(hF:F p0)
  (hl:M p0<m0:=by first |omega |(dsimp only;omega)) (hw:Wk s (S p0):=by exact Wk.o):Gd P N Q (.ex .normal (.lp K::k) s):=hK s p0 hF hl hw
theorem ta{P':Type}{S:P'->AS}{F:P'->Prop}{K:AS->Prop}{k:List Fr}{s:AS}(hK:∀(s1:AS),∀(p:P'),F p->Wk s1 (S p)->K s1)(p0:P')(hF:F p0)(hw:Wk s (S p0):=by exact Wk.o):Gd P N Q (.ex .normal (.lp K::k) s):=hK s p0 hF hw
theorem fC{P' Q':Type}{S:P'->Q'->AS}{F:P'->Q'->Prop}{M:P'->Q'->Nat}{m0:Nat}{K:AS->Prop}{k:List Fr}{s:AS}(hK:∀(s1:AS),∀(p2:P')(q2:Q'),F p2 q2->M p2 q2<m0->Wk s1 (S p2 q2)->K s1)(p0:P')(q0:Q')(hF:F p0 q0)
  (hl:M p0 q0<m0:=by first |omega |(dsimp only;omega)) (hw:Wk s (S p0 q0):=by exact Wk.o):Gd P N Q (.ex .normal (.lp K::k) s):=hK s p0 q0 hF hl hw
theorem yA{P' Q':Type}{S:P'->Q'->AS}{F:P'->Q'->Prop}{K:AS->Prop}{k:List Fr}{s:AS}(hK:∀(s1:AS),∀(p:P')(q:Q'),F p q->Wk s1 (S p q)->K s1)(p0:P')(q0:Q')(hF:F p0 q0)(hw:Wk s (S p0 q0):=by exact Wk.o):Gd P N Q (.ex .normal (.lp K::k) s):=hK s p0 q0 hF hw
theorem ip{P' Q' R':Type}{S:P'->Q'->R'->AS}{F:P'->Q'->R'->Prop}{M:P'->Q'->R'->Nat}{m0:Nat}{K:AS->Prop}{k:List Fr}{s:AS}(hK:∀(s1:AS),∀(p2:P')(q2:Q')(r2:R'),F p2 q2 r2->M p2 q2 r2<m0->Wk s1 (S p2 q2 r2)->K s1)(p0:P')(q0:Q')(r0:R')(hF:F p0 q0 r0)
  (hl:M p0 q0 r0<m0:=by first |omega |(dsimp only;omega)) (hw:Wk s (S p0 q0 r0):=by exact Wk.o):Gd P N Q (.ex .normal (.lp K::k) s):=hK s p0 q0 r0 hF hl hw
theorem IH{P' Q' R' T':Type}{S:P'->Q'->R'->T'->AS}{F:P'->Q'->R'->T'->Prop}{M:P'->Q'->R'->T'->Nat}{m0:Nat}{K:AS->Prop}{k:List Fr}{s:AS}(hK:∀(s1:AS),∀(p2:P')(q2:Q')(r2:R')(t2:T'),F p2 q2 r2 t2->M p2 q2 r2 t2<m0->Wk s1 (S p2 q2 r2 t2)->K s1)(p0:P')(q0:Q')(r0:R')(t0:T')(hF:F p0 q0 r0 t0)
  (hl:M p0 q0 r0 t0<m0:=by first |omega |(dsimp only;omega)) (hw:Wk s (S p0 q0 r0 t0):=by exact Wk.o):Gd P N Q (.ex .normal (.lp K::k) s):=hK s p0 q0 r0 t0 hF hl hw
theorem NO{P' Q' R' T':Type}{S:P'->Q'->R'->T'->AS}{F:P'->Q'->R'->T'->Prop}{K:AS->Prop}{k:List Fr}{s:AS}(hK:∀(s1:AS),∀(p:P')(q:Q')(r:R')(t:T'),F p q r t->Wk s1 (S p q r t)->K s1)(p0:P')(q0:Q')(r0:R')(t0:T')(hF:F p0 q0 r0 t0)(hw:Wk s (S p0 q0 r0 t0):=by exact Wk.o):Gd P N Q (.ex .normal (.lp K::k) s):=hK s p0 q0 r0 t0 hF hw
theorem H0{P' Q' R' T' U':Type}{S:P'->Q'->R'->T'->U'->AS}{F:P'->Q'->R'->T'->U'->Prop}{M:P'->Q'->R'->T'->U'->Nat}{m0:Nat}{K:AS->Prop}{k:List Fr}{s:AS}(hK:∀(s1:AS),∀(p2:P')(q2:Q')(r2:R')(t2:T')(u2:U'),F p2 q2 r2 t2 u2->M p2 q2 r2 t2 u2<m0->Wk s1 (S p2 q2 r2 t2 u2)->K s1)(p0:P')(q0:Q')(r0:R')(t0:T')(u0:U')(hF:F p0 q0 r0 t0 u0)
  (hl:M p0 q0 r0 t0 u0<m0:=by first |omega |(dsimp only;omega)) (hw:Wk s (S p0 q0 r0 t0 u0):=by exact Wk.o):Gd P N Q (.ex .normal (.lp K::k) s):=hK s p0 q0 r0 t0 u0 hF hl hw
variable[Inhabited (Tys P)]
variable{s:AS}{k:List Fr}{ob:List Prop}{c':Cf}{us:List Out}{s0:AS}{id i:Nat}{R:List Oper}{sl:bn}{ops:List Oper}{o:Oper}{draw:Bool}{rt:List Nat}{hp:Hp}{u:Out}
def pO(P:ajs)[Inhabited (Tys P)](s:AS):List ResultVar->Option (List AV)
  |[]=>some []
  |r::rs=>match pO P s rs with
    |some xs=>match r with
      | .tmp t=>match s.get t with
        |some x=>some (x::xs)
        |none=>none
      | .cell t T=>match s.get t with
        |some (.ptr k off)=>match s.blk k with
          |some (.box cs)=>match bS P T with
            |some ti=>match afe off 0&&Nat.ble ti.size cs.length with
              |true=>match xl ti cs with
                |some v=>some (v::xs)
                |none=>none
              |false=>none
            |none=>none
          |_=>none
        |_=>none
    |none=>none
theorem Es{s:AS}:∀{rs:List ResultVar}{xs:List AV},pO P s rs=some xs->ResL P s rs xs
 |[],xs,h=>by cases h;exact .nil
 |r::rs,xs,h=>by
  unfold pO at h;split at h
  ·rename_i ys hy;have ih:=Es hy;split at h
   ·split at h
    ·rename_i hx;cases h;exact .cons (.tmp hx) ih
    ·cases h
   ·split at h
    ·rename_i hx;split at h
     ·rename_i hk;split at h
      ·rename_i ti bR;split at h
       ·rename_i hc;simp only[ah7]at hc;have:=ah5 hc.1;subst this;split at h
        ·rename_i v hv;cases h;obtain⟨h2,rfl⟩:=EP hv;exact .cons (.cell hx hk (bA bR) hc.2 h2) ih
        ·cases h
       ·cases h
      ·cases h
     ·cases h
    ·cases h
  ·cases h
theorem gR {rs : List ResultVar} {xs : List AV} {r : AV} {H' : Hp} {e : Exit} (h : aJ s (dD xs) r H') (hx : pO P s rs = some xs := by exact rfl) (he : wH e = true := by exact rfl) :
  Gd P N (nY P rs r H') (.ex e [] s):=by
 cases e <;> first |exact⟨xs,Es hx,h⟩ |cases he
theorem ah {rs : List ResultVar} {x r : AV} {e : Exit} (h : x = r) (hx : pO P s rs = some [x] := by exact rfl) (he : wH e = true := by exact rfl) :
  Gd P N (nY P rs r []) (.ex e [] s):=gR (N3 h) hx he
theorem bq {rs : List ResultVar} {x y r : AV} {e : Exit} (h : .tup [x, y] = r) (hx : pO P s rs = some [x, y] := by exact rfl) (he : wH e = true := by exact rfl) :
  Gd P N (nY P rs r []) (.ex e [] s):=gR (Rr h) hx he
theorem mv {rs : List ResultVar} {x y z r : AV} {e : Exit} (h : .tup [x, y, z] = r) (hx : pO P s rs = some [x, y, z] := by exact rfl) (he : wH e = true := by exact rfl) :
  Gd P N (nY P rs r []) (.ex e [] s):=gR (wm h) hx he
theorem cr{ob:List Prop}(h:AllP ob:=by repeat(first |exact AllP.nil |refine AllP.cons (by first |(intro h;(try simp only[pG]at h);simp only[h,beq_self_eq_true,Bool.and_self];done) |exact Sd _ |exact .inl rfl |exact .inr ⟨_,_,rfl⟩ |(intro h;simp_all;done)) ?_)):AllP ob:=h
theorem go{c c':Cf}(h:Gd P N Q c')(st:Nat×Nat:=(99999,0))(hr:run P N st 999 c []=some (c',ob):=by exact rfl)(ho:AllP ob:=by exact cr):Gd P N Q c:=(cf hr ho h).1
theorem gW{c:Code}{s s':AS}(hw:Wk s s')(h:Gd P N Q c')(st:Nat×Nat:=(99999,0))(hr:run P N st 999 (.code c k s') []=some (c',ob):=by exact rfl)(ho:AllP ob:=by exact cr):Gd P N Q (.code c k s):=rj hw (cf hr ho h).1
theorem gC{c:ajp}{x y:Code}{b:Bool}{c1 c2:Cf}{ob1 ob2:List Prop}(ht:b=true->Gd P N Q c1)(hf:b=false->Gd P N Q c2)(st1:Nat×Nat:=(99999,0))(st2:Nat×Nat:=(99999,0))
  (hc:Ev s c (.v (.bool b)):=by first |exact .tmp rfl |exact .const _) (aQ:run P N st1 999 (.code x k s) []=some (c1,ob1):=by exact rfl) (gn:AllP ob1:=by exact cr) (ek:run P N st2 999 (.code y k s) []=some (c2,ob2):=by exact rfl) (iA:AllP ob2:=by exact cr) :
  Gd P N Q (.code (.cond c x y) k s):=yw hc (fun h=>(cf aQ gn (ht h)).1) (fun h=>(cf ek iA (hf h)).1)
theorem gf {c : ajp} {x y : Code} {b : Bool} {c2 : Cf} {ob2 : List Prop} (hf : Gd P N Q c2) (st2 : Nat × Nat := (99999, 0)) (hc : Ev s c (.v (.bool b)) := by first | exact .tmp rfl | exact .const _) (hb : b = false := by rfl) (ek : run P N st2 999 (.code y k s) [] = some (c2, ob2) := by exact rfl) (iA : AllP ob2 := by exact cr) :
  Gd P N Q (.code (.cond c x y) k s):=yw hc (fun h=>Bool.noConfusion (hb.symm.trans h)) (fun _=>(cf ek iA hf).1)
theorem gs (hs : Step P N R.toArray s o u) (h : Gd P N Q c') (st : Nat × Nat := (99999, 0)) (hn : jz s u := by first | exact vW rfl | exact jI) (hr : run P N st 999 (.ap o u id i R draw s0 ops us k s) [] = some (c', ob) := by exact rfl) (ho : AllP ob := by exact cr) :
  Gd P N Q (.ops id i R draw s0 (o::ops) us k s):=⟨u,hs,hn,(cf hr ho h).1⟩
theorem gt {w : Want} (hs : Step P N R.toArray s o u) (h : Gd P N Q c') (st : Nat × Nat := (99999, 0)) (hn : jz s u := by first | exact vW rfl | exact jI) (hr : run P N st 999 (.ap o u id i R draw s0 ops us k s) [] = some (c', ob) := by exact rfl) (ho : AllP ob := by exact cr) :
  Gd P N Q (.st w rt o id i R draw s0 ops us k s):=fun _=>⟨u,hs,hn,(cf hr ho h).1⟩
theorem gu {G : Prop} {b : Bool} {w : Want} (hs : Step P N R.toArray s o u) (h : Gd P N Q c') (st : Nat × Nat := (99999, 0)) (hn : jz s u := by first | exact vW rfl | exact jI) (hr : run P N st 999 (.ap o u id i R draw s0 ops us k s) [] = some (c', ob) := by exact rfl) (ho : AllP ob := by exact cr) :
  Gd P N Q (.sg G b w rt o id i R draw s0 ops us k s):=fun _=>⟨u,hs,hn,(cf hr ho h).1⟩
theorem ga {op : BinOp} {K : IntKind} {a b n : Int} (he : K.wrap (fq op a b) = n) (h : Gd P N Q c') (st : Nat × Nat := (99999, 0)) (hr : run P N st 999 (.ap o ⟨some (.v (.int K n)), [], rt, []⟩ id i R draw s0 ops us k s) [] = some (c', ob) := by exact rfl) (ho : AllP ob := by exact cr) :
  Gd P N Q (.st (.ar op K a b) rt o id i R draw s0 ops us k s):=fun cg=>⟨⟨some (.v (.int K n)),[],rt,[]⟩,cg _ (⟨_,he,rfl⟩),jI,(cf hr ho h).1⟩
theorem kG {op : BinOp} {K : IntKind} {a b n : Int} {G : Prop} {b0 : Bool} (he : G -> K.wrap (fq op a b) = n) (h : Gd P N Q c') (st : Nat × Nat := (99999, 0)) (hr : run P N st 999 (.ap o ⟨some (.opt b0 (.v (.int K n))), [], rt, []⟩ id i R draw s0 ops us k s) [] = some (c', ob) := by exact rfl) (ho : AllP ob := by exact cr) :
  Gd P N Q (.sg G b0 (.ar op K a b) rt o id i R draw s0 ops us k s):=fun cg=>⟨⟨some (.opt b0 (.v (.int K n))),[],rt,[]⟩,cg _ (fun hG=>⟨_,(he hG),rfl⟩),jI,(cf hr ho h).1⟩
theorem gv {K : IntKind} {n m : Int} (he : K.wrap n = m) (h : Gd P N Q c') (st : Nat × Nat := (99999, 0)) (hr : run P N st 999 (.ap o ⟨some (.v (.int K m)), [], rt, []⟩ id i R draw s0 ops us k s) [] = some (c', ob) := by exact rfl) (ho : AllP ob := by exact cr) :
  Gd P N Q (.st (.cv K n) rt o id i R draw s0 ops us k s):=fun cg=>⟨⟨some (.v (.int K m)),[],rt,[]⟩,cg _ (⟨_,he,rfl⟩),jI,(cf hr ho h).1⟩
theorem Vu {K : IntKind} {n m : Int} {G : Prop} {b0 : Bool} (he : G -> K.wrap n = m) (h : Gd P N Q c') (st : Nat × Nat := (99999, 0)) (hr : run P N st 999 (.ap o ⟨some (.opt b0 (.v (.int K m))), [], rt, []⟩ id i R draw s0 ops us k s) [] = some (c', ob) := by exact rfl) (ho : AllP ob := by exact cr) :
  Gd P N Q (.sg G b0 (.cv K n) rt o id i R draw s0 ops us k s):=fun cg=>⟨⟨some (.opt b0 (.v (.int K m))),[],rt,[]⟩,cg _ (fun hG=>⟨_,(he hG),rfl⟩),jI,(cf hr ho h).1⟩
theorem gl {α : Type} {f : α -> AV} {l : List α} {es : List AV} (h : Gd P N Q c') (st : Nat × Nat := (99999, 0)) (he : es = l.map f := by exact rfl) (hr : run P N st 999 (.ap o ⟨some (.v (.int .i64 (l.length : Nat))), [], rt, []⟩ id i R draw s0 ops us k s) [] = some (c', ob) := by exact rfl) (ho : AllP ob := by exact cr) :
  Gd P N Q (.st (.ln es) rt o id i R draw s0 ops us k s):=fun cg=>⟨⟨some (.v (.int .i64 (l.length:Nat))),[],rt,[]⟩,cg _ (⟨_,(by rw[he,ah6]),rfl⟩),jI,(cf hr ho h).1⟩
theorem cq {α : Type} {f : α -> AV} {l : List α} {es : List AV} {G : Prop} {b0 : Bool} (h : Gd P N Q c') (st : Nat × Nat := (99999, 0)) (he : G -> es = l.map f := by intro h; exact rfl) (hr : run P N st 999 (.ap o ⟨some (.opt b0 (.v (.int .i64 (l.length : Nat)))), [], rt, []⟩ id i R draw s0 ops us k s) [] = some (c', ob) := by exact rfl) (ho : AllP ob := by exact cr) :
  Gd P N Q (.sg G b0 (.ln es) rt o id i R draw s0 ops us k s):=fun cg=>⟨⟨some (.opt b0 (.v (.int .i64 (l.length:Nat)))),[],rt,[]⟩,cg _ (fun hG=>⟨_,(by rw[(he hG),ah6]),rfl⟩),jI,(cf hr ho h).1⟩
theorem ge {n : Nat} {es : List AV} (he : es.length = n) (h : Gd P N Q c') (st : Nat × Nat := (99999, 0)) (hr : run P N st 999 (.ap o ⟨some (.v (.int .i64 n)), [], rt, []⟩ id i R draw s0 ops us k s) [] = some (c', ob) := by exact rfl) (ho : AllP ob := by exact cr) :
  Gd P N Q (.st (.ln es) rt o id i R draw s0 ops us k s):=fun cg=>⟨⟨some (.v (.int .i64 n)),[],rt,[]⟩,cg _ (⟨_,he,rfl⟩),jI,(cf hr ho h).1⟩
theorem gi {es : List AV} {e : AV} {z : Int} (he : es[z.toNat]? = some e) (h : Gd P N Q c') (st : Nat × Nat := (99999, 0)) (h0 : 0 <= z := by omega) (hr : run P N st 999 (.ap o ⟨some (.iptr e.cells), [], rt, []⟩ id i R draw s0 ops us k s) [] = some (c', ob) := by exact rfl) (ho : AllP ob := by exact cr) :
  Gd P N Q (.st (.ix es z) rt o id i R draw s0 ops us k s):=fun cg=>⟨⟨some (.iptr e.cells),[],rt,[]⟩,cg _ (⟨h0,_,he,rfl⟩),jI,(cf hr ho h).1⟩
theorem mS {es : List AV} {e : AV} {z : Int} {G : Prop} {b0 : Bool} (he : G -> es[z.toNat]? = some e) (h : Gd P N Q c') (st : Nat × Nat := (99999, 0)) (h0 : G -> 0 <= z := by intro h; omega) (hr : run P N st 999 (.ap o ⟨some (.opt b0 (.iptr e.cells)), [], rt, []⟩ id i R draw s0 ops us k s) [] = some (c', ob) := by exact rfl) (ho : AllP ob := by exact cr) :
  Gd P N Q (.sg G b0 (.ix es z) rt o id i R draw s0 ops us k s):=fun cg=>⟨⟨some (.opt b0 (.iptr e.cells)),[],rt,[]⟩,cg _ (fun hG=>⟨(h0 hG),_,(he hG),rfl⟩),jI,(cf hr ho h).1⟩
theorem gc {f : FuncId} {xs : List AV} {r : AV} (hc : jF P f xs r) (h : Gd P N Q c') (st : Nat × Nat := (99999, 0)) (hnm : r.nm = [] := by exact rfl) (hr : run P N st 999 (.ap o ⟨some (r), [], rt, []⟩ id i R draw s0 ops us k s) [] = some (c', ob) := by exact rfl) (ho : AllP ob := by exact cr) :
  Gd P N Q (.st (.cl f xs) rt o id i R draw s0 ops us k s):=fun cg=>⟨⟨some (r),[],rt,[]⟩,cg _ (⟨hc,hnm⟩),jI,(cf hr ho h).1⟩
theorem bP {f : FuncId} {xs : List AV} {r : AV} {G : Prop} {b0 : Bool} (hc : G -> jF P f xs r) (h : Gd P N Q c') (st : Nat × Nat := (99999, 0)) (hnm : G -> r.nm = [] := by intro h; exact rfl) (hr : run P N st 999 (.ap o ⟨some (.opt b0 (r)), [], rt, []⟩ id i R draw s0 ops us k s) [] = some (c', ob) := by exact rfl) (ho : AllP ob := by exact cr) :
  Gd P N Q (.sg G b0 (.cl f xs) rt o id i R draw s0 ops us k s):=fun cg=>⟨⟨some (.opt b0 (r)),[],rt,[]⟩,cg _ (fun hG=>⟨(hc hG),(hnm hG)⟩),jI,(cf hr ho h).1⟩
theorem gD (h : Gd P N Q c') (st : Nat × Nat := (99999, 0)) (hc : chk R us s0 = true := by kernel_rfl) (hr : run P N st 999 (.ex .normal k s) [] = some (c', ob) := by exact rfl) (ho : AllP ob := by exact cr) :
  Gd P N Q (.ops id i R true s0 [] us k s):=by
 simp only[Gd,gw];exact⟨fun _=>hc,(cf hr ho h).1⟩
theorem gF{f:FuncId}{fn:Func}{c:Code}{args:List AV}{H:Hp}{r:AV}{H':Hp}(hf:P.funcs[f]?=some fn)(hH:∀k z,lk H k=some z->1000<=k)
  (h : Gd P fn.ntmps (nY P fn.results.toList r H') c') (st : Nat × Nat := (99999, 0)) (hb : fn.body = some c := by exact rfl) (hn : (fn.name == "runtime.NumGoroutine") = false := by exact rfl)
  (hs:tt 0 args=some sl:=by exact rfl) (hr:run P fn.ntmps st 999 (.code c [] ⟨sl,H⟩) []=some (c',ob):=by exact rfl) (ho:AllP ob:=by exact cr):Con P f args H r H':=CS hf hb hn (by simp) rfl hH (An hs▸(cf hr ho h).1)
theorem ak{f:FuncId}{fn:Func}{c:Code}{args:List AV}{r:AV}(hf:P.funcs[f]?=some fn)
  (h : Gd P fn.ntmps (nY P fn.results.toList r []) c') (st : Nat × Nat := (99999, 0)) (hb : fn.body = some c := by exact rfl) (hn : (fn.name == "runtime.NumGoroutine") = false := by exact rfl)
  (hs:tt 0 args=some sl:=by exact rfl) (hr:run P fn.ntmps st 999 (.code c [] ⟨sl,[]⟩) []=some (c',ob):=by exact rfl) (ho:AllP ob:=by exact cr):jF P f args r:=aav hf hb hn (by simp) rfl (An hs▸(cf hr ho h).1)
theorem wb{c y:Code}{k k1 k2:List Fr}{c1:(AS->Prop)->Cf}{ob1:(AS->Prop)->List Prop}{c2:Cf}{ob2:List Prop}(ks kh:List Nat)(f:bn)(g:Hp)(F:Prop)(h1:∀K:AS->Prop,(∀(s1:AS),F->Wk s1 ⟨f++sl,g++hp⟩->K s1)->Gd P N Q (c1 K))
  (h2:F->Gd P N Q (c2)) (n:Nat:=0) (st1:Nat×Nat:=(99999,0)) (st2:Nat×Nat:=(99999,0)) (hk:mr n k=some (k1,y,k2):=by exact rfl) (hs:pk s.sl ks=some sl:=by exact rfl) (hh:pk s.hp kh=some hp:=by exact rfl) (aQ:∀K,run P N st1 999 (.code c (k1 ++ .lp K::k2) s) []=some (c1 K,ob1 K):=by intros;exact rfl) (gn:∀K,AllP (ob1 K):=by intros;exact cr) (ek:run P N st2 999 (.code y k2 ⟨f++sl,g++hp⟩) []=some (c2,ob2):=by intros;exact rfl) (iA:AllP (ob2):=by intros;exact cr):Gd P N Q (.code c k s):=by
 rw[vR hk];exact jg (cf (aQ (fun s=>bb P N y (cI P N Q k2) s)) (gn _) (h1 (fun s=>bb P N y (cI P N Q k2) s) (fun s1 hF hw=>rj hw (cf (ek) (iA) (h2 hF)).1))).1 (fun e s=>mF (fun s h=>h) k1 e s)
theorem aK{P':Type}{c:Code}{C:P'->(AS->Prop)->Cf}{ob:P'->(AS->Prop)->List Prop}(ks kh:List Nat)(f:P'->bn)(g:P'->Hp)(F:P'->Prop)(M:P'->Nat)(p0:P')(hF:F p0)
  (h:∀(p:P'),F p->∀K:AS->Prop,(∀(s1:AS),∀(p2:P'),F p2->M p2<M p->Wk s1 ⟨f p2++sl,g p2++hp⟩->K s1)->Gd P N Q (C p K)) (st:Nat×Nat:=(99999,0)) (hs:pk s.sl ks=some sl:=by exact rfl) (hh:pk s.hp kh=some hp:=by exact rfl)
  (h1:SlW s.sl (f p0):=by exact aU) (h2:HpW s.hp (g p0):=by repeat(first |exact HpW.nil |refine HpW.cons rfl (.refl _) ?_)) (hr:∀(p:P'),∀K,run P N st 999 (.code c (.lp K::k) ⟨f p++sl,g p++hp⟩) []=some (C p K,ob p K):=by intros;exact rfl) (ho:∀(p:P'),∀K,AllP (ob p K):=by intros;exact cr):Gd P N Q (.code (.loop c) k s):=by
 refine ud (fun n s=>∃(p:P'),M p=n/\F p/\s=⟨f p++sl,g p++hp⟩) (Wk.p h1 h2 hs hh) ⟨p0,rfl,hF,rfl⟩ ?_;rintro n s ⟨p,rfl,hF,rfl⟩ K hK;exact jg (cf (hr p K) (ho p K) (h p hF K (fun s1 p2 h1 h2 h3=>hK s1 _ _ h3 ⟨p2,rfl,h1,rfl⟩ h2))).1 (fun e s he=>by cases e <;> exact he)
theorem Fu{P':Type}{c y:Code}{k k1 k2:List Fr}{c1:(AS->Prop)->Cf}{ob1:(AS->Prop)->List Prop}{c2:P'->Cf}{ob2:P'->List Prop}(ks kh:List Nat)(f:P'->bn)(g:P'->Hp)(F:P'->Prop)(h1:∀K:AS->Prop,(∀(s1:AS),∀(p:P'),F p->Wk s1 ⟨f p++sl,g p++hp⟩->K s1)->Gd P N Q (c1 K))
  (h2:∀(p:P'),F p->Gd P N Q (c2 p)) (n:Nat:=0) (st1:Nat×Nat:=(99999,0)) (st2:Nat×Nat:=(99999,0)) (hk:mr n k=some (k1,y,k2):=by exact rfl) (hs:pk s.sl ks=some sl:=by exact rfl) (hh:pk s.hp kh=some hp:=by exact rfl) (aQ:∀K,run P N st1 999 (.code c (k1 ++ .lp K::k2) s) []=some (c1 K,ob1 K):=by intros;exact rfl) (gn:∀K,AllP (ob1 K):=by intros;exact cr) (ek:∀(p:P'),run P N st2 999 (.code y k2 ⟨f p++sl,g p++hp⟩) []=some (c2 p,ob2 p):=by intros;exact rfl) (iA:∀(p:P'),AllP (ob2 p):=by intros;exact cr):Gd P N Q (.code c k s):=by
 rw[vR hk];exact jg (cf (aQ (fun s=>bb P N y (cI P N Q k2) s)) (gn _) (h1 (fun s=>bb P N y (cI P N Q k2) s) (fun s1 p hF hw=>rj hw (cf (ek p) (iA p) (h2 p hF)).1))).1 (fun e s=>mF (fun s h=>h) k1 e s)
theorem fF{P' Q':Type}{c:Code}{C:P'->Q'->(AS->Prop)->Cf}{ob:P'->Q'->(AS->Prop)->List Prop}(ks kh:List Nat)(f:P'->Q'->bn)(g:P'->Q'->Hp)(F:P'->Q'->Prop)(M:P'->Q'->Nat)(p0:P')(q0:Q')(hF:F p0 q0)
  (h:∀(p:P')(q:Q'),F p q->∀K:AS->Prop,(∀(s1:AS),∀(p2:P')(q2:Q'),F p2 q2->M p2 q2<M p q->Wk s1 ⟨f p2 q2++sl,g p2 q2++hp⟩->K s1)->Gd P N Q (C p q K)) (st:Nat×Nat:=(99999,0)) (hs:pk s.sl ks=some sl:=by exact rfl) (hh:pk s.hp kh=some hp:=by exact rfl)
  (h1:SlW s.sl (f p0 q0):=by exact aU) (h2:HpW s.hp (g p0 q0):=by repeat(first |exact HpW.nil |refine HpW.cons rfl (.refl _) ?_)) (hr:∀(p:P')(q:Q'),∀K,run P N st 999 (.code c (.lp K::k) ⟨f p q++sl,g p q++hp⟩) []=some (C p q K,ob p q K):=by intros;exact rfl) (ho:∀(p:P')(q:Q'),∀K,AllP (ob p q K):=by intros;exact cr):Gd P N Q (.code (.loop c) k s):=by
 refine ud (fun n s=>∃(p:P')(q:Q'),M p q=n/\F p q/\s=⟨f p q++sl,g p q++hp⟩) (Wk.p h1 h2 hs hh) ⟨p0,q0,rfl,hF,rfl⟩ ?_;rintro n s ⟨p,q,rfl,hF,rfl⟩ K hK;exact jg (cf (hr p q K) (ho p q K) (h p q hF K (fun s1 p2 q2 h1 h2 h3=>hK s1 _ _ h3 ⟨p2,q2,rfl,h1,rfl⟩ h2))).1 (fun e s he=>by cases e <;> exact he)
theorem ID{P' Q':Type}{c y:Code}{k k1 k2:List Fr}{c1:(AS->Prop)->Cf}{ob1:(AS->Prop)->List Prop}{c2:P'->Q'->Cf}{ob2:P'->Q'->List Prop}(ks kh:List Nat)(f:P'->Q'->bn)(g:P'->Q'->Hp)(F:P'->Q'->Prop)(h1:∀K:AS->Prop,(∀(s1:AS),∀(p:P')(q:Q'),F p q->Wk s1 ⟨f p q++sl,g p q++hp⟩->K s1)->Gd P N Q (c1 K))
  (h2:∀(p:P')(q:Q'),F p q->Gd P N Q (c2 p q)) (n:Nat:=0) (st1:Nat×Nat:=(99999,0)) (st2:Nat×Nat:=(99999,0)) (hk:mr n k=some (k1,y,k2):=by exact rfl) (hs:pk s.sl ks=some sl:=by exact rfl) (hh:pk s.hp kh=some hp:=by exact rfl) (aQ:∀K,run P N st1 999 (.code c (k1 ++ .lp K::k2) s) []=some (c1 K,ob1 K):=by intros;exact rfl) (gn:∀K,AllP (ob1 K):=by intros;exact cr) (ek:∀(p:P')(q:Q'),run P N st2 999 (.code y k2 ⟨f p q++sl,g p q++hp⟩) []=some (c2 p q,ob2 p q):=by intros;exact rfl) (iA:∀(p:P')(q:Q'),AllP (ob2 p q):=by intros;exact cr):Gd P N Q (.code c k s):=by
 rw[vR hk];exact jg (cf (aQ (fun s=>bb P N y (cI P N Q k2) s)) (gn _) (h1 (fun s=>bb P N y (cI P N Q k2) s) (fun s1 p q hF hw=>rj hw (cf (ek p q) (iA p q) (h2 p q hF)).1))).1 (fun e s=>mF (fun s h=>h) k1 e s)
theorem jf{P' Q' R':Type}{c:Code}{C:P'->Q'->R'->(AS->Prop)->Cf}{ob:P'->Q'->R'->(AS->Prop)->List Prop}(ks kh:List Nat)(f:P'->Q'->R'->bn)(g:P'->Q'->R'->Hp)(F:P'->Q'->R'->Prop)(M:P'->Q'->R'->Nat)(p0:P')(q0:Q')(r0:R')(hF:F p0 q0 r0)
  (h:∀(p:P')(q:Q')(r:R'),F p q r->∀K:AS->Prop,(∀(s1:AS),∀(p2:P')(q2:Q')(r2:R'),F p2 q2 r2->M p2 q2 r2<M p q r->Wk s1 ⟨f p2 q2 r2++sl,g p2 q2 r2++hp⟩->K s1)->Gd P N Q (C p q r K)) (st:Nat×Nat:=(99999,0)) (hs:pk s.sl ks=some sl:=by exact rfl) (hh:pk s.hp kh=some hp:=by exact rfl)
  (h1:SlW s.sl (f p0 q0 r0):=by exact aU) (h2:HpW s.hp (g p0 q0 r0):=by repeat(first |exact HpW.nil |refine HpW.cons rfl (.refl _) ?_)) (hr:∀(p:P')(q:Q')(r:R'),∀K,run P N st 999 (.code c (.lp K::k) ⟨f p q r++sl,g p q r++hp⟩) []=some (C p q r K,ob p q r K):=by intros;exact rfl) (ho:∀(p:P')(q:Q')(r:R'),∀K,AllP (ob p q r K):=by intros;exact cr):Gd P N Q (.code (.loop c) k s):=by
 refine ud (fun n s=>∃(p:P')(q:Q')(r:R'),M p q r=n/\F p q r/\s=⟨f p q r++sl,g p q r++hp⟩) (Wk.p h1 h2 hs hh) ⟨p0,q0,r0,rfl,hF,rfl⟩ ?_;rintro n s ⟨p,q,r,rfl,hF,rfl⟩ K hK;exact jg (cf (hr p q r K) (ho p q r K) (h p q r hF K (fun s1 p2 q2 r2 h1 h2 h3=>hK s1 _ _ h3 ⟨p2,q2,r2,rfl,h1,rfl⟩ h2))).1 (fun e s he=>by cases e <;> exact he)
theorem Vk{P' Q' R' T':Type}{c:Code}{C:P'->Q'->R'->T'->(AS->Prop)->Cf}{ob:P'->Q'->R'->T'->(AS->Prop)->List Prop}(ks kh:List Nat)(f:P'->Q'->R'->T'->bn)(g:P'->Q'->R'->T'->Hp)(F:P'->Q'->R'->T'->Prop)(M:P'->Q'->R'->T'->Nat)(p0:P')(q0:Q')(r0:R')(t0:T')(hF:F p0 q0 r0 t0)
  (h:∀(p:P')(q:Q')(r:R')(t:T'),F p q r t->∀K:AS->Prop,(∀(s1:AS),∀(p2:P')(q2:Q')(r2:R')(t2:T'),F p2 q2 r2 t2->M p2 q2 r2 t2<M p q r t->Wk s1 ⟨f p2 q2 r2 t2++sl,g p2 q2 r2 t2++hp⟩->K s1)->Gd P N Q (C p q r t K)) (st:Nat×Nat:=(99999,0)) (hs:pk s.sl ks=some sl:=by exact rfl) (hh:pk s.hp kh=some hp:=by exact rfl)
  (h1:SlW s.sl (f p0 q0 r0 t0):=by exact aU) (h2:HpW s.hp (g p0 q0 r0 t0):=by repeat(first |exact HpW.nil |refine HpW.cons rfl (.refl _) ?_)) (hr:∀(p:P')(q:Q')(r:R')(t:T'),∀K,run P N st 999 (.code c (.lp K::k) ⟨f p q r t++sl,g p q r t++hp⟩) []=some (C p q r t K,ob p q r t K):=by intros;exact rfl) (ho:∀(p:P')(q:Q')(r:R')(t:T'),∀K,AllP (ob p q r t K):=by intros;exact cr):Gd P N Q (.code (.loop c) k s):=by
 refine ud (fun n s=>∃(p:P')(q:Q')(r:R')(t:T'),M p q r t=n/\F p q r t/\s=⟨f p q r t++sl,g p q r t++hp⟩) (Wk.p h1 h2 hs hh) ⟨p0,q0,r0,t0,rfl,hF,rfl⟩ ?_;rintro n s ⟨p,q,r,t,rfl,hF,rfl⟩ K hK;exact jg (cf (hr p q r t K) (ho p q r t K) (h p q r t hF K (fun s1 p2 q2 r2 t2 h1 h2 h3=>hK s1 _ _ h3 ⟨p2,q2,r2,t2,rfl,h1,rfl⟩ h2))).1 (fun e s he=>by cases e <;> exact he)
theorem Uw{P' Q' R' T':Type}{c y:Code}{k k1 k2:List Fr}{c1:(AS->Prop)->Cf}{ob1:(AS->Prop)->List Prop}{c2:P'->Q'->R'->T'->Cf}{ob2:P'->Q'->R'->T'->List Prop}(ks kh:List Nat)(f:P'->Q'->R'->T'->bn)(g:P'->Q'->R'->T'->Hp)(F:P'->Q'->R'->T'->Prop)(h1:∀K:AS->Prop,(∀(s1:AS),∀(p:P')(q:Q')(r:R')(t:T'),F p q r t->Wk s1 ⟨f p q r t++sl,g p q r t++hp⟩->K s1)->Gd P N Q (c1 K))
  (h2:∀(p:P')(q:Q')(r:R')(t:T'),F p q r t->Gd P N Q (c2 p q r t)) (n:Nat:=0) (st1:Nat×Nat:=(99999,0)) (st2:Nat×Nat:=(99999,0)) (hk:mr n k=some (k1,y,k2):=by exact rfl) (hs:pk s.sl ks=some sl:=by exact rfl) (hh:pk s.hp kh=some hp:=by exact rfl) (aQ:∀K,run P N st1 999 (.code c (k1 ++ .lp K::k2) s) []=some (c1 K,ob1 K):=by intros;exact rfl) (gn:∀K,AllP (ob1 K):=by intros;exact cr) (ek:∀(p:P')(q:Q')(r:R')(t:T'),run P N st2 999 (.code y k2 ⟨f p q r t++sl,g p q r t++hp⟩) []=some (c2 p q r t,ob2 p q r t):=by intros;exact rfl) (iA:∀(p:P')(q:Q')(r:R')(t:T'),AllP (ob2 p q r t):=by intros;exact cr):Gd P N Q (.code c k s):=by
 rw[vR hk];exact jg (cf (aQ (fun s=>bb P N y (cI P N Q k2) s)) (gn _) (h1 (fun s=>bb P N y (cI P N Q k2) s) (fun s1 p q r t hF hw=>rj hw (cf (ek p q r t) (iA p q r t) (h2 p q r t hF)).1))).1 (fun e s=>mF (fun s h=>h) k1 e s)
theorem HR{P' Q' R' T' U':Type}{c:Code}{C:P'->Q'->R'->T'->U'->(AS->Prop)->Cf}{ob:P'->Q'->R'->T'->U'->(AS->Prop)->List Prop}(ks kh:List Nat)(f:P'->Q'->R'->T'->U'->bn)(g:P'->Q'->R'->T'->U'->Hp)(F:P'->Q'->R'->T'->U'->Prop)(M:P'->Q'->R'->T'->U'->Nat)(p0:P')(q0:Q')(r0:R')(t0:T')(u0:U')(hF:F p0 q0 r0 t0 u0)
  (h:∀(p:P')(q:Q')(r:R')(t:T')(u:U'),F p q r t u->∀K:AS->Prop,(∀(s1:AS),∀(p2:P')(q2:Q')(r2:R')(t2:T')(u2:U'),F p2 q2 r2 t2 u2->M p2 q2 r2 t2 u2<M p q r t u->Wk s1 ⟨f p2 q2 r2 t2 u2++sl,g p2 q2 r2 t2 u2++hp⟩->K s1)->Gd P N Q (C p q r t u K)) (st:Nat×Nat:=(99999,0)) (hs:pk s.sl ks=some sl:=by exact rfl) (hh:pk s.hp kh=some hp:=by exact rfl)
  (h1:SlW s.sl (f p0 q0 r0 t0 u0):=by exact aU) (h2:HpW s.hp (g p0 q0 r0 t0 u0):=by repeat(first |exact HpW.nil |refine HpW.cons rfl (.refl _) ?_)) (hr:∀(p:P')(q:Q')(r:R')(t:T')(u:U'),∀K,run P N st 999 (.code c (.lp K::k) ⟨f p q r t u++sl,g p q r t u++hp⟩) []=some (C p q r t u K,ob p q r t u K):=by intros;exact rfl) (ho:∀(p:P')(q:Q')(r:R')(t:T')(u:U'),∀K,AllP (ob p q r t u K):=by intros;exact cr):Gd P N Q (.code (.loop c) k s):=by
 refine ud (fun n s=>∃(p:P')(q:Q')(r:R')(t:T')(u:U'),M p q r t u=n/\F p q r t u/\s=⟨f p q r t u++sl,g p q r t u++hp⟩) (Wk.p h1 h2 hs hh) ⟨p0,q0,r0,t0,u0,rfl,hF,rfl⟩ ?_;rintro n s ⟨p,q,r,t,u,rfl,hF,rfl⟩ K hK;exact jg (cf (hr p q r t u K) (ho p q r t u K) (h p q r t u hF K (fun s1 p2 q2 r2 t2 u2 h1 h2 h3=>hK s1 _ _ h3 ⟨p2,q2,r2,t2,u2,rfl,h1,rfl⟩ h2))).1 (fun e s he=>by cases e <;> exact he)
end Go.Lw
namespace Go.Lw
open Go.Proofs
instance:Inhabited (Tys prog):=⟨⟨_,(.nd (.nd (.nd (.nd (.nd (.nd (.nd .lf T2 .lf) T3 .lf) T4 (.nd .lf T5 .lf)) T9 (.nd (.nd .lf T22 .lf) T23 (.nd .lf T24 .lf))) T26 (.nd (.nd (.nd .lf T29 .lf) T30 (.nd .lf T32 .lf)) T40 (.nd (.nd .lf T41 .lf) T42 (.nd .lf T44 .lf)))) T46 (.nd (.nd (.nd (.nd .lf T53 .lf) T56 (.nd .lf T57 .lf)) T59 (.nd (.nd .lf T61 .lf) T62 (.nd .lf T66 .lf))) T67 (.nd (.nd (.nd .lf T71 .lf) T73 (.nd .lf T81 .lf)) T83 (.nd (.nd .lf T85 .lf) T87 (.nd .lf T91 .lf))))) T92 (.nd (.nd (.nd (.nd (.nd (.nd .lf T94 .lf) T102 .lf) T104 (.nd .lf T107 .lf)) T116 (.nd (.nd .lf T121 .lf) T126 (.nd .lf T133 .lf))) T138 (.nd (.nd (.nd .lf T141 .lf) T143 (.nd .lf T145 .lf)) T151 (.nd (.nd .lf T161 .lf) T177 (.nd .lf T179 .lf)))) T184 (.nd (.nd (.nd (.nd .lf T194 .lf) T220 (.nd .lf T222 .lf)) T235 (.nd (.nd .lf T237 .lf) T250 (.nd .lf T260 .lf))) T286 (.nd (.nd (.nd .lf T316 .lf) T323 (.nd .lf T327 .lf)) T336 (.nd (.nd .lf T372 .lf) T382 (.nd .lf T413 .lf)))))),V6⟩⟩
section
variable{P:ajs}{W:ajt}{H:Type}{enc:ajr×ajq->H}
abbrev NG:Nat->Prop:=fun _=>False
abbrev Gw(W:ajt):Nat->Array ajq->Prop:=Im NG [] cO W
abbrev oU(W:ajt)(cs:List ajq)(xs:List AV):Prop:=cW (Gw W) (Sz W) cO cs xs
theorem WB{b:Nat}{c:Array ajq}{t:ajr}{fr:Nat×Nat}(h:W.heap[b]?=some (.cells c t fr)):Gw W b c :=
 ⟨fun h=>h,fun⟨k,x,h,_⟩=>by(cases h),t,fr,h⟩
def dp(P:ajs)(W:ajt)(enc:ajr×ajq->H)(t:ajr){α:Type}(f:α->AV)(p:α->Prop):Prop :=
  ∀(sp:Nat->Bool)(fuel:Nat)(cs:List ajq)(x:DataW H×List MemPlace),DataW.trod enc P W 0 sp true fuel t cs=some x->(∀n∈x.1.weights P t,n<=reachBytes)->∃a,p a/\oU W cs (f a).cells
theorem vD{v:ajq}{x:AV}(h:Rep (Gw W) (Sz W) cO v x)(h1:x.one=true):oU W [v] [x]:=by
 refine⟨rfl,fun j y hy=>?_,fun j u y hu hy=>?_⟩
 ·match j,hy with
  |0,hy=>cases hy;exact h1
 ·match j,hu,hy with
  |0,hu,hy=>cases hu;cases hy;exact h
theorem Sn{t:ajr}(ht:P.underlying t=some .bool):dp P W enc t (fun b:Bool=>AV.v (.bool b)) (fun _=>True):=by
 intro sp fuel cs x h c9;obtain⟨b,rfl,_⟩:=DataW.trod_bool ht h;exact⟨b,trivial,vD (.v _) rfl⟩
theorem J8{t:ajr}{k:IntKind}(ht:P.underlying t=some (.int k)):dp P W enc t (fun n:Int=>AV.v (.int k n)) (fun n=>(Lit.int k n).wf=true):=by
 intro sp fuel cs x h c9;obtain⟨n,rfl,_,hw⟩:=DataW.trod_int ht h;exact⟨n,hw,vD (.v _) rfl⟩
theorem Q8{t:ajr}(ht:P.underlying t=some .string):dp P W enc t (fun s:ByteArray=>AV.v (.string s)) (fun s=>s.size<=281474976710656):=by
 intro sp fuel cs x h c9;obtain⟨s,rfl,hx,hs⟩:=DataW.trod_string ht h;have h1:=c9 s.data.toList.length (by rw[hx];simp[DataW.weights]);have h2:s.data.toList.length=s.size:=rfl;exact⟨s,by rw[h2]at h1;exact aiw h1 (by decide),vD (.v _) rfl⟩
theorem dp.map{α β:Type}{t:ajr}{f:α->AV}{p:α->Prop}(h:dp P W enc t f p)(g:α->β)(f':β->AV)(p':β->Prop)(hg:∀a,p a->p' (g a)/\f' (g a)=f a):dp P W enc t f' p':=by
 intro sp fuel cs x hx c9;obtain⟨a,ha,hc⟩:=h sp fuel cs x hx c9;obtain⟨h1,h2⟩:=hg a ha;exact⟨g a,h1,by rw[h2];exact hc⟩
theorem Qa{cs:List ajq}{off n m:Nat}{xs ys:List AV}(h1:oU W ((cs.drop off).take n) xs)(hx:xs.length=n)(h2:oU W ((cs.drop (off+n)).take m) ys) :
  oU W ((cs.drop off).take (n+m)) (xs++ys):=by
 have e:(cs.drop off).take (n+m)=(cs.drop off).take n++(cs.drop (off+n)).take m:=by
  rw[List.take_add,drop_drop]
 have hl:((cs.drop off).take n).length=n:=by rw[h1.1,hx]
 rw[e];refine⟨by simp only[ai0,h1.1,h2.1],fun j y hy=>?_,fun j u y hu hy=>?_⟩
 ·rcases aid j xs.length with g |g
  ·rw[ais g]at hy;exact h1.2.1 j y hy
  ·rw[ain g]at hy;exact h2.2.1 _ y hy
 ·rcases aid j xs.length with g |g
  ·rw[ais g]at hy;rw[ais oz]at hu;exact h1.2.2 j u y hu hy
  ·rw[ain g]at hy;rw[ain oz,hl]at hu;exact h2.2.2 (j-n) u y hu (by rw[<- hx];exact hy)
inductive FlOk(P:ajs)(W:ajt)(enc:ajr×ajq->H):List Field->Nat->{α:Type}->(α->List AV)->(α->Prop)->Prop
  |nil (off:Nat):FlOk P W enc [] off (fun _:Unit=>[]) (fun _=>True)
  |cons {fl:Field} {fls:List Field} {off n:Nat} {α β:Type} {f:α->AV} {p:α->Prop} {g:β->List AV} {q:β->Prop} (ho:fl.offset=off) (hn:P.cellsOf fl.type=n) (hf:dp P W enc fl.type f p)
      (iU:∀a,(f a).cells.length=n) (hs:FlOk P W enc fls (off+n) g q):FlOk P W enc (fl::fls) off (fun z:α×β=>(f z.1).cells++g z.2) (fun z=>p z.1/\q z.2)
theorem FlOk.rep{fls:List Field}{off:Nat}{α:Type}{g:α->List AV}{q:α->Prop}(h:FlOk P W enc fls off g q){cs:List ajq}{sp:Nat->Bool}{fuel:Nat}
  (hr:∀fl∈fls,∃x,DataW.trod enc P W 0 sp true fuel fl.type ((cs.drop fl.offset).take (P.cellsOf fl.type))=some x/\∀n∈x.1.weights P fl.type,n<=reachBytes):∃a m,q a/\oU W ((cs.drop off).take m) (g a)/\m=(g a).length:=by
 induction h with
 |nil off=>exact⟨(),0,trivial,⟨by simp,fun j x hx=>by simp at hx,fun j u x hu hx=>by simp at hx⟩,rfl⟩
 | @cons fl fls off n α β f p g q ho hn hf iU hs ih =>
  obtain⟨x,hx,hwx⟩:=hr fl (ai2 ..);rw[ho,hn]at hx;obtain⟨a,ha,hc⟩:=hf _ _ _ _ hx hwx;obtain⟨b,m,hb,lX,hm⟩:=ih (fun fl' h'=>hr fl' (ait _ h'));exact⟨(a,b),n+m,⟨ha,hb⟩,Qa hc (iU a) lX,by simp only[ai0,iU a,hm]⟩
theorem W5{t:ajr}{fs:Array Field}{α:Type}{g:α->List AV}{q:α->Prop}(ht:P.underlying t=some (.struct fs))(hf:FlOk P W enc fs.toList 0 g q)(hn:∀a,(g a).length=P.cellsOf t) :
  dp P W enc t (fun a=>.agg (g a)) q:=by
 intro sp fuel cs x h c9;obtain⟨xs,n,rfl,Bf,hl,kW,lW⟩:=DataW.trod_struct ht h
 obtain⟨a,m,ha,hc,hm⟩:=hf.rep (cs:=cs) (sp:=sp) (fuel:=n) (fun fl hfl=>by
  obtain⟨i,hi⟩:=List.getElem?_of_mem hfl;have hi':fs[i]?=some fl:=by simpa using hi
  have h1:=lW i fl hi';have h2:i<xs.length:=by rw[kW];exact(Array.getElem?_eq_some_iff.1 hi').1
  refine⟨xs[i],by rw[h1,ah9 h2],fun k hk=>c9 k ?_⟩;rw[Bf];simp only[DataW.weights,ht];exact DataW.weights_mem_each (j:=i) (by simpa using⟨fl,hi',rfl⟩) (by rw[aib,ah9 h2];rfl) k hk)
 refine⟨a,ha,?_⟩;rw[hm,hn a,<- hl,ai9,ail]at hc;exact hc
theorem qH{t:ajr}{n:Nat}{fs:Array Field}{α:Type}{g:α->List AV}{q:α->Prop}(ht:P.underlying t=some (.struct fs))(hc:P.cellsOf t=n)(hf:FlOk P W enc fs.toList 0 g q)(hn:∀a,(g a).length=n) :
  dp P W enc t (fun a=>.agg (g a)) q:=W5 ht hf (fun a=>(hn a).trans hc.symm)
theorem Jx{α:Type}{q:Nat->α->Prop}:∀(n:Nat),(∀i,i<n->∃a,q i a)->∃l:List α,l.length=n/\∀i a,l[i]?=some a->q i a
 |0,_=>⟨[],rfl,fun i a h=>by simp at h⟩
 |n+1,h=>by
  obtain⟨l,h1,h2⟩:=Jx n (fun i hi=>h i oz);obtain⟨a,ha⟩:=h n oz;refine⟨l++[a],by simp[h1],fun i b hb=>?_⟩;rcases aid i l.length with g |g
  ·rw[ais g]at hb;exact h2 i b hb
  ·rw[ain g]at hb
   have hi:i-l.length=0:=by
    rcases ae1 (i-l.length)with g |g
    ·exact g
    ·rw[aig (by simp only[aij,aiv];omega)]at hb;cases hb
   rw[hi]at hb;cases hb;have:i=n:=by omega
   rw[this];exact ha
theorem acu{a:Addr}{v:ajq}(h:W.cell? a=some v):∃b off,a=⟨b,off,none⟩:=by
 obtain⟨b,off,s⟩:=a;unfold World.cell? at h;split at h
 ·cases s with
  |none=>exact⟨b,off,rfl⟩
  |some s=>simp at h
 ·cases h
theorem L5{b off:Nat}{v:ajq}(h:W.cell? ⟨b,off,none⟩=some v):∃c t fr,W.heap[b]?=some (.cells c t fr)/\c[off]?=some v:=by
 unfold World.cell? at h;split at h
 ·rename_i c t fr hb;exact⟨c,t,fr,hb,by simpa using h⟩
 ·cases h
theorem Mq{e:ajr}:∀{l:List (DataW H)}{d:DataW H},d∈l->∀n∈d.weights P e,n∈DataW.weightsAll P e l
 |x::l,d,hd,n,hn=>by
  simp only[DataW.weightsAll,aia];rcases aiq.1 hd with rfl |hd
  ·exact .inl hn
  ·exact .inr (Mq hd n hn)
theorem vd{t e:ajr}{n:Nat}{α:Type}{f:α->AV}{p:α->Prop}(ht:P.underlying t=some (.slice e))(hc:P.cellsOf e=n)(hn:0<n)(Pg:aek 0 (P.bytesOf e)=true)(lW:dp P W enc e f p)(iU:∀a,(f a).cells.length=n) :
  dp P W enc t (fun l:List α=>.lst n (l.map f)) (fun l=>(∀a∈l,p a)/\l.length<=281474976710656):=by
 intro sp fuel cs x h c9;rcases DataW.trod_slice ht h with⟨rfl,_⟩ |⟨a,len,cap,elems,rest,m,_,rfl,Bf,_,hl,hm,ch,hE,_,_⟩
 ·exact⟨[],⟨fun a ha=>by(cases ha),aii _⟩,vD (.lst0 _ _ _) rfl⟩
 ·obtain⟨l,jk,hq⟩:=Jx (q:=fun i a'=>p a'/\∃cs',W.cells? 0 (a.add (i*n)) n=some cs'/\oU W cs' (f a').cells) len (fun i hi=>by
   have h1:=hE i hi;rw[hc,ah9 oz,Option.bind_eq_some_iff]at h1;obtain⟨cs',h2,h3⟩:=h1
   obtain⟨a',ha,hc'⟩:=lW _ _ _ _ h3 (fun k hk=>c9 k (by
    rw[Bf];simp only[DataW.weights,ht];exact ait _ (List.mem_append_left _ (Mq (af0.2 ⟨_,agb (by omega:i<elems.length),rfl⟩) k hk))))
   exact⟨a',ha,cs',h2,hc'⟩)
  have hcm:len<=281474976710656:=by
   have h1:=c9 ((elems.length+rest.length)*P.bytesOf e) (by
    rw[Bf];simp only[DataW.weights,ht,ah6];exact ai2 ..)
   rw[ad5]at Pg;have h2:elems.length+rest.length<=(elems.length+rest.length)*P.bytesOf e:=Nat.le_mul_of_pos_right _ Pg;have h3:reachBytes<=281474976710656:=by decide
   omega
  refine⟨l,⟨fun a' ha=>?_,by omega⟩,vD ?_ rfl⟩
  ·obtain⟨i,hi⟩:=List.getElem?_of_mem ha;exact(hq i a' hi).1
  ·by_cases h0:len=0
   ·subst h0;have:l=[]:=af2 jk;subst this;exact .lst0 _ _ _
   ·-- the block
    have cE:∀(i j:Nat)(e' c':AV),(l.map f)[i]?=some e'->e'.cells[j]?=some c'->∃v,W.cell? ((a.add (i*n)).add j)=some v/\Rep (Gw W) (Sz W) cO v c':=by
     intro i j e' c' he hc';rw[aib,ah8]at he;obtain⟨a',ha,rfl⟩:=he;obtain⟨_,cs',h2,h3⟩:=hq i a' ha;obtain⟨_,h4,h5⟩:=World.cells?_some h2;have hj:j<n:=by rw[<- iU a'];exact(afl.1 hc').1
     have h6:=h5 j hj;rw[ah9 oz]at h6;exact⟨_,h6,h3.2.2 j _ c' (ah9 oz) hc'⟩
    obtain⟨a0,ha0⟩:∃a0,l[0]?=some a0:=⟨l[0]'oz,ah9 oz⟩
    obtain⟨c0,Gh⟩:∃c0,(f a0).cells[0]?=some c0:=⟨(f a0).cells[0]'(by rw[iU];omega),ah9 (by rw[iU];omega)⟩
    obtain⟨v0,lY,_⟩:=cE 0 0 _ _ (by rw[aib,ha0];rfl) Gh;have e0:(a.add (0*n)).add 0=a:=by simp[Addr.add]
    rw[e0]at lY;obtain⟨b,off,rfl⟩:=acu lY;obtain⟨c,t',fr,hb,_⟩:=L5 lY;have Ph:(l.map f).length=len:=by rw[ah6,jk]
    have ff:∀(i j:Nat)(e' c':AV),(l.map f)[i]?=some e'->e'.cells[j]?=some c'->∃v,c[off+i*n+j]?=some v/\Rep (Gw W) (Sz W) cO v c':=by
     intro i j e' c' he hc';obtain⟨v,hv,hr⟩:=cE i j e' c' he hc';rw[iX,iX]at hv;obtain⟨c2,t2,Cj,a8,jn⟩:=L5 hv;rw[hb]at a8;cases a8;exact⟨v,jn,hr⟩
    have := Rep.lst (g := Gw W) (S := Sz W) (m := cO) (b := b) (off := off) (cap := cap) (sz := n) (es := l.map f) (cs := c) (fun i j => c.getD (off + i * n + j) undef) (WB hb) oz (by rw [Ph]; exact hcm)
     (fun i e' he=>by
      rw[aib,ah8]at he;obtain⟨a',_,rfl⟩:=he;exact iU a')
     (fun i j e' c' he hc'=>by
      rw[aib,ah8]at he;obtain⟨a',ha,rfl⟩:=he;obtain⟨_,cs',_,h3⟩:=hq i a' ha;exact h3.2.1 j c' hc')
     (fun i j e' c' he hc'=>by
      obtain⟨v,hv,_⟩:=ff i j e' c' he hc';rw[aic,hv];rfl)
     (fun i j e' c' he hc'=>by
      obtain⟨v,hv,hr⟩:=ff i j e' c' he hc';rw[aic,hv];exact hr)
    rwa [Ph]at this
theorem On{t:ajr}{fs:Array Field}{α:Type}{g:α->List AV}{q:α->Prop}{v:ajq}{d:DataW H}{ps:List MemPlace}{sp:Nat->Bool}{b0:Nat}(ht:P.underlying t=some (.struct fs))
  (ho:dp P W enc t (fun a=>.agg (g a)) q) (ji:Value.okWide P W .any b0 t v) (hd:DataW.Trod enc P W 0 sp true t v d ps) (c9:∀n∈d.weights P t,n<=reachBytes):∃a,q a/\Rep (Gw W) (Sz W) cO v (.agg (g a)):=by
 unfold Value.okWide at ji;rw[ht]at ji;obtain⟨cs,rfl,_,_⟩:=ji;obtain⟨fuel,hf⟩:=hd;obtain⟨a,ha,hc⟩:=ho _ _ _ _ hf c9;exact⟨a,ha,.agg (by have:=hc.1;simpa[Value.cells,AV.cells]using this) (fun j c h=>hc.2.1 j c h) (fun j u c hu h=>hc.2.2 j u c (by simpa[Value.cells]using hu) h)⟩
theorem jF.calls{f:FuncId}{args:List AV}{b:Bool}(h:jF P f args (.v (.bool b))){vs:Array ajq}(hn:vs.size=args.length)
  (hr:∀(j:Nat) v x,vs[j]?=some v->args[j]?=some x->Rep (Gw W) (Sz W) cO v x) :
  Calls P f vs W fun e W'=>e=.returned (.bool b)/\RowKit.Below W.heap.size W W':=by
 have h0:=h.ret NG cO W vs (fun b h=>h.elim) ⟨fun k x h=>by(cases h),fun k k' x x' b h=>by(cases h),fun k x b h=>by(cases h)⟩ hn hr;refine h0.mono (fun e W' ⟨v,m',he,hf,_,_,_,hv⟩=>?_);cases hv;refine⟨he,hf.os,hf.tape,hf.output,hf.size,fun k hk=>hf.keep k hk ?_⟩;rintro⟨k',x,h9,_⟩;cases h9
open Go.ChangeShapes in
theorem S1{f:Func}{s:ChangeSpec}{apart fresh handsOn again:Bool}{W':ajt}{args:Array ajq}{v:ajq}{ds gs:List (DataW H)}{before:List MemPlace}
  (hW:DataW.Whole enc P f.params.toList s.vars apart W args.toList ds gs before) (cM:s.vars=[]) (hgs:gs=[])
  (om:∀(b:Nat)(sp:Nat->Bool)(hd:Bool),DataW.TrodAll enc P W' b sp hd f.resultTypes.toList (v.resultList f.resultTypes.size) (s.fn H (ds++gs)).results [])
  (p6:∀sp:Nat->Bool,(∀p∈before,sp p.block=true)->DataW.TrodAll enc P W' 0 sp true f.params.toList args.toList (s.fn H (ds++gs)).args before)
  (lY:(s.fn H (ds++gs)).vars=[]) (hb:RowKit.Below W.heap.size W W')
  (bc:∀(j:Nat)(t:ajr)(r:ajq),f.resultTypes[j]?=some t->(v.resultList f.resultTypes.size)[j]?=some r->Value.okWide P W' .any 0 t r) :
  s.post enc P f apart fresh handsOn again W args v W':=by
 have hlt:=fun p hp=>hW.lt p hp
 have Ga:∀p∈before,(fun b=>decide (b<W.heap.size)) p.block=true:=fun p hp=>by simpa using hlt p hp
 have Pi:∀sp:Nat->Bool,DataW.TrodVars enc P W' sp s.vars (s.fn H (ds++gs)).vars []:=fun sp=>by rw[cM,lY];rfl
 refine⟨ds,gs,before,[],before,[],hW,om _ _ _,p6 _ Ga,Pi _,World.keptBut_mono (fun p hp=>⟨hp,Or.inr (by simpa using hp)⟩) (hb.frame (· ∈ before)),fun _=>?_⟩;obtain⟨_,_,_,_,_,hz,hn⟩:=hW;refine⟨bc,_,_,([]++before)++[],⟨[]++before,[],trodAll_append (p6 _ (fun _ _=>rfl)) (om _ _ _),Pi _,rfl,?_,?_⟩,?_⟩
 ·intro b off hp;have hp':MemPlace.cell b off ∈ before:=by simpa using hp
  rw[hb.frozen (hlt _ hp')];exact hz b off hp'
 ·intro ha;simpa using hn ha
 ·intro p hp _;simpa using hp
end
theorem mh{l:List Nat}{i x:Nat}(h:i<l.length):val ((l.set i x).take (i+1))=val (l.take i)+4294967296^i*x:=by
 rw[HE (x:=x) (by simp[h]),List.take_set_of_le (aie _)]
theorem gL{l:List Nat}{i x:Nat}(h:Ws l)(hx:x<4294967296):Ws (l.set i x):=by
 intro y hy;rcases af6 hy with h1 |h1
 ·exact h y h1
 ·omega
theorem mT(n:Nat):Ws (afv n 0):=fun x hx=>by rw[(List.mem_replicate.1 hx).2];omega
theorem w8:Ws []:=fun _ h=>nomatch h
theorem gH{l:List Nat}(h:Ws l)(n:Nat):Ws (l.take n):=fun x hx=>h x (agi hx)
theorem xf{x:Nat}(h:x<4294967296):Ws [x]:=fun y hy=>by rw[afr.1 hy];exact h
structure Wh where
  neg:Bool
  mag:List Nat
namespace Wh
def valid(w:Wh):Bool:=if w.mag=[]then !w.neg else w.mag.getLast? != some 0
def m(w:Wh):List Nat:=if w.valid then w.mag else[]
def n(w:Wh):Bool:=w.valid&&w.neg
def z(w:Wh):Int:=if w.n then -(val w.m:Int)else val w.m
def av(w:Wh):AV:=.agg [bl w.neg,ws w.mag]
def ok(w:Wh):Prop:=Ws w.mag/\w.mag.length<=az
end Wh
def sgn(b:Bool)(n:Nat):Int:=if b then -(n:Int)else n
def ofInt(z:Int):Wh:=⟨decide (z<0),ofNat z.natAbs⟩
def zA(z:Int):AV:=(ofInt z).av
theorem Wh.nz(w:Wh):Nz w.m:=by
 unfold Wh.m Wh.valid;intro x hx
 by_cases h:w.mag=[]
 ·rw[h]at hx;split at hx <;> simp at hx
 ·rw[ajf h]at hx;split at hx
  ·next h'=>rw[hx]at h';simpa using h'
  ·simp at hx
theorem Wh.ws{w:Wh}(h:w.ok):Ws w.m:=by
 unfold Wh.m;split
 ·exact h.1
 ·exact w8
theorem Wh.m_le{w:Wh}:w.m.length<=w.mag.length:=by
 unfold Wh.m;split <;> simp
theorem Wh.ofNat_m{w:Wh}(h:w.ok):ofNat (val w.m)=w.m:=ss (Wh.ws h) w.nz
theorem Wh.n_val{w:Wh}(hn:w.n=true):val w.m≠0:=by
 have h1:w.m≠[]:=by
  intro h0;unfold Wh.n at hn;rw[ah7]at hn;unfold Wh.m at h0;rw[ajg hn.1]at h0;have:=hn.1;unfold Wh.valid at this;rw[ajg h0,hn.2]at this;cases this
 have:=qC w.nz h1;omega
theorem Wh.n_eq{w:Wh}:w.n=decide (w.z<0):=by
 unfold Wh.z;cases h:w.n with
 |true=>have:=Wh.n_val h;simp;omega
 |false=>simp
theorem Wh.abs{w:Wh}:w.z.natAbs=val w.m:=by
 unfold Wh.z;split <;> omega
theorem Wh.z_eq{w:Wh}:w.z=sgn w.n (val w.m):=rfl
theorem Mu(z:Int):(ofInt z).valid=true:=by
 unfold ofInt Wh.valid;dsimp only;split
 ·next h =>
  have h1:=bN z.natAbs;rw[h]at h1;have:z=0:=by simp[val]at h1;omega
  subst this;rfl
 ·next h =>
  have:=uq z.natAbs;cases hl:(ofNat z.natAbs).getLast? with
  |none=>rfl
  |some x=>have:=this x hl;simp[this]
theorem UE(z:Int):(ofInt z).m=ofNat z.natAbs:=by unfold Wh.m;rw[ajg (Mu z)];rfl
theorem acp(z:Int):(ofInt z).n=decide (z<0):=by unfold Wh.n;rw[Mu z];rfl
theorem dG(z:Int):(ofInt z).z=z:=by
 unfold Wh.z;rw[acp,UE,bN];split
 ·next h=>simp at h;omega
 ·next h=>simp at h;omega
def Lz(k:Nat)(z:Int):Prop:=z.natAbs<4294967296^k
theorem Lz.len{k:Nat}{z:Int}(h:Lz k z):(ofNat z.natAbs).length<=k:=fi h
theorem Wh.lz{w:Wh}(h:w.ok):Lz w.mag.length w.z:=by
 unfold Lz;rw[Wh.abs];have h1:=bG w.m (Wh.ws h);exact aip h1 (ae6 oz Wh.m_le)
theorem Lz.mono{k l:Nat}{z:Int}(h:Lz k z)(hk:k<=l):Lz l z:=aip h (ae6 oz hk)
theorem Lz.add{k l:Nat}{x y:Int}(h:Lz k x)(h':Lz l y):Lz (max k l+1) (x+y):=by
 have h1:=h.mono (Nat.le_max_left k l);have h2:=h'.mono (Nat.le_max_right k l);unfold Lz at *;rw[ae5];have:=Int.natAbs_add_le x y;omega
theorem Lz.neg{k:Nat}{x:Int}(h:Lz k x):Lz k (-x):=by unfold Lz at *;omega
theorem Lz.sub{k l:Nat}{x y:Int}(h:Lz k x)(h':Lz l y):Lz (max k l+1) (x-y):=Int.sub_eq_add_neg▸h.add h'.neg
theorem Lz.mul{k l:Nat}{x y:Int}(h:Lz k x)(h':Lz l y):Lz (k+l) (x*y):=by
 unfold Lz at *;rw[agr,ai8];exact aew h h'
theorem Lz.of_le{k:Nat}{x y:Int}(h:Lz k x)(h':y.natAbs<=x.natAbs):Lz k y:=aiz h' h
theorem wC{a b:List Nat}(ha:Ws a)(hb:Nz b)(h:a.length<b.length):val a<val b:=by
 have h1:=bG a ha;have iC:b≠[]:=by intro h0;rw[h0]at h;simp at h
 have h2:∃c x,b=c++[x]:=⟨b.dropLast,b.getLast iC,(af5 iC).symm⟩
 obtain⟨c,x,rfl⟩:=h2;have hx:x≠0:=hb x (by simp);rw[uk];simp at h;have h3:4294967296^a.length<=4294967296^c.length:=ae6 oz oz;have h4:4294967296^c.length*1<=4294967296^c.length*val [x]:=aih _ (by simp[val];omega);omega
theorem MB{a b:List Nat}{i:Nat}(ha:Ws a)(hx:aj a i<aj b i):val (a.take (i+1))<val (b.take (i+1)):=by
 rw[cU,cU];have h1:=bG (a.take i) (gH ha i);have h2:4294967296^(a.take i).length<=4294967296^i:=ae6 oz (by simp;omega);have h3:4294967296^i*(aj a i+1)<=4294967296^i*aj b i:=aih _ hx;rw[afa,Nat.mul_one]at h3;omega
theorem uT(l:List Nat)(i:Nat):val l=val (l.take i)+4294967296^(min i l.length)*val (l.drop i):=by
 conv=>lhs;rw[<- afs i l]
 rw[uk,air]
theorem Ja{a b:List Nat}{i:Nat}(ha:Ws a)(hl:a.length=b.length)(hi:i<a.length)(he:a.drop (i+1)=b.drop (i+1))(hx:aj a i<aj b i):val a<val b:=by
 rw[uT a (i+1),uT b (i+1),he,hl];have:=MB ha hx;omega
theorem B6{o c P x y u w:Nat}(h:o+c*P=x+y) :
  (o+P*((c+(u+w))%4294967296))+((c+(u+w))/4294967296)*(P*4294967296)=(x+P*u)+(y+P*w):=by
 have:=aeh (c+(u+w)) 4294967296;generalize(c+(u+w))%4294967296=r at *;generalize(c+(u+w))/4294967296=q at *;grind
theorem Jb{a b out:List Nat}{c n:Nat}(ha:Ws a)(hb:Ws b)(hn:n=max a.length b.length+1)(ho:out.length=n)
  (h:val (out.take n)+c*4294967296^n=val (a.take n)+val (b.take n)):val out=val a+val b:=by
 rw[eM oz,eM oz,eM oz]at h;have h1:=bG a ha;have h2:=bG b hb;have h3:4294967296^a.length<=4294967296^max a.length b.length:=ae6 oz oz;have h4:4294967296^b.length<=4294967296^max a.length b.length:=ae6 oz oz;subst hn;rw[ae5]at h;cases c with
 |zero=>omega
 |succ c =>
  rw[aei]at h;omega
theorem MA{o c P x y u w:Nat}(hu:u<4294967296)(hw:w<4294967296)(hc:c<=1)(h:o+y=x+c*P) :
  let d:=if w+c<=u then u-w-c else u+18446744073709551616-w-c
  (o+P*(d%4294967296))+(y+P*w)=(x+P*u)+(d/2^63)*(P*4294967296):=by
 intro d
 have h0:d%4294967296+w+c=u+(d/2^63)*4294967296:=by
  show d%4294967296+w+c=_
  by_cases h1:w+c<=u
  ·rw[show d=u-w-c from ajg h1];omega
  ·rw[show d=u+18446744073709551616-w-c from ajf h1];omega
 generalize d/2^63=q at *;generalize d%4294967296=r at *;grind
theorem Ys{a b out:List Nat}{c:Nat}(ha:Ws out)(ho:out.length=a.length)(bB:val b<=val a)(fJ:b.length<=a.length)
  (h:val (out.take a.length)+val (b.take a.length)=val (a.take a.length)+c*4294967296^a.length):val out=val a-val b:=by
 rw[eM oz,eM oz,eM oz]at h;have h1:=bG out ha;rw[ho]at h1;cases c with
 |zero=>omega
 |succ c=>rw[aei]at h;omega
theorem vV{x y:Nat}(hx:x<18446744073709551616)(hy:y<18446744073709551616):n8 .or .u64 (x:Int) (y:Int)=((x ||| y:Nat):Int):=by
 show IntKind.u64.wrap (((BitVec.ofInt 64 (x:Int)) ||| (BitVec.ofInt 64 (y:Int))).toNat:Int)=_;simp only[BitVec.toNat_or,BitVec.ofInt_natCast,BitVec.toNat_ofNat];rw[ae7 oz,ae7 oz];exact u64_in (Nat.or_lt_two_pow (n:=64) hx hy)
theorem Eu{x y:Nat}(hx:x<4294967296)(hy:y<4294967296):n8 .or .u32 (x:Int) (y:Int)=((x ||| y:Nat):Int):=by
 show IntKind.u32.wrap (((BitVec.ofInt 32 (x:Int)) ||| (BitVec.ofInt 32 (y:Int))).toNat:Int)=_;simp only[BitVec.toNat_or,BitVec.ofInt_natCast,BitVec.toNat_ofNat];rw[ae7 oz,ae7 oz];exact u32_in (Nat.or_lt_two_pow (n:=32) hx hy)
theorem Oq{x y:Nat}(hx:x<4294967296)(hy:y<4294967296):n8 .and .u32 (x:Int) (y:Int)=((x &&& y:Nat):Int):=by
 show IntKind.u32.wrap (((BitVec.ofInt 32 (x:Int)) &&& (BitVec.ofInt 32 (y:Int))).toNat:Int)=_;simp only[BitVec.toNat_and,BitVec.ofInt_natCast,BitVec.toNat_ofNat];rw[ae7 oz,ae7 oz];exact u32_in (aiz Nat.and_le_left hx)
theorem xe{q y n:Nat}(hy:y<2^n):q*2^n ||| y=q*2^n+y:=by
 rw[aey,Nat.two_pow_add_eq_or_of_lt hy]
theorem BT{q y n:Nat}(hy:y<2^n):y ||| q*2^n=y+q*2^n:=by
 rw[Nat.or_comm,xe hy,aeq]
theorem sK{x n:Nat}(hn:n<=64)(h:x*2^n<18446744073709551616):IntKind.u64.wrap ((x:Int)*2^(min (n:Int).toNat IntKind.u64.bits))=((x*2^n:Nat):Int):=by
 have:min (n:Int).toNat IntKind.u64.bits=n:=by simp[IntKind.bits];omega
 rw[this,show(x:Int)*2^n=((x*2^n:Nat):Int) by simp,u64_in h]
theorem OL{x n:Nat}(hn:n<=32):IntKind.u32.wrap ((x:Int)*2^(min (n:Int).toNat IntKind.u32.bits))=((x*2^n%4294967296:Nat):Int):=by
 have:min (n:Int).toNat IntKind.u32.bits=n:=by simp[IntKind.bits];omega
 rw[this,show(x:Int)*2^n=((x*2^n:Nat):Int) by simp,dj]
theorem tY(x n:Nat)(hn:n<=32):(x:Int).fdiv (2^(min (n:Int).toNat IntKind.u32.bits))=((x/2^n:Nat):Int):=by
 have:min (n:Int).toNat IntKind.u32.bits=n:=by simp[IntKind.bits];omega
 rw[this,agy _ (Int.le_of_lt (Int.pow_pos (by decide)))];simp
theorem JX{x y:Nat}(hx:x<18446744073709551616):IntKind.u64.wrap ((x:Int).tdiv y)=((x/y:Nat):Int):=by
 rw[<- Int.ofNat_tdiv,u64_in (aiz (afd _ _) hx)]
theorem MK{x y:Nat}:(x:Int).tmod y=((x%y:Nat):Int):=(Int.ofNat_tmod _ _).symm
theorem Fj:∀{l:List Nat}{i x:Nat},i<l.length->val (l.set i x)+4294967296^i*aj l i=val l+4294967296^i*x
 |a::l,0,x,_=>by simp[val,aj];omega
 |a::l,i+1,x,h=>by
  have ih:=Fj (l:=l) (i:=i) (x:=x) (by simpa using h);simp only[List.set_cons_succ,val];have hw:aj (a::l) (i+1)=aj l i:=by simp[aj]
  rw[hw,ae5];grind
theorem LB{l:List Nat}{i n x:Nat}(h:i<l.length)(hn:i<n):val ((l.set i x).take n)+4294967296^i*aj l i=val (l.take n)+4294967296^i*x:=by
 rw[List.take_set];have h1:aj (l.take n) i=aj l i:=by simp[aj,hn]
 rw[<- h1];exact Fj (by simp;omega)
theorem IN{o o' c V P u y w S:Nat}(ho:o'+P*w=o+P*(S%4294967296))(hS:S=c+(u*y+w))(h:o+c*P=V) :
  o'+(S/4294967296)*(P*4294967296)=V+P*(u*y):=by
 have:=aeh S 4294967296;generalize S%4294967296=r at *;generalize S/4294967296=q at *;subst hS;grind
theorem yh{x y:Nat}(hx:x<4294967296)(hy:y<4294967296):x*y<=18446744065119617025:=by
 have:=aeu (show x<=4294967295 by omega) (show y<=4294967295 by omega);omega
theorem Yg{l:List Nat}{i:Nat}(h:i<l.length):l.drop i=aj l i::l.drop (i+1):=by
 rw[afk h];congr 1;have:=jX h;rw[ah9 h]at this;exact Option.some.inj this
theorem uc{l:List Nat}{i:Nat}(h:i<l.length):val (l.drop i)=aj l i+4294967296*val (l.drop (i+1)):=by
 rw[Yg h];rfl
theorem G7{l:List Nat}{i x:Nat}(h:i<l.length):val ((l.set i x).drop i)=x+4294967296*val (l.drop (i+1)):=by
 rw[uc (by simpa using h)];have h1:aj (l.set i x) i=x:=by simp[aj,h]
 have h2:(l.set i x).drop (i+1)=l.drop (i+1):=by rw[List.drop_set_of_lt oz]
 rw[h1,h2]
theorem aJ.own1{s:AS}{k d sz off len:Nat}{es es':List AV}(h:lk s.hp k=some (.row sz es))(hd:aek d 1000=true)(he:es=es') :
  aJ s (dD [.ms k sz off len]) (.ms d sz off len) [(d,some (.row sz es'))]:=by
 subst he;rw[ad5]at hd;intro ext m w v hh hext hx
 have cZ:∀(k':Nat)(z:Blk),lk [(d,some (Blk.row sz es))] k'=some z->k'=d/\z=.row sz es:=by
  intro k' z hz;rw[aA]at hz;split at hz
  ·rename_i h1;cases hz;exact⟨h1,rfl⟩
  ·cases hz
 have cF:=eO (ext:=ext) (Frame.refl (aO s.hp m) w) (hp':=[(d,some (.row sz es))]) (m':=fun x=>if x=d then m k else none) (by
  intro k' z b hz hb;obtain⟨rfl,rfl⟩:=cZ k' z hz;have hb':(if k'=k' then m k else none)=some b:=hb;rw[ajg rfl]at hb';exact .inl ⟨k,_,h,hb'⟩)
 refine⟨fun x=>if x=d then m k else none,⟨?_,?_,?_⟩,?_,?_,?_⟩
 ·intro k' z hz;obtain⟨rfl,rfl⟩:=cZ k' z hz;rw[ajg rfl];have h1:BlkRep (Im ext s.hp m w) (Sz w) m w (m k) (.row sz es):=hh.blk k _ h
  revert h1
  generalize fZ:m k=o
  suffices h2:∀o,BlkRep (Im ext s.hp m w) (Sz w) m w o (.row sz es)->BlkRep (Im ext [(k',some (.row sz es))] (fun x=>if x=k' then m k else none) w) (Sz w) (fun x=>if x=k' then m k else none) w o (.row sz es) by
   rw[fZ]at h2;exact h2 o
  clear fZ o;intro o h1;cases h1 with
  |none=>exact .none _
  |row hw hn hl hs h1 hr=>exact .row hw hn hl hs h1 (fun i j e u x he hx hu=>(hr i j e u x he hx hu).mono cF (fun _ _ h=>h) (fun _ _ _ h=>h))
 ·intro k1 k2 z z' b h1 h2 _ _;rw[(cZ _ _ h1).1,(cZ _ _ h2).1]
 ·intro k' z b hz hb;obtain⟨rfl,rfl⟩:=cZ k' z hz;have hb':(if k'=k' then m k else none)=some b:=hb;rw[ajg rfl]at hb';exact hh.sep k _ b h hb'
 ·intro k' z b hz hb;obtain⟨rfl,rfl⟩:=cZ k' z hz;have hb':(if k'=k' then m k else none)=some b:=hb;rw[ajg rfl]at hb';exact⟨k,_,h,hb'⟩
 ·intro k' z hk hz;obtain⟨rfl,rfl⟩:=cZ k' z hz;omega
 ·cases hx with
  |ms0 a=>exact .ms0 a _ _ _
  |ms hm hc hS=>exact .ms (by simp;exact hm) hc hS
theorem eU{k:Nat}{x:Option Blk}{z:Blk}(h:lk [(1000,x)] k=some z):1000<=k:=by
 rw[aA]at h;split at h
 ·omega
 ·cases h
end Go.Lw
