/- VelocityOf: for any linkage,any turns,any assembly and driver the law returns true and leaves its arguments as they were. No other condition. Part 2 of 8: what the later parts need -/
import Derived.Test.YtokaoegjfpjjnaaGreatVa
import Derived.KernelRfl
import Derived.Laws.StructEq
import Derived.Test.YtokaoegjfpjjnaaGreatProg
import Derived.Eval
import Derived.RangeFuncIn
import Derived.Carry
import Derived.ChangeArms
import Derived.DataReads
import Derived.ChangeShapes
import Derived.RowKit
import Derived.ProofKit
import Derived.OpenShut
import Derived.Handed
import Derived.SizedLaws
set_option linter.unusedVariables false
open List (cons_append nil_append map_nil drop_drop)
open List renaming mem_of_getElem? → afl, mem_cons_of_mem → agi, mem_append → aft, map_cons → agv, mem_cons → agd, length_cons → af9, mem_cons_self → agt, length_append → agf, length_nil → agj, getD_eq_getElem?_getD → afn, getElem?_append_left → af6, getElem?_eq_none → af0, all_eq_true → afy, getElem?_take → af7, getElem?_drop → agn, getElem?_map → afu, append_assoc → agx, getElem?_append_right → af5, getElem?_eq_getElem → afr, drop_eq_nil_of_le → agb, map_append → agc, length_take → agu, take_of_length_le → af4, drop_zero → agw, take_length → af1, not_mem_nil → af8, length_map → afm, mem_of_mem_take → agr, mem_or_eq_of_mem_set → ac4, mem_map → ac6, eq_nil_of_length_eq_zero → ac9, getElem?_of_mem → ada, mem_singleton → adc, getElem?_toArray → adg, dropLast_concat_getLast → adk, take_append_drop → adm, getElem_mem → adn, drop_eq_getElem_cons → adr, append_nil → adt, getLast?_cons_cons → adu, getElem?_eq_some_iff → adw, size_toArray → ad1, mem_iff_getElem → ad3, mem_replicate → ad4, replicate → ad7
open Nat renaming eq_of_beq_eq_true → afo, le_refl → afq, lt_of_lt_of_le → af3, lt_or_ge → afv, le_trans → af2, mul_le_mul_right → age, mul_le_mul_left → afw, zero_le → afz, pow_add → agk, lt_of_le_of_lt → aga, ble_eq_true_of_le → abr, eq_zero_or_pos → abu, pow_mul → abv, mul_le_mul → abx, add_assoc → aby, div_lt_iff_lt_mul → ab0, beq → ab3, mod_eq_of_lt → ab4, zero_add → ab5, blt_eq → ab7, beq_refl → ab8, div_le_self → aca, mul_comm → acb, add_zero → ach, add_mul → aci, succ_mul → ack, ble_eq → acl, blt → acm, mod_lt → acn, mul_add → acp, pow_succ → acq, pow_le_pow_right → acr, min_eq_left → acs, add_comm → acu, ne_of_beq_eq_false → acw, div_add_mod → ac0, mul_lt_mul'' → ac2
open Option renaming map_eq_some_iff → afs, map_some → afi
open Bool renaming and_eq_true → afp, or_eq_true → agp, false_eq_true → aew, false_and → aey
open Array renaming getD_eq_getD_getElem? → afx, getElem?_toList → ae2, length_toList → ae3, getElem?_eq_getElem → ae4, getElem?_append → ae8, toList_inj → ae9, getElem?_extract → afa, getElem?_push → afb, size_append → aff
open Int renaming toNat_natCast → ago, natAbs_mul → aee, fdiv_eq_ediv_of_nonneg → aej
open Go renaming Operand → ag8, Value → ag9, TypeId → aha, Program → ahb, World → ahc
open Go.Proofs.Tryz
namespace Go.Lw
variable{P:ahb}{N:Nat}{s:AS}
theorem Sub.refl(x:AV):Sub x x:=fun _ _ _ _ h=>h
inductive SlW(sl:bE):bE->Prop
  |nil:SlW sl []
  |cons {t:Nat} {x y:AV} {l:bE} (h:lk sl t=some y) (hs:Sub y x) (hl:SlW sl l):SlW sl ((t,some x)::l)
theorem SlW.get{sl l:bE}(h:SlW sl l){t:Nat}{x:AV}(hx:lk l t=some x):∃y,lk sl t=some y/\Sub y x:=by
 induction h with
 |nil=>cases hx
 | @cons t' x' y l h1 h2 _ ih =>
  rw[aD]at hx;split at hx
  ·cases hx;subst_vars;exact⟨y,h1,h2⟩
  ·exact ih hx
theorem SlW.same{sl l:bE}{t:Nat}{x:AV}(h:lk sl t=some x)(hl:SlW sl l):SlW sl ((t,some x)::l):=.cons h (.refl x) hl
def kr(e e':AV):Prop:=e.cells.length=e'.cells.length/\∀(j:Nat)(x y:AV),e.cells[j]?=some x->e'.cells[j]?=some y->y.one=true/\Sub x y
inductive BlkSub:Blk->Blk->Prop
  |refl (x:Blk):BlkSub x x
  |row {sz:Nat} {es es':List AV} (hn:es.length=es'.length) (h:∀(i:Nat)(e e':AV),es[i]?=some e->es'[i]?=some e'->kr e e'):BlkSub (.row sz es) (.row sz es')
  |box {cs cs':List AV} (hn:cs.length=cs'.length) (h1:∀(j:Nat)(x:AV),cs'[j]?=some x->x.one=true)
      (h:∀(j:Nat)(x y:AV),cs[j]?=some x->cs'[j]?=some y->Sub x y):BlkSub (.box cs) (.box cs')
  |vecRow {vs:List ag9} (hl:vs.length<=aS):BlkSub (.vec vs) (.row 1 (vs.map .v))
inductive HpW(hp:Hp):Hp->Prop
  |nil:HpW hp []
  |cons {k:Nat} {x y:Blk} {l:Hp} (h:lk hp k=some y) (hs:BlkSub y x) (hl:HpW hp l):HpW hp ((k,some x)::l)
theorem HpW.k{hp l:Hp}{k:Nat}{x:Blk}(hl:HpW hp l)(h:lk hp k=some x:=by exact rfl):HpW hp ((k,some x)::l):=.cons h (.refl x) hl
theorem HpW.same{hp l:Hp}{k:Nat}{x:Blk}(h:lk hp k=some x)(hl:HpW hp l):HpW hp ((k,some x)::l):=.cons h (.refl x) hl
theorem HpW.get{hp l:Hp}(h:HpW hp l){k:Nat}{x:Blk}(hx:lk l k=some x):∃y,lk hp k=some y/\BlkSub y x:=by
 induction h with
 |nil=>cases hx
 | @cons t' x' y l h1 h2 _ ih =>
  rw[aD]at hx;split at hx
  ·cases hx;subst_vars;exact⟨y,h1,h2⟩
  ·exact ih hx
theorem jr{α β:Type}{l:List α}{l':List β}(hn:l.length=l'.length){j:Nat}{x:α}(hx:l[j]?=some x):∃y,l'[j]?=some y:=by
 have hj:j<l.length:=by
  rcases afv j l.length with h |h
  ·exact h
  ·rw[af0 h]at hx;cases hx
 exact⟨_,afr oz⟩
theorem BlkSub.rep{g:Nat->Array ag9->Prop}{S:Nat->Nat->Prop}{m:Nat->Option Nat}{w:ahc}{o:Option Nat}{x y:Blk}(h:BlkSub x y)(hr:BlkRep g S m w o x):BlkRep g S m w o y:=by
 cases h with
 |refl=>exact hr
 | @row sz es es' hn h =>
  cases hr with
  |none =>
   have:es'=[]:=ac9 hn.symm;subst this;exact .none _
  |row hw hn' hl hs h1 hrr =>
   refine .row hw (by rw[<- hn];exact hn') oz ?_ ?_ ?_
   ·intro i e' he';obtain⟨e,he⟩:=jr hn.symm he';rw[<- (h i e e' he he').1];exact hs i e he
   ·intro i j e' x' he' hx';obtain⟨e,he⟩:=jr hn.symm he';obtain⟨x,hx⟩:=jr (h i e e' he he').1.symm hx';exact((h i e e' he he').2 j x x' hx hx').1
   ·intro i j e' u x' he' hx' hu;obtain⟨e,he⟩:=jr hn.symm he';obtain⟨x,hx⟩:=jr (h i e e' he he').1.symm hx';exact((h i e e' he he').2 j x x' hx hx').2 _ _ _ _ (hrr i j e u x he hx hu)
 |box hn h1 h =>
  cases hr with
  |box hw hn' h1' hrr =>
   refine .box hw oz h1 (fun j u y hu hy=>?_);obtain⟨z,hz⟩:=jr hn.symm hy;exact h j z y hz hy _ _ _ _ (hrr j u z hu hz)
 | @vecRow vs hl =>
  cases hr with
  | @vec _ _ c t hw hc h1 =>
   have hcl:c.size=vs.length:=by rw[<- hc];simp
   refine .row hw (by simp;omega) (by simpa using hl) ?_ ?_ ?_
   ·intro i e he;obtain⟨v,hv,rfl⟩:=ac6.1 (afl he);rfl
   ·intro i j e x he hx;obtain⟨v,hv,rfl⟩:=ac6.1 (afl he);cases j with
    |zero=>cases hx;exact h1 v hv
    |succ j=>cases hx
   ·intro i j e u x he hx hu;rw[afu,afs]at he;obtain⟨v,hv,rfl⟩:=he;cases j with
    |zero =>
     cases hx;have:c[i]?=some v:=by rw[<- ae2,hc];exact hv
     have hu':c[i]?=some u:=by simpa using hu
     rw[this]at hu';cases hu';exact .v _
    |succ j=>cases hx
theorem RelM.weak{C:Ctx}{m:Nat->Option Nat}{a:Act}{w:ahc}(h:RelM C s m a w){s':AS}(h1:∀t x,s'.get t=some x->∃y,s.get t=some y/\Sub y x)
  (h2:∀k x,lk s'.hp k=some x->∃y,lk s.hp k=some y/\BlkSub y x):RelM C s' m a w:=by
 have hf:=Frame.refl (aW s.hp m) w
 have hal:∀k' z b,lk s'.hp k'=some z->m k'=some b->aW s.hp m b\/w.heap.size<=b:=fun k' z b hz hb=>by
  obtain⟨y,hy,_⟩:=h2 k' z hz;exact .inl ⟨k',y,hy,hb⟩
 have hu:=h.update hf (hp':=s'.hp) (fun _ _ _ _ _ _ hb=>hb) hal (fun k' z _ hz=>by obtain⟨y,hy,_⟩:=h2 k' z hz;exact⟨⟨y,hy⟩,rfl⟩) ⟨?_,?_,?_⟩
 ·refine⟨?_,hu.heap,hu.frame,hu.new,hu.keep,hu.defers,hu.nt⟩;intro t x hx;obtain⟨y,hy,hs⟩:=h1 t x hx;obtain⟨g1,g2⟩:=hu.slots t y hy;exact⟨g1,hs _ _ _ _ g2⟩
 ·intro k' z hz;obtain⟨y,hy,hs⟩:=h2 k' z hz;exact hs.rep (BlkRep.mono (w:=w) (fg hf hal) hf.sz (fun _ _ _ h=>h) rfl (fun _ _=>rfl) (h.heap.blk k' y hy))
 ·intro k1 k2 z1 z2 b g1 g2;obtain⟨y1,hy1,_⟩:=h2 k1 z1 g1;obtain⟨y2,hy2,_⟩:=h2 k2 z2 g2;exact h.heap.inj k1 k2 y1 y2 b hy1 hy2
 ·intro k' z b hz hb;obtain⟨y,hy,_⟩:=h2 k' z hz;exact h.heap.sep k' y b hy hb
theorem Wk.of{sl:bE}{hp:Hp}(h1:SlW s.sl sl)(h2:HpW s.hp hp):Wk s ⟨sl,hp⟩ :=
 fun C m a w hr=>⟨m,hr.weak (fun t x hx=>h1.get hx) (fun k x hx=>h2.get hx)⟩
mutual
def AV.fz(k sz:Nat)(es:List AV):AV->AV
  | .ms k' sz' off len=>match ab3 k' k&&ab3 sz' sz&&Nat.ble (off+len) es.length with
    |true=>.lst sz ((es.drop off).take len)
    |false=>.ms k' sz' off len
  | .agg cs=>.agg (AV.fzs k sz es cs)
  | .tup cs=>.tup (AV.fzs k sz es cs)
  | .fn f cs=>.fn f (AV.fzs k sz es cs)
  | .opt b x=>.opt b (AV.fz k sz es x)
  | .v x=>.v x
  | .lst sz l=>.lst sz l
  | .iptr l=>.iptr l
  | .ptr k off=>.ptr k off
  | .eptr k sz i off=>.eptr k sz i off
  | .yl k=>.yl k
  | .cl f cs ds=>.cl f cs ds
def AV.fzs(k sz:Nat)(es:List AV):List AV->List AV
  |[]=>[]
  |x::l=>AV.fz k sz es x::AV.fzs k sz es l
end
theorem AV.fzs_eq(k sz:Nat)(es:List AV):∀l,AV.fzs k sz es l=l.map (AV.fz k sz es)
 |[]=>rfl
 |x::l=>by simp only[AV.fzs,agv,AV.fzs_eq k sz es l]
theorem AV.fz_one(k sz:Nat)(es:List AV)(x:AV)(h:x.one=true):(x.fz k sz es).one=true:=by
 cases x <;> simp only[AV.fz] <;> first |exact h |(split <;> rfl)
theorem tI{g:Nat->Array ag9->Prop}{S:Nat->Nat->Prop}{k sz:Nat}{es:List AV}{m:Nat->Option Nat}{v:ag9}{x:AV}(h:Rep g S m v x)
  (hb:∀b,m k=some b->∃c:Array ag9,g b c/\es.length*sz<=c.size/\es.length<=aS/\(∀(i:Nat)(e:AV),es[i]?=some e->e.cells.length=sz) /\
   (∀(i j:Nat)(e x:AV),es[i]?=some e->e.cells[j]?=some x->x.one=true) /\
   ∀(i j:Nat)(e:AV)(u:ag9)(x:AV),es[i]?=some e->e.cells[j]?=some x->c[i*sz+j]?=some u->Rep g S dc u x):Rep g S m v (x.fz k sz es):=by
 induction h with
 |v x=>exact .v x
 |lst0 a cap sz'=>exact .lst0 a cap sz'
 |lst u hb' hc hl hs h1 hu hr _=>exact .lst u hb' hc hl hs h1 hu hr
 |iptr u hb' h1 hu hr _=>exact .iptr u hb' h1 hu hr
 |ptr h=>exact .ptr h
 |eptr h=>exact .eptr h
 |yl h=>exact .yl h
 |opt h h' ih=>exact .opt (fun hbb=>ih hbb hb) h'
 |agg hn h1 hr ih =>
  simp only[AV.fz,AV.fzs_eq];refine .agg (by simpa using hn) ?_ ?_
  ·intro j c hc;simp only[afu,afs]at hc;obtain⟨y,hy,rfl⟩:=hc;exact AV.fz_one _ _ _ _ (h1 j y hy)
  ·intro j u c hu hc;simp only[afu,afs]at hc;obtain⟨y,hy,rfl⟩:=hc;exact ih j u y hu hy hb
 |tup hn hr ih =>
  simp only[AV.fz,AV.fzs_eq];refine .tup (by simpa using hn) ?_;intro j u c hu hc;simp only[afu,afs]at hc;obtain⟨y,hy,rfl⟩:=hc;exact ih j u y hu hy hb
 |fn hn hr ih =>
  simp only[AV.fz,AV.fzs_eq];refine .fn (by simpa using hn) ?_;intro j u c hu hc;simp only[afu,afs]at hc;obtain⟨y,hy,rfl⟩:=hc;exact ih j u y hu hy hb
 |cl hn hr hn' hr' _ _=>exact .cl hn hr hn' hr'
 |ms0 a k' sz' off =>
  simp only[AV.fz];split
  ·simp;exact .lst0 _ _ _
  ·exact .ms0 _ _ _ _
 | @ms mm k' sz' off len cap b hm hc hS =>
  simp only[AV.fz];split
  ·rename_i hcond;simp only [afp,acl] at hcond;obtain⟨⟨h1,h2⟩,h3⟩:=hcond;obtain rfl:=afo h1;obtain rfl:=afo h2;obtain⟨c,hgc,hsz,hml,hs,ho,hr⟩:=hb b hm;have hlen:((es.drop off).take len).length=len:=by simp; omega
   have hget:∀(i:Nat)(e:AV),((es.drop off).take len)[i]?=some e->es[off+i]?=some e:=by
    intro i e he;rw[af7]at he;split at he
    ·rwa [agn]at he
    ·cases he
   have hcell:∀(i j:Nat)(e x:AV),es[i]?=some e->e.cells[j]?=some x->∃u,c[i*sz'+j]?=some u:=by
    intro i j e x he hx
    have hi:i<es.length:=by
     rcases afv i es.length with h |h
     ·exact h
     ·rw[af0 h]at he;cases he
    have hj:j<e.cells.length:=by
     rcases afv j e.cells.length with h |h
     ·exact h
     ·rw[af0 h]at hx;cases hx
    rw[hs i e he]at hj;have:=mF (sz:=sz') hi;exact⟨_,ae4 oz⟩
   have:=Rep.lst (g:=g) (S:=S) (m:=mm) (b:=b) (off:=off*sz') (cap:=cap) (sz:=sz') (es:=(es.drop off).take len) (cs:=c)
    (fun i j=>c.getD ((off+i)*sz'+j) undef) hgc oz oz (fun i e he=>hs _ e (hget i e he)) (fun i j e x he hx=>ho _ j e x (hget i e he) hx)
    (fun i j e x he hx=>by
     obtain⟨u,hu⟩:=hcell _ j e x (hget i e he) hx;rw[afx,hu,<- aci,hu];rfl)
    (fun i j e x he hx=>by
     obtain⟨u,hu⟩:=hcell _ j e x (hget i e he) hx;rw[afx,hu];exact hr _ j e u x (hget i e he) hx hu)
   rwa [hlen]at this
  ·exact .ms hm hc hS
def iF(f:AV->AV):bE->bE
  |[]=>[]
  |(t,x)::l=>(t,match x with |some x=>some (f x) |none=>none)::iF f l
theorem p7(f:AV->AV):∀(l:bE)(t:Nat),lk (iF f l) t=(lk l t).map f
 |[],t=>rfl
 |(t',x)::l,t=>by
  simp only[iF,aD,p7 f l t];split
  ·cases x <;> rfl
  ·rfl
def Blk.map(f:AV->AV):Blk->Blk
  | .box cs=>.box (cs.map f)
  | .row sz es=>.row sz es
  | .loop d st pe sl=>.loop d st pe (iF f sl)
  | .vec vs=>.vec vs
theorem BlkRep.mapLoop{g g':Nat->Array ag9->Prop}{S S':Nat->Nat->Prop}{m m':Nat->Option Nat}{w:ahc}{o:Option Nat}{d:LpD}{st:LoopState}{pe:Option Code}{sl:bE}(f:AV->AV)
  (h:BlkRep g S m w o (.loop d st pe sl)) (hf:∀t x v,lk sl t=some x->Rep g S m v x->Rep g' S' m' v (f x)):BlkRep g' S' m' w o (.loop d st pe (iF f sl)):=by
 cases h with
 |loop h h1 h2 h3 h4 h5 hn hr =>
  refine .loop h h1 h2 h3 h4 h5 hn (fun t x hx=>?_);rw[p7,afs]at hx;obtain⟨y,hy,rfl⟩:=hx;exact⟨(hr t y hy).1,hf t y _ hy (hr t y hy).2⟩
def fk(f:AV->AV)(k:Nat):Hp->Hp
  |[]=>[]
  |(k',x)::l=>(k',match ab3 k' k with |true=>none |false=>match x with |some x=>some (x.map f) |none=>none)::fk f k l
theorem lI(f:AV->AV)(k:Nat):∀(l:Hp)(t:Nat),lk (fk f k l) t=if t=k then none else(lk l t).map (Blk.map f)
 |[],t=>by simp[fk,lk]
 |(k',x)::l,t=>by
  simp only[fk,aD,lI f k l t]
  by_cases h1:t=k'
  ·subst h1;rw[agz rfl,agz rfl];cases hb:ab3 t k with
   |true=>rw[agz (afo hb)]
   |false=>rw[agy (acw hb)];cases x <;> rfl
  ·rw[agy h1,agy h1]
theorem Wk.freeze{k sz:Nat}{es:List AV}(hk:s.blk k=some (.row sz es)):Wk s ⟨iF (AV.fz k sz es) s.sl,fk (AV.fz k sz es) k s.hp⟩:=by
 intro C m a w hr;refine⟨m,?_⟩
 have hfew:∀k' z,lk ((k,none)::s.hp) k'=some z->lk s.hp k'=some z:=by
  intro k' z hz;rw[aD]at hz;split at hz
  ·cases hz
  ·exact hz
 have hr1:=hr.fewer hfew
 have hb:∀b,m k=some b->∃c:Array ag9,Im C.ext ((k,none)::s.hp) m w b c/\es.length*sz<=c.size/\es.length<=aS/\(∀(i:Nat)(e:AV),es[i]?=some e->e.cells.length=sz) /\
   (∀(i j:Nat)(e x:AV),es[i]?=some e->e.cells[j]?=some x->x.one=true) /\
   ∀(i j:Nat)(e:AV)(u:ag9)(x:AV),es[i]?=some e->e.cells[j]?=some x->c[i*sz+j]?=some u->Rep (Im C.ext ((k,none)::s.hp) m w) (Sz w) dc u x:=by
  intro b hm;obtain⟨c,t,hw,hn,hl,hs,ho,hrr⟩:=vG hr.heap hk hm;have him:=fg (ext:=C.ext) (Frame.refl (aW s.hp m) w) (hp':=(k,none)::s.hp) (m':=m) (fun k' z b' hz hb'=>.inl ⟨k',z,hfew k' z hz,hb'⟩);refine⟨c,⟨(hr.heap.sep k _ b hk hm).1,?_,t,(0,0),hw⟩,hn,hl,hs,ho,fun i j e u x he hx hu=>(hrr i j e u x he hx hu).mono him (fun _ _ h=>h) (fun _ _ _ h=>h)⟩;rintro⟨k',z,hz,hb'⟩;have:=hr.heap.inj k k' _ z b hk (hfew k' z hz) hm hb';subst this;rw[aD,agz rfl]at hz;cases hz
 have hown:∀k' z,lk (fk (AV.fz k sz es) k s.hp) k'=some z->∃y,lk ((k,none)::s.hp) k'=some y/\z=y.map (AV.fz k sz es):=by
  intro k' z hz;rw[lI]at hz;split at hz
  ·cases hz
  ·rename_i hne;simp only[afs]at hz;obtain⟨y,hy,rfl⟩:=hz;exact⟨y,by rw[aD,agy hne];exact hy,rfl⟩
 have hown':∀k' y,lk ((k,none)::s.hp) k'=some y->lk (fk (AV.fz k sz es) k s.hp) k'=some (y.map (AV.fz k sz es)):=by
  intro k' y hy;rw[aD]at hy;split at hy
  ·cases hy
  ·rename_i hne;rw[lI,agy hne,hy];rfl
 have e1:aW (fk (AV.fz k sz es) k s.hp) m=aW ((k,none)::s.hp) m:=by
  funext b;apply propext;constructor
  ·rintro⟨k',z,hz,hb⟩;obtain⟨y,hy,_⟩:=hown k' z hz;exact⟨k',y,hy,hb⟩
  ·rintro⟨k',y,hy,hb⟩;exact⟨k',_,hown' k' y hy,hb⟩
 have e2:Im C.ext (fk (AV.fz k sz es) k s.hp) m w=Im C.ext ((k,none)::s.hp) m w:=by funext b cs;simp only[Im,e1]
 refine⟨?_,⟨?_,?_,?_⟩,hr1.frame,?_,?_,hr1.defers,hr1.nt⟩
 ·intro t x hx;simp only[AS.get,p7,afs]at hx;obtain⟨y,hy,rfl⟩:=hx;obtain⟨g1,g2⟩:=hr1.slots t y hy;refine⟨g1,?_⟩;show Rep (Im C.ext (fk (AV.fz k sz es) k s.hp) m w) _ _ _ _;rw[e2];exact tI g2 hb
 ·intro k' z hz;obtain⟨y,hy,rfl⟩:=hown k' z hz;rw[e2];have:=hr1.heap.blk k' y hy;cases y with
  |row sz' es'=>exact this
  |vec vs =>
   simp only[Blk.map];generalize m k'=o at this;cases this with
   |vec hw hc h1=>exact .vec hw hc h1
  |loop=>exact this.mapLoop _ (fun _ _ _ _ h=>tI h hb)
  |box cs =>
   simp only[Blk.map];generalize m k'=o at this;cases this with
   |box hw hn h1 hrr =>
    refine .box hw (by simpa using hn) ?_ ?_
    ·intro j x hx;simp only[afu,afs]at hx;obtain⟨y,hy,rfl⟩:=hx;exact AV.fz_one _ _ _ _ (h1 j y hy)
    ·intro j u x hu hx;simp only[afu,afs]at hx;obtain⟨y,hy,rfl⟩:=hx;exact tI (hrr j u y hu hy) hb
 ·intro k1 k2 z1 z2 b g1 g2;obtain⟨y1,hy1,_⟩:=hown k1 z1 g1;obtain⟨y2,hy2,_⟩:=hown k2 z2 g2;exact hr1.heap.inj k1 k2 y1 y2 b hy1 hy2
 ·intro k' z b hz hb;obtain⟨y,hy,_⟩:=hown k' z hz;exact hr1.heap.sep k' y b hy hb
 ·intro k' z b hz hb;obtain⟨y,hy,_⟩:=hown k' z hz;exact hr1.new k' y b hy hb
 ·intro k' z h1000 hz;obtain⟨y,hy,_⟩:=hown k' z hz;exact hr1.keep k' y h1000 hy
mutual
def AV.rn(k d:Nat):AV->AV
  | .ms k' sz off len=>match ab3 k' k with
    |true=>.ms d sz off len
    |false=>.ms k' sz off len
  | .ptr k' off=>match ab3 k' k with
    |true=>.ptr d off
    |false=>.ptr k' off
  | .eptr k' sz i off=>match ab3 k' k with
    |true=>.eptr d sz i off
    |false=>.eptr k' sz i off
  | .agg cs=>.agg (AV.rns k d cs)
  | .tup cs=>.tup (AV.rns k d cs)
  | .fn f cs=>.fn f (AV.rns k d cs)
  | .opt b x=>.opt b (AV.rn k d x)
  | .yl k'=>match ab3 k' k with
    |true=>.yl d
    |false=>.yl k'
  | .cl f cs ds=>.cl f cs ds
  | .v x=>.v x
  | .lst sz l=>.lst sz l
  | .iptr l=>.iptr l
def AV.rns(k d:Nat):List AV->List AV
  |[]=>[]
  |x::l=>AV.rn k d x::AV.rns k d l
end
theorem AV.rns_eq(k d:Nat):∀l,AV.rns k d l=l.map (AV.rn k d)
 |[]=>rfl
 |x::l=>by simp only[AV.rns,agv,AV.rns_eq k d l]
theorem AV.rn_one(k d:Nat)(x:AV)(h:x.one=true):(x.rn k d).one=true:=by
 cases x <;> simp only[AV.rn] <;> first |exact h |(split <;> rfl)
theorem ZO{g:Nat->Array ag9->Prop}{S:Nat->Nat->Prop}{k d:Nat}{m m':Nat->Option Nat}{v:ag9}{x:AV}(h:Rep g S m v x)(hd:¬x.Names d)
  (h1:m' d=m k) (h2:∀k',k'≠d->m' k'=m k'):Rep g S m' v (x.rn k d):=by
 induction h with
 |v x=>exact .v x
 |lst0 a cap sz'=>exact .lst0 a cap sz'
 |lst u hb hc hl hs ho hu hr _=>exact .lst u hb hc hl hs ho hu hr
 |iptr u hb ho hu hr _=>exact .iptr u hb ho hu hr
 | @ptr _ k' off b hm =>
  simp only[AV.rn];split
  ·rename_i hk;obtain rfl:=afo hk;exact .ptr (h1.trans hm)
  ·exact .ptr ((h2 _ (fun e=>hd (e▸.ptr _ _))).trans hm)
 | @eptr _ k' sz i off b hm =>
  simp only[AV.rn];split
  ·rename_i hk;obtain rfl:=afo hk;exact .eptr (h1.trans hm)
  ·exact .eptr ((h2 _ (fun e=>hd (e▸.eptr _ _ _ _))).trans hm)
 |ms0 a k' sz' off =>
  simp only[AV.rn];split <;> exact .ms0 _ _ _ _
 |cl hn hr hn' hr' _ _=>exact .cl hn hr hn' hr'
 | @yl _ k' b hm =>
  simp only[AV.rn];split
  ·rename_i hk;obtain rfl:=afo hk;exact .yl (h1.trans hm)
  ·exact .yl ((h2 _ (fun e=>hd (e▸.yl _))).trans hm)
 | @ms _ k' sz' off len cap b hm hc hS =>
  simp only[AV.rn];split
  ·rename_i hk;obtain rfl:=afo hk;exact .ms (h1.trans hm) hc hS
  ·exact .ms ((h2 _ (fun e=>hd (e▸.ms _ _ _ _))).trans hm) hc hS
 |opt h h' ih=>exact .opt (fun hb=>ih hb (fun hn=>hd (.opt hn)) h1 h2) h'
 |agg hn h1' hr ih =>
  simp only[AV.rn,AV.rns_eq];refine .agg (by simpa using hn) ?_ ?_
  ·intro j c hc;simp only[afu,afs]at hc;obtain⟨y,hy,rfl⟩:=hc;exact AV.rn_one _ _ _ (h1' j y hy)
  ·intro j u c hu hc;simp only[afu,afs]at hc;obtain⟨y,hy,rfl⟩:=hc;exact ih j u y hu hy (fun hn=>hd (.agg (afl hy) hn)) h1 h2
 |tup hn hr ih =>
  simp only[AV.rn,AV.rns_eq];refine .tup (by simpa using hn) ?_;intro j u c hu hc;simp only[afu,afs]at hc;obtain⟨y,hy,rfl⟩:=hc;exact ih j u y hu hy (fun hn=>hd (.tup (afl hy) hn)) h1 h2
 |fn hn hr ih =>
  simp only[AV.rn,AV.rns_eq];refine .fn (by simpa using hn) ?_;intro j u c hu hc;simp only[afu,afs]at hc;obtain⟨y,hy,rfl⟩:=hc;exact ih j u y hu hy (fun hn=>hd (.fn (afl hy) hn)) h1 h2
def mo(k d:Nat)(y:Blk)(hp:Hp):Hp:=(d,some (y.map (AV.rn k d)))::fk (AV.rn k d) k hp
theorem p5{k d:Nat}{y:Blk}{hp:Hp}{k':Nat}{z:Blk}(h:lk (mo k d y hp) k'=some z) :
  ∃y',lk ((d,some y)::(k,none)::hp) k'=some y'/\z=y'.map (AV.rn k d):=by
 unfold mo at h;rw[aD]at h ⊢;split at h
 ·rename_i he;rw[agz he];cases h;exact⟨y,rfl,rfl⟩
 ·rename_i he;rw[agy he,aD];rw[lI]at h;split at h
  ·cases h
  ·rename_i hk;rw[agy hk];simp only[afs]at h;obtain⟨y',hy',rfl⟩:=h;exact⟨y',hy',rfl⟩
theorem Wk.rk{k d:Nat}{y:Blk}(hk:s.blk k=some y)(hd:s.freshB d=true):Wk s ⟨iF (AV.rn k d) s.sl,mo k d y s.hp⟩:=by
 intro C m a w hr;have hfr:=AS.fresh_of hd;have hr1:=hr.rk hk hfr;refine⟨fun k'=>if k'=d then m k else m k',?_⟩
 have hown':∀k' y',lk ((d,some y)::(k,none)::s.hp) k'=some y'->lk (mo k d y s.hp) k'=some (y'.map (AV.rn k d)):=by
  intro k' y' h;unfold mo;rw[aD]at h ⊢;split at h
  ·rename_i he;rw[agz he];cases h;rfl
  ·rename_i he;rw[agy he,lI];rw[aD]at h;split at h
   ·cases h
   ·rename_i hk';rw[agy hk',h];rfl
 have e1:aW (mo k d y s.hp) (fun k'=>if k'=d then m k else m k')=aW ((d,some y)::(k,none)::s.hp) (fun k'=>if k'=d then m k else m k'):=by
  funext b;apply propext;constructor
  ·rintro⟨k',z,hz,hb⟩;obtain⟨y',hy',_⟩:=p5 hz;exact⟨k',y',hy',hb⟩
  ·rintro⟨k',y',hy',hb⟩;exact⟨k',_,hown' k' y' hy',hb⟩
 have e2:Im C.ext (mo k d y s.hp) (fun k'=>if k'=d then m k else m k') w=Im C.ext ((d,some y)::(k,none)::s.hp) (fun k'=>if k'=d then m k else m k') w:=by
  funext b cs;simp only[Im,e1]
 have him:=fg (ext:=C.ext) (Frame.refl (aW s.hp m) w) (hp':=(d,some y)::(k,none)::s.hp) (m':=fun k'=>if k'=d then m k else m k') (by
  intro k' z b hz hb;rw[aD]at hz;split at hz
  ·rename_i he;rw[agz he]at hb;exact .inl ⟨k,y,hk,hb⟩
  ·rename_i he;rw[agy he]at hb
   rw[aD]at hz;split at hz
   ·cases hz
   ·exact .inl ⟨k',z,hz,hb⟩)
 have hrn:∀v x,¬AV.Names x d->Rep (Im C.ext s.hp m w) (Sz w) m v x->Rep (Im C.ext ((d,some y)::(k,none)::s.hp) (fun k'=>if k'=d then m k else m k') w) (Sz w) (fun k'=>if k'=d then m k else m k') v (x.rn k d):=by
  intro v x hx h;exact ZO (h.mono him (fun _ _ h=>h) (fun _ _ _ h=>h)) hx (agz rfl) (fun k' hne=>agy hne)
 refine⟨?_,⟨?_,?_,?_⟩,hr1.frame,?_,?_,hr1.defers,hr1.nt⟩
 ·intro t x hx;simp only[AS.get,p7,afs]at hx;obtain⟨z,hz,rfl⟩:=hx;obtain⟨g1,g2⟩:=hr.slots t z hz;refine⟨g1,?_⟩;show Rep (Im C.ext (mo k d y s.hp) _ w) _ _ _ _;rw[e2];exact hrn _ _ (hfr.2.2.1 t z hz) g2
 ·intro k' z hz;obtain⟨y',hy',rfl⟩:=p5 hz;rw[e2]
  have hold:∃k0,lk s.hp k0=some y'/\(if k'=d then m k else m k')=m k0:=by
   rw[aD]at hy';split at hy'
   ·rename_i he;cases hy';exact⟨k,hk,agz he⟩
   ·rename_i he;rw[aD]at hy';split at hy'
    ·cases hy'
    ·exact⟨k',hy',agy he⟩
  obtain⟨k0,hk0,hm0⟩:=hold;rw[hm0];have hb:=hr.heap.blk k0 y' hk0;have hnd:=hfr.2.2.2 k0 y' hk0;cases y' with
  |row sz es=>exact BlkRep.mono (w:=w) him (fun _ _ h=>h) (fun _ _ h=>h.elim) rfl (fun _ _=>rfl) hb
  |vec vs=>exact BlkRep.mono (w:=w) him (fun _ _ h=>h) (fun _ _ h=>h.elim) rfl (fun _ _=>rfl) hb
  |loop=>exact hb.mapLoop _ (fun t x v hx h=>hrn v x (fun hn=>hnd ⟨t,x,nI hx,hn⟩) h)
  |box cs =>
   simp only[Blk.map];generalize m k0=o at hb;cases hb with
   |box hw hn h1 hrr =>
    refine .box hw (by simpa using hn) ?_ ?_
    ·intro j x hx;simp only[afu,afs]at hx;obtain⟨z,hz,rfl⟩:=hx;exact AV.rn_one _ _ _ (h1 j z hz)
    ·intro j u x hu hx;simp only[afu,afs]at hx;obtain⟨z,hz,rfl⟩:=hx;exact hrn u z (fun hn=>hnd ⟨z,afl hz,hn⟩) (hrr j u z hu hz)
 ·intro k1 k2 z1 z2 b g1 g2;obtain⟨y1,hy1,_⟩:=p5 g1;obtain⟨y2,hy2,_⟩:=p5 g2;exact hr1.heap.inj k1 k2 y1 y2 b hy1 hy2
 ·intro k' z b hz hb;obtain⟨y',hy',_⟩:=p5 hz;exact hr1.heap.sep k' y' b hy' hb
 ·intro k' z b hz hb;obtain⟨y',hy',_⟩:=p5 hz;exact hr1.new k' y' b hy' hb
 ·intro k' z h1000 hz;obtain⟨y',hy',_⟩:=p5 hz;exact hr1.keep k' y' h1000 hy'
theorem Wk.virt(d sz:Nat)(hd:s.freshB d=true):Wk s ⟨s.sl,(d,some (.row sz []))::s.hp⟩ :=
 fun C m a w hr=>⟨_,hr.virt sz (AS.fresh_of hd)⟩
theorem Sub.nM(a:Option Addr)(d sz:Nat):Sub (.v (.slice a 0 0)) (.ms d sz 0 0):=fun g S m v h=>by cases h;exact .ms0 _ _ _ _
theorem Sub.trans{x y z:AV}(h:Sub x y)(h':Sub y z):Sub x z:=fun g S m v hr=>h' g S m v (h g S m v hr)
theorem aE.keep{x:AV}{H':Hp}(h:∀k z,lk H' k=some z->lk s.hp k=some z):aE s x x H':=by
 intro ext m w v hh hext hx;have him:=fg (ext:=ext) (Frame.refl (aW s.hp m) w) (hp':=H') (m':=m) (fun k' z b hz hb=>.inl ⟨k',z,h k' z hz,hb⟩);refine⟨m,⟨?_,?_,?_⟩,fun k z b hz hb=>⟨k,z,h k z hz,hb⟩,fun k z _ hz=>⟨⟨z,h k z hz⟩,rfl⟩,hx.mono him (fun _ _ h=>h) (fun _ _ _ h=>h)⟩
 ·intro k z hz;exact BlkRep.mono (w:=w) him (fun _ _ h=>h) (fun _ _ _ h=>h) rfl (fun _ _=>rfl) (hh.blk k z (h k z hz))
 ·intro k k' z z' b h1 h2;exact hh.inj k k' z z' b (h _ _ h1) (h _ _ h2)
 ·intro k z b hz hb;exact hh.sep k z b (h k z hz) hb
theorem aE.sub{x r r':AV}{H':Hp}(h:aE s x r H')(hs:Sub r r'):aE s x r' H':=by
 intro ext m w v hh hext hx;obtain⟨m',h1,h2,h3,h4⟩:=h ext m w v hh hext hx;exact⟨m',h1,h2,h3,hs _ _ _ _ h4⟩
theorem aE.pure{x:AV}:aE s x x []:=.keep (fun k z h=>by cases h)
end Go.Lw
namespace Go.Lw
abbrev B:Nat:=4294967296
def val:List Nat->Nat
  |[]=>0
  |x::l=>x+4294967296*val l
def Ws(l:List Nat):Prop:=∀x∈l,x<4294967296
def jL:Nat->Nat->List Nat
  |0,_=>[]
  |f+1,n=>match n with
    |0=>[]
    |n+1=>((n+1)%4294967296)::jL f ((n+1)/4294967296)
def ofNat(n:Nat):List Nat:=jL (n.log2/32+1) n
def Nz(l:List Nat):Prop:=∀x,l.getLast?=some x->x≠0
theorem sY(a b:List Nat):val (a++b)=val a+4294967296^a.length*val b:=by
 induction a with
 |nil=>simp[val]
 |cons x a ih=>simp only[cons_append,val,ih,af9,acq];grind
theorem b7(l:List Nat)(h:Ws l):val l<4294967296^l.length:=by
 induction l with
 |nil=>simp[val]
 |cons x l ih =>
  have h1:=h x (by simp);have h2:=ih (fun y hy=>h y (by simp[hy]));simp only[val,af9,acq];omega
theorem yx(n:Nat):val (ad7 n 0)=0:=by
 induction n with
 |zero=>rfl
 |succ n ih=>simp[List.replicate_succ,val,ih]
theorem UP(f:Nat):jL f 0=[]:=by cases f <;> rfl
theorem Dx(f n:Nat)(h:n≠0):jL (f+1) n=(n%4294967296)::jL f (n/4294967296):=by
 cases n with
 |zero=>exact ag5 rfl h
 |succ n=>rfl
theorem Id:∀(f n:Nat),n<4294967296^f->val (jL f n)=n:=by
 intro f
 induction f with
 |zero=>intro n h;simp at h;subst h;rfl
 |succ f ih =>
  intro n h
  by_cases h0:n=0
  ·subst h0;rfl
  ·rw[Dx f n h0];simp only[val];rw[ih _ (by rw[acq]at h;exact Nat.div_lt_of_lt_mul (by rw[acb];exact h))];omega
theorem Ye:∀(f n:Nat),Ws (jL f n):=by
 intro f
 induction f with
 |zero=>intro n x h;simp[jL]at h
 |succ f ih =>
  intro n
  by_cases h0:n=0
  ·subst h0;intro x h;simp[jL]at h
  ·rw[Dx f n h0];intro x h;rcases agd.1 h with rfl |h
   ·omega
   ·exact ih _ x h
theorem Um:∀(f n:Nat),n<4294967296^f->Nz (jL f n):=by
 intro f
 induction f with
 |zero=>intro n h x hx;simp[jL]at hx
 |succ f ih =>
  intro n h
  by_cases h0:n=0
  ·subst h0;intro x hx;simp[jL]at hx
  ·rw[Dx f n h0];have hd:n / 4294967296<4294967296 ^ f:=by rw[acq] at h; exact Nat.div_lt_of_lt_mul (by rw[acb]; exact h)
   intro x hx
   by_cases h1:n/4294967296=0
   ·rw[h1,UP]at hx;simp at hx;omega
   ·have h2:=ih _ hd x;cases hq:jL f (n/4294967296)with
    |nil =>
     have:=Id f _ hd;rw[hq]at this;simp[val]at this;omega
    |cons y ys =>
     rw[hq]at hx h2;rw[adu]at hx;exact h2 hx
theorem FX(n:Nat):n<4294967296^(n.log2/32+1):=by
 have h1:n<2^(n.log2+1):=Nat.lt_log2_self;have h2:(4294967296:Nat)=2^32:=by decide
 rw[h2,<- abv];exact af3 h1 (acr (by decide) oz)
theorem cc(n:Nat):val (ofNat n)=n:=Id _ _ (FX n)
theorem di(n:Nat):Ws (ofNat n):=Ye _ _
theorem qR(n:Nat):Nz (ofNat n):=Um _ _ (FX n)
theorem wQ{x:Nat}{l:List Nat}(h:Nz (x::l)):Nz l:=by
 intro y hy;cases l with
 |nil=>simp at hy
 |cons z l=>exact h y (by rw[adu];exact hy)
theorem V7:∀(a b:List Nat),Ws a->Ws b->Nz a->Nz b->val a=val b->a=b:=by
 have key:∀(l:List Nat),Nz l->val l=0->l=[]:=by
  intro l
  induction l with
  |nil=>intro _ _;rfl
  |cons x l ih =>
   intro hn hv;simp only[val]at hv;have:=ih (wQ hn) oz;subst this;exact ag5 (by omega:x=0) (hn x rfl)
 intro a
 induction a with
 |nil=>intro b _ _ _ hb hv;exact(key b hb hv.symm).symm
 |cons x a ih =>
  intro b ha hb hna hnb hv;cases b with
  |nil=>exact key _ hna hv
  |cons y b =>
   have h1:=ha x (by simp);have h2:=hb y (by simp);simp only[val]at hv;have:=ih b (fun z hz=>ha z (by simp[hz])) (fun z hz=>hb z (by simp[hz])) (wQ hna) (wQ hnb) oz;subst this;rw[show x=y by omega]
theorem sR{l:List Nat}(h:Ws l)(hn:Nz l):ofNat (val l)=l :=
 V7 _ _ (di _) h (qR _) hn (cc _)
theorem Fs{l:List Nat}{n:Nat}(h:Ws l)(hn:Nz l)(hv:val l=n):l=ofNat n:=by subst hv;exact(sR h hn).symm
theorem Rv:ofNat 0=[]:=rfl
theorem oP{l:List Nat}(hn:Nz l)(h:l≠[]):0<val l:=by
 rcases abu (val l)with h0 |h0
 ·exfalso
  induction l with
  |nil=>exact h rfl
  |cons x l ih =>
   simp only[val]at h0
   by_cases hl:l=[]
   ·subst hl;exact hn x rfl oz
   ·exact ih (wQ hn) hl oz
 ·exact h0
theorem fv{n k:Nat}(h:n<4294967296^k):(ofNat n).length<=k:=by
 have hv:=cc n;rcases afv k (ofNat n).length with hlt |hge
 ·exfalso;have hne:ofNat n≠[]:=by intro e; rw[e] at hlt; simp at hlt
  have hsplit:ofNat n=(ofNat n).dropLast++[(ofNat n).getLast hne]:=(adk hne).symm;have hlast:(ofNat n).getLast hne≠0:=qR n _ (List.getLast?_eq_some_getLast hne)
  have hval:val (ofNat n)=val (ofNat n).dropLast+4294967296^(ofNat n).dropLast.length*(ofNat n).getLast hne:=by
   conv=>lhs;rw[hsplit]
   rw[sY];simp[val]
  have hlen:(ofNat n).dropLast.length=(ofNat n).length-1:=List.length_dropLast;have h1:4294967296^k<=4294967296^(ofNat n).dropLast.length:=acr (by decide) oz;have h2:4294967296^(ofNat n).dropLast.length*1<=4294967296^(ofNat n).dropLast.length*(ofNat n).getLast hne:=afw _ oz;omega
 ·exact hge
theorem HQ{l:List Nat}{i x:Nat}(h:l[i]?=some x):val (l.take (i+1))=val (l.take i)+4294967296^i*x:=by
 have hi:i<l.length:=by
  rcases afv i l.length with h' |h'
  ·exact h'
  ·rw[af0 h']at h;cases h
 rw[List.take_add_one,h,sY];simp[val,agu];rw[acs oz]
theorem eY{l:List Nat}{i:Nat}(h:l.length<=i):val (l.take i)=val l:=by rw[af4 h]
variable{P:ahb}{N:Nat}{R:Array Oper}{s:AS}{pos:String}{after:Array Edge}
def Au(s:AS)(u:Out):Bool:=u.upd.all fun p=>u.rd.contains p.1||s.freshB p.1
theorem ua{u:Out}(h:Au s u=true):jt s u:=by
 intro k hk;obtain⟨p,hp,rfl⟩:=ac6.1 hk;have:=afy.1 h p hp;simp only[agp]at this;rcases this with h |h
 ·exact .inl (by simpa using h)
 ·exact .inr (AS.fresh_of h)
theorem Ot{f:FuncId}{fn:Func}{c:Code}{rs:List ResultVar}{args:List AV}{r:AV}(hf:P.funcs[f]?=some fn)(hb:fn.body=some c)
  (hn : (fn.name == "runtime.NumGoroutine") = false) (hrs : fn.results = rs.toArray) (hN : fn.ntmps = N)
  (h:br P N c (mz P rs r []) ⟨mO 0 args,[]⟩):je P f args r :=
 DI hf hb hn hrs hN (fun k z h=>by cases h) h
theorem LF{x r:AV}(h:x=r):aE s (dh [x]) r []:=h▸aE.pure
theorem jp{x r:AV}(h:Sub x r):aE s (dh [x]) r []:=aE.pure.sub h
theorem n7{x y r:AV}(h:AV.tup [x,y]=r):aE s (dh [x,y]) r []:=h▸aE.pure
theorem tM{x y z r:AV}(h:AV.tup [x,y,z]=r):aE s (dh [x,y,z]) r []:=h▸aE.pure
theorem gy{x r:AV}(h:Sub x r):aE s x r []:=aE.pure.sub h
theorem ff{d:Nat}{x y:ag8}{k k':IntKind}{a b c:Int}{S T t:aha}
  (hx:Ev s x (.v (.int k a))) (hy:Ev s y (.v (.int k' b))) (hb:0<=b) (hc:a.fdiv (2^(min b.toNat k.bits))=c) (hN:acm d N=true) :
  Step P N R s ⟨some d,.binOp .shr S x y T,t,pos,after,none⟩ ⟨some (.v (.int k c)),[],aj x++aj y,[]⟩:=hc▸Mg hx hy hb hN
theorem i6{d:Nat}{x y:ag8}{k k':IntKind}{a b c:Int}{S T t:aha}
  (hx:Ev s x (.v (.int k a))) (hy:Ev s y (.v (.int k' b))) (hb:0<=b) (hc:k.wrap (a*2^(min b.toNat k.bits))=c) (hN:acm d N=true) :
  Step P N R s ⟨some d,.binOp .shl S x y T,t,pos,after,none⟩ ⟨some (.v (.int k c)),[],aj x++aj y,[]⟩:=hc▸Gy hx hy hb hN
theorem eh{d:Nat}{x y:ag8}{k:IntKind}{a b c:Int}{S T t:aha}
  (hx:Ev s x (.v (.int k a))) (hy:Ev s y (.v (.int k b))) (hb:b≠0) (hc:k.wrap (a.tdiv b)=c) (hN:acm d N=true) :
  Step P N R s ⟨some d,.binOp .quo S x y T,t,pos,after,none⟩ ⟨some (.v (.int k c)),[],aj x++aj y,[]⟩:=hc▸IZ hx hy hb hN
theorem xF{d:Nat}{x y:ag8}{k:IntKind}{a b c:Int}{S T t:aha}
  (hx:Ev s x (.v (.int k a))) (hy:Ev s y (.v (.int k b))) (hb:b≠0) (hc:a.tmod b=c) (hN:acm d N=true) :
  Step P N R s ⟨some d,.binOp .rem S x y T,t,pos,after,none⟩ ⟨some (.v (.int k c)),[],aj x++aj y,[]⟩:=hc▸Gp hx hy hb hN
theorem jM{d:Nat}{op:BinOp}{x y:ag8}{k:IntKind}{a b c:Int}{S T t:aha}
  (hx:Ev s x (.v (.int k a))) (hy:Ev s y (.v (.int k b))) (hop:(match op with | .and | .or | .xor | .andNot=>true |_=>false)=true) (hc:mR op k a b=c) (hN:acm d N=true) :
  Step P N R s ⟨some d,.binOp op S x y T,t,pos,after,none⟩ ⟨some (.v (.int k c)),[],aj x++aj y,[]⟩:=hc▸JA hx hy hop hN
theorem cw{x y:ag8}{k sz i:Nat}{es:List AV}{e v:AV}{T t:aha}{ti:TI}
  (hx:Ev s x (.eptr k sz i 0)) (hk:s.blk k=some (.row sz es)) (he:es[i]?=some e) (hel:e.cells.length=sz) (hy:Ev s y v) (hv:v.ok=true) (hnm:v.nm=[]) (hT:au P T=some ti)
  (hsz:ab3 v.cells.length ti.size=true) (hs:ab3 ti.size sz=true) :
  Step P N R s ⟨none,.store T x y,t,pos,after,none⟩ ⟨none,[(k,some (.row sz (es.set i v)))],aj x++aj y,[k]⟩:=by
 have h1:=afo hsz;have h2:=afo hs;refine DC hx hk he hy hv hnm hT hsz (by rw[acl];omega) ?_;unfold over;rw[List.take_zero,nil_append,agb oz,adt]
theorem Sub.int{k:IntKind}{a b:Int}(h:a=b):Sub (.v (.int k a)) (.v (.int k b)):=h▸.refl _
theorem BlkSub.of{x y:Blk}(h:x=y):BlkSub x y:=h▸.refl _
theorem Sub.of{x y:AV}(h:x=y):Sub x y:=h▸.refl _
theorem ay{α:Type}{l:List α}{i:Nat}(h:i<l.length):∃x,l[i]?=some x:=⟨_,afr h⟩
theorem aq{α:Type}{f:α->AV}{l:List α}{i:Nat}{x:α}(h:l[i]?=some x):(l.map f)[i]?=some (f x):=by simp[h]
theorem Qq{c:Code}{Q:Exit->AS->Prop}{t sz:Nat}{es:List AV}(ht:s.get t=some (.lst sz es))(h:es.length<=aS->br P N c Q s):br P N c Q s:=by
 refine WM (p:=es.length<=aS) ?_ h;intro C m a w hr;obtain⟨_,h2⟩:=hr.slots t _ ht;generalize a.tmps.getD t undef=u at h2;cases h2 with
 |lst0=>exact afz _
 |lst u hb hc hl=>exact hl
theorem jk{x y:Nat}(h:x+y<18446744073709551616):IntKind.u64.wrap (fy .add (x:Int) (y:Int))=((x+y:Nat):Int):=by
 show IntKind.u64.wrap ((x:Int)+y)=_;rw[IntWalk.u64_in _ oz];simp
theorem xn{x y:Nat}(h:x*y<18446744073709551616):IntKind.u64.wrap (fy .mul (x:Int) (y:Int))=((x*y:Nat):Int):=by
 show IntKind.u64.wrap ((x:Int)*y)=_;rw[<- Int.natCast_mul,IntWalk.u64_in _ oz]
theorem kD{x y:Nat}(hx:x<18446744073709551616)(hy:y<18446744073709551616) :
  IntKind.u64.wrap (fy .sub (x:Int) (y:Int))=((if y<=x then x-y else x+18446744073709551616-y:Nat):Int):=by
 show IntKind.u64.wrap ((x:Int)-y)=_;simp only[IntKind.wrap,IntKind.signed,IntKind.bits,aey,if_false,aew];split <;> omega
theorem dq(x:Nat):IntKind.u32.wrap (x:Int)=((x%4294967296:Nat):Int):=by
 simp only[IntKind.wrap,IntKind.signed,IntKind.bits,aey,if_false,aew];omega
theorem u64_in{x:Nat}(h:x<18446744073709551616):IntKind.u64.wrap (x:Int)=(x:Int):=IntWalk.u64_in _ oz
theorem u32_in{x:Nat}(h:x<4294967296):IntKind.u32.wrap (x:Int)=(x:Int):=IntWalk.u32_in _ oz
theorem i64_in{x:Int}(h:-9223372036854775808<=x/\x<=9223372036854775807):IntKind.i64.wrap x=x:=IntWalk.i64_in _ h
theorem gV(x n:Nat)(hn:n<=64):(x:Int).fdiv (2^(min (n:Int).toNat IntKind.u64.bits))=((x/2^n:Nat):Int):=by
 have:min (n:Int).toNat IntKind.u64.bits=n:=by simp[IntKind.bits];omega
 rw[this,aej _ (Int.le_of_lt (Int.pow_pos (by decide)))];simp
theorem jz{x:Nat}(h:0<x)(hx:x<=aS):IntKind.i64.wrap (fy .sub (x:Int) 1)=((x-1:Nat):Int):=by
 show IntKind.i64.wrap ((x:Int)-1)=_;unfold aS at hx;rw[IntWalk.i64_in _ oz];omega
theorem E7{x:Nat}(hx:x<=aS):IntKind.i64.wrap (fy .add (x:Int) 1)=((x+1:Nat):Int):=by
 show IntKind.i64.wrap ((x:Int)+1)=_;unfold aS at hx;rw[IntWalk.i64_in _ oz];omega
theorem aK{x:Nat}(hx:x<=aS:=by unfold aS;omega):IntKind.i64.wrap (fy .add (x:Int) 1)=((x+1:Nat):Int):=E7 hx
theorem jP{x y:Nat}(hx:x<=aS)(hy:y<=aS):IntKind.i64.wrap (fy .add (x:Int) (y:Int))=((x+y:Nat):Int):=by
 show IntKind.i64.wrap ((x:Int)+y)=_;unfold aS at hx hy;rw[IntWalk.i64_in _ oz];omega
abbrev az:Nat:=1099511627776
def i64(n:Int):AV:=.v (.int .i64 n)
def u32(n:Nat):AV:=.v (.int .u32 n)
def u64(n:Nat):AV:=.v (.int .u64 n)
def bl(b:Bool):AV:=.v (.bool b)
def ws(l:List Nat):AV:=.lst 1 (l.map u32)
def ak(m:List Nat)(i:Nat):Nat:=m.getD i 0
theorem bO{m:List Nat}(h:Ws m)(i:Nat):ak m i<4294967296:=by
 unfold ak;rw[afn];cases hi:m[i]? with
 |none=>simp
 |some x=>exact h x (afl hi)
theorem jG{m:List Nat}{i:Nat}(h:i<m.length):m[i]?=some (ak m i):=by
 rw[afr h,ak,afn,afr h];rfl
theorem sC{m:List Nat}{i:Nat}(h:m.length<=i):ak m i=0:=by
 rw[ak,afn,af0 h];rfl
theorem b9{m:List Nat}{i:Nat}(h:i<m.length):(m.map u32)[i]?=some (u32 (ak m i)):=aq (jG h)
theorem db{l:List Nat}{i:Nat}:val (l.take (i+1))=val (l.take i)+4294967296^i*ak l i:=by
 rcases afv i l.length with h |h
 ·exact HQ (jG h)
 ·rw[sC h,eY h,eY oz];simp
theorem Rz{c:Code}{Q:Exit->AS->Prop}{α:Type}{f:α->AV}{l:List α}{t sz:Nat}(ht:s.get t=some (.lst sz (l.map f)))(h:l.length<=aS->br P N c Q s):br P N c Q s :=
 Qq ht (fun hl=>h (by simpa using hl))
theorem zh{k sz off len:Nat}{es:List AV}(h:off+len<=es.length):AV.fz k sz es (.ms k sz off len)=.lst sz ((es.drop off).take len):=by
 have h1:Nat.ble (off+len) es.length=true:=abr h;have h2:∀n,ab3 n n=true:=fun n=>ab8 n
 simp only[AV.fz,h1,h2,Bool.and_self]
theorem cz{k sz len:Nat}{es:List AV}(h:len=es.length):AV.fz k sz es (.ms k sz 0 len)=.lst sz es:=by
 subst h;rw[zh oz,agw,af1]
theorem gP{m:List Nat}{i:Int}{n:Nat}(h:i=n)(hn:n<m.length):(m.map u32)[i.toNat]?=some (u32 (ak m n)):=by
 subst h;exact b9 hn
theorem bY{α:Type}{f:α->AV}{l:List α}{i:Int}{n:Nat}{x:α}(h:i=n)(hx:l[n]?=some x):(l.map f)[i.toNat]?=some (f x):=by
 subst h;exact aq hx
theorem oK{d:Nat}{x ix:ag8}{kk:IntKind}{i:Int}{k sz off len n:Nat}{T E t:aha}{ti te:TI}
  (hx:Ev s x (.ms k sz off len)) (hi:Ev s ix (.v (.int kk i))) (hT:au P T=some ti) (hk:ti.k=.slice E) (hE:au P E=some te) (hsz:te.size=sz)
  (h0:i=(n:Int)) (he:n<len) (hN:acm d N=true) :
  Step P N R s ⟨some d,.indexAddr T x ix,t,pos,after,none⟩ ⟨some (.eptr k sz (off+n) 0),[],aj x++aj ix,[]⟩:=by
 subst h0;have:=m5 (R:=R) (t:=t) (pos:=pos) (after:=after) hx hi hT hk hE hsz oz oz hN
 rwa [ago]at this
theorem NH{a b:List Nat}{i:Nat}(ha:i<a.length)(hb:i<b.length)(h:ak a i=ak b i):a[i]=b[i]:=by
 have h1:=jG ha;have h2:=jG hb;rw[afr ha]at h1;rw[afr hb]at h2;rw[Option.some.inj h1,Option.some.inj h2,h]
theorem cZ{x y:Int}(h:-9223372036854775808<=x+y/\x+y<=9223372036854775807):IntKind.i64.wrap (fy .add x y)=x+y:=i64_in h
theorem dp{x y:Int}(h:-9223372036854775808<=x-y/\x-y<=9223372036854775807):IntKind.i64.wrap (fy .sub x y)=x-y:=i64_in h
theorem IH{x y:Int}(h:-9223372036854775808<=x*y/\x*y<=9223372036854775807):IntKind.i64.wrap (fy .mul x y)=x*y:=i64_in h
theorem bi{d:Nat}{x ix:ag8}{kk:IntKind}{i:Int}{k sz len n:Nat}{T E t:aha}{ti te:TI}
  (hx:Ev s x (.ms k sz 0 len)) (hi:Ev s ix (.v (.int kk i))) (hT:au P T=some ti) (hk:ti.k=.slice E) (hE:au P E=some te) (hsz:te.size=sz)
  (h0:i=(n:Int)) (he:n<len) (hN:acm d N=true) :
  Step P N R s ⟨some d,.indexAddr T x ix,t,pos,after,none⟩ ⟨some (.eptr k sz n 0),[],aj x++aj ix,[]⟩:=by
 have:=oK (R:=R) (t:=t) (pos:=pos) (after:=after) hx hi hT hk hE hsz h0 he hN
 rwa [ab5]at this
theorem o1{x w:Bool}(h:x=w):(x==w)=true:=by subst h;exact beq_self_eq_true x
theorem o2{c x w:Bool}(hc:c=true)(h:x=w):(c&&x==w)=true:=by subst h;subst hc;simp
theorem o3{c x w:Bool}(h:(c&&x==w)=true):c=true:=by cases c <;> simp_all
mutual
theorem AV.fz_id(k sz:Nat)(es:List AV):∀x:AV,¬x.Names k->x.fz k sz es=x
 | .ms k' sz' off len,h=>by
  have:ab3 k' k=false:=by
   cases hb:ab3 k' k
   ·rfl
   ·obtain rfl:=afo hb;exact ag5 (AV.Names.ms _ _ _ _) h
  simp only[AV.fz,this,aey]
 | .agg cs,h=>by simp only[AV.fz];rw[AV.fzs_id k sz es cs (fun c hc hn=>h (.agg hc hn))]
 | .tup cs,h=>by simp only[AV.fz];rw[AV.fzs_id k sz es cs (fun c hc hn=>h (.tup hc hn))]
 | .fn f cs,h=>by simp only[AV.fz];rw[AV.fzs_id k sz es cs (fun c hc hn=>h (.fn hc hn))]
 | .cl f cs ds,_=>by simp only[AV.fz]
 | .opt b x,h=>by simp only[AV.fz];rw[AV.fz_id k sz es x (fun hn=>h (.opt hn))]
 | .v x,_=>by simp only[AV.fz]
 | .lst sz l,_=>by simp only[AV.fz]
 | .iptr l,_=>by simp only[AV.fz]
 | .ptr k off,_=>by simp only[AV.fz]
 | .eptr k sz i off,_=>by simp only[AV.fz]
 | .yl k,_=>by simp only[AV.fz]
theorem AV.fzs_id(k sz:Nat)(es:List AV):∀l:List AV,(∀c∈l,¬c.Names k)->AV.fzs k sz es l=l
 |[],_=>by simp only[AV.fzs]
 |x::l,h=>by simp only[AV.fzs];rw[AV.fz_id k sz es x (h x (by simp)),AV.fzs_id k sz es l (fun c hc=>h c (by simp[hc]))]
end
theorem MH{k sz:Nat}{es:List AV}{x:Blk}(h:¬x.Names k):x.map (AV.fz k sz es)=x:=by
 cases x with
 |row=>rfl
 |vec=>rfl
 |box cs =>
  simp only[Blk.map];congr 1;rw[<- AV.fzs_eq];exact AV.fzs_id k sz es cs (fun c hc hn=>h ⟨c,hc,hn⟩)
 |loop d st pe sl =>
  simp only[Blk.map];congr 1
  induction sl with
  |nil=>rfl
  |cons p sl ih =>
   obtain⟨t,x⟩:=p;simp only[iF];rw[ih (fun⟨t',x',h1,h2⟩=>h ⟨t',x',agi _ h1,h2⟩)];cases x with
   |none=>rfl
   |some x=>simp only[AV.fz_id k sz es x (fun hn=>h ⟨t,x,agt ..,hn⟩)]
theorem WV{o:Oper}{d k sz n:Nat}{es:List AV}{rt rd:List Nat}(hd:o.dst=some d)(hn:n=es.length)(hdr:d∉rd)(hdk:d≠k)
  (h:Step P N R s o ⟨some (.ms d sz 0 n),[(d,some (.row sz es)),(k,none)],rt,rd⟩):Step P N R s o ⟨some (.lst sz es),[(d,none),(k,none)],rt,rd⟩:=by
 refine⟨fun s' hag hnew C m a w Q next hC hr hnext=>?_⟩
 have hfr:s'.Fresh d:=by
  rcases hnew d (by simp)with h |h
  ·exact ag5 h hdr
  ·exact h
 refine h.run s' hag hnew C m a w Q next hC hr (fun m' a' w' hr'=>?_);rw[hd]at hr'
 have hk:(s'.app (some d) ⟨some (.ms d sz 0 n),[(d,some (.row sz es)),(k,none)],rt,rd⟩).blk d=some (.row sz es):=by
  simp[AS.blk,AS.app,aD]
 obtain⟨m2,hr2⟩:=Wk.freeze hk C m' a' w' hr';refine hnext m2 a' w' ?_;rw[hd];refine hr2.congr ?_ ?_
 ·intro t;simp only[AS.get,p7,AS.app,aD];split
  ·subst hn;have e1:ab3 d d=true:=ab8 d;have e2:ab3 sz sz=true:=ab8 sz;have e3:Nat.ble (0+es.length) es.length=true:=abr oz;simp only[afi,AV.fz,e1,e2,e3,Bool.and_self,agw,af1]
  ·cases hx:lk s'.sl t with
   |none=>rfl
   |some x=>simp only[afi];rw[AV.fz_id _ _ _ _ (hfr.2.2.1 t x hx)]
 ·intro k';simp only[AS.blk,lI,AS.app,cons_append,nil_append,aD]
  by_cases h1:k'=d
  ·rw[agz h1,agz h1]
  ·rw[agy h1,agy h1,agy h1];split
   ·rfl
   ·cases hx:lk s'.hp k' with
    |none=>rfl
    |some x=>simp only[afi];rw[MH (hfr.2.2.2 k' x hx)]
theorem n8{d k sz len:Nat}{es xs:List AV}{x y:ag8}{T E t:aha}{ti te:TI}
  (hx:Ev s x (.ms k sz 0 len)) (hk:s.blk k=some (.row sz es)) (hlen:len=es.length) (hy:Ev s y (.lst sz xs)) (hT:au P T=some ti) (hkd:ti.k=.slice E) (hE:au P E=some te)
  (hsz:te.size=sz) (hz0:(ab3 te.zero.length te.size&&acm 0 te.size&&acm 0 te.bytes)=true) (hb:(len+xs.length)*te.bytes<=140737488355328) (hdk:ab3 d k=false)
  (hN:acm d N=true) :
  Step P N R s ⟨some d,.call ⟨.builtin .append,#[x,y],#[T,T]⟩,t,pos,after,none⟩
   ⟨some (.lst sz (es++xs)),[(d,none),(k,none)],aj x++aj y,[k]⟩ :=
 WV rfl (by rw[agf,hlen]) (by simpa using acw hdk) (acw hdk) (eg hx hk hlen hy hT hkd hE hsz hz0 hb hdk hN)
theorem Gl{ρ:ag8->ag9}{d:Option Tmp}{x y:ag8}{T t:aha}{w w':ahc}{v:ag9}
  (h:(Builtin.copy_ #[T,T] t #[ρ x,ρ y]).run P w=.ok v w') :
  (execOp ρ ⟨d,.call ⟨.builtin .copy,#[x,y],#[T,T]⟩,t,pos,after,none⟩).run P w=.ok (.value v) w':=by
 simp[execOp,resolve,invoke,builtin,h]
set_option maxHeartbeats 1000000 in
theorem S8{d k sz len:Nat}{es xs:List AV}{x y:ag8}{T E t:aha}{ti te:TI}
  (hx:Ev s x (.ms k sz 0 len)) (hk:s.blk k=some (.row sz es)) (hlen:len=es.length) (hy:Ev s y (.lst sz xs)) (hT:au P T=some ti) (hkd:ti.k=.slice E) (hE:au P E=some te)
  (hsz:te.size=sz) (hz1:acm 0 te.size=true) (hb:xs.length<=len) (hN:acm d N=true) :
  Step P N R s ⟨some d,.call ⟨.builtin .copy,#[x,y],#[T,T]⟩,t,pos,after,none⟩
   ⟨some (.v (.int .i64 xs.length)),[(k,some (.row sz (xs++es.drop xs.length)))],aj x++aj y,[k]⟩:=by
 refine yI rfl ?_;intro s' hag hnew C m a w next hC hr hnext;subst hsz;subst hlen
 rw[ab7]at hN hz1;have hkk:lk s'.hp k=some (.row te.size es):=(hag.2 k (by simp)).trans hk;have hd:d<C.nt:=by omega
 have hxr:=(hx.agree hag (fun _ h=>aft.2 (.inl h))).rep hr;have hyr:=(hy.agree hag (fun _ h=>aft.2 (.inr h))).rep hr;obtain⟨dd2,h3,h4,-,hu⟩:=dg hT w;obtain rfl:=gT (h4.trans hkd);obtain⟨ll,hll⟩:∃ll,ll=es.length:=⟨_,rfl⟩
 rw[<- hll]at hxr
 have hput:∀(w':ahc),RelM C ⟨s'.sl,(k,some (.row te.size (xs++es.drop xs.length)))::s'.hp⟩ m a w'->next (a.put (some d) (goInt xs.length)) w':=by
  intro w' hr';refine hnext m _ _ ?_;have:=hr'.put d (.int .i64 xs.length) (some (.v (.int .i64 xs.length))) (fun z hz=>by cases hz;exact⟨af3 hd hr'.nt,.v _⟩);simpa[AS.app,Act.put,goInt]using this
 have hnone:∀(b1 a1:Option Addr)(c1 c2 l1:Nat),a.eval x=.slice b1 l1 c1->a.eval y=.slice a1 0 c2->xs=[] ->
   (⟨some d,.call ⟨.builtin .copy,#[x,y],#[T,T]⟩,t,pos,after,none⟩:Oper).upon P a next (fun _ _ _=>False) ((execOp a.eval ⟨some d,.call ⟨.builtin .copy,#[x,y],#[T,T]⟩,t,pos,after,none⟩).run P w):=by
  intro b1 a1 c1 c2 l1 e1 e2 e3;subst e3
  have hfc:(Builtin.firstCells te.size 0 (.slice a1 0 c2)).run P w=.ok #[] w:=by
   cases a1 with
   |none=>rfl
   |some a1=>exact run_firstCells_some w _ _ a1 _ _ [] (by simp) (by simp)
  have hrun:(Builtin.copy_ #[T,T] t #[.slice b1 l1 c1,.slice a1 0 c2]).run P w=.ok (goInt 0) w:=by
   have e0:Nat.min 0 l1=0:=Nat.zero_min _;cases b1 with
   |none=>simp[Builtin.copy_,h3,fL hE,Builtin.lenOf,e0,hfc]
   |some b1=>simp[Builtin.copy_,h3,fL hE,Builtin.lenOf,e0,hfc,storeCells]
  rw[Gl (ρ:=a.eval) (by rw[e1,e2];exact hrun)];refine hput w ?_;refine RelM.congr (s:=s') (fun t=>rfl) ?_ hr;intro k';simp only[AS.blk,aD];split
  ·subst_vars;rw[hkk];rfl
  ·rfl
 rcases HS hyr hz1 with⟨rfl,a1,cap1,hyv⟩ |⟨b1,off1,cap1,cs,hyv,hxl,him,hle1,hl1,hs1,ho1,hr1⟩
 ·generalize hxv:a.eval x=u at hxr;cases hxr with
  |ms0 a0=>exact hnone _ _ _ _ _ hxv hyv rfl
  |ms hm hc hS=>exact hnone _ _ _ _ _ hxv hyv rfl
 ·obtain⟨hne1,hno1,t1,f1,hw1⟩:=him;have hnl:(cs.extract off1 (off1+xs.length*te.size)).toList.length=xs.length*te.size:=by simp; omega
  have hnc:∀(j:Nat) v,(cs.extract off1 (off1+xs.length*te.size)).toList[j]?=some v->w.cell? ((⟨b1,off1,none⟩:Addr).add j)=some v:=by
   intro j v hj;rw[jb,q5 hw1];rw[ae2,afa]at hj;split at hj
   ·exact hj
   ·cases hj
  have hn1:∀u∈(cs.extract off1 (off1+xs.length*te.size)).toList,u.oneCell'=true:=by
   intro u hu;obtain⟨p,hp,rfl⟩:=ad3.1 hu;rw[hnl]at hp;have hi':p/te.size<xs.length:=by rw[ab0 hz1];exact hp
   have he:=afr hi';have hel:=hs1 _ _ he;have hpm:p%te.size<te.size:=acn _ hz1;have hx2:=afr (show p%te.size<(xs[p/te.size]).cells.length by omega);have hpe:p/te.size*te.size+p%te.size=p:=by rw[acb];exact ac0 _ _
   have hcv:cs[off1+p/te.size*te.size+p%te.size]?=some ((cs.extract off1 (off1+xs.length*te.size)).toList[p]'oz):=by
    rw[aby,hpe];simp only[Array.getElem_toList,Array.getElem_extract];exact ae4 oz
   exact(hr1 _ _ _ _ _ he hx2 hcv).one (ho1 _ _ _ _ he hx2)
  generalize hxv:a.eval x=u at hxr;cases hxr with
  |ms0 a0=>omega
  | @ms _ _ _ _ _ cap b hm hc hS =>
   subst hll;obtain⟨c,t2,hw,hn,hl,hs0,ho0,hr0⟩:=vG hr.heap hkk hm;have hle2:xs.length*te.size<=es.length*te.size:=age _ hb;have hfc:=run_firstCells_some (P:=P) w te.size xs.length ⟨b1,off1,none⟩ xs.length cap1 _ hnl hnc;have hst:=Eb (P:=P) (cs.extract off1 (off1+xs.length*te.size)).toList c w 0 0 hw (by rw[hnl];omega) hn1;simp only[ach]at hst;have hmin:Nat.min xs.length es.length=xs.length:=acs hb
   have hrun:(Builtin.copy_ #[T,T] t #[.slice (some ⟨b,0*te.size,none⟩) es.length cap,.slice (some ⟨b1,off1,none⟩) xs.length cap1]).run P w =
     .ok (goInt xs.length) { w with heap:=w.heap.setIfInBounds b (.cells (over c.toList 0 (cs.extract off1 (off1+xs.length*te.size)).toList).toArray t2 (0,0)) }:=by
    rw[Nat.zero_mul];generalize(cs.extract off1 (off1+xs.length*te.size)).toList=news at hfc hst ⊢;simp[Builtin.copy_,h3,fL hE,Builtin.lenOf,hmin,hfc,hst]
   rw[Gl (ρ:=a.eval) (by rw[hxv,hyv];exact hrun)];refine hput _ ?_
   have hcs:(over c.toList 0 (cs.extract off1 (off1+xs.length*te.size)).toList).toArray.size=c.size:=by
    simp only[ad1];rw[vM _ _ _ (by rw[hnl];simp;omega)];simp
   refine hr.write (x':=.row te.size (xs++es.drop xs.length)) hkk hm hw hcs rfl (fun g S hg hS hw'=>?_)
   have hsplit:∀(i:Nat)(e:AV),(xs++es.drop xs.length)[i]?=some e->(i<xs.length/\xs[i]?=some e)\/(xs.length<=i/\es[i]?=some e):=by
    intro i e he;rcases afv i xs.length with h |h
    ·rw[af6 h]at he;exact .inl ⟨h,he⟩
    ·rw[af5 h,agn,show xs.length+(i-xs.length)=i by omega]at he;exact .inr ⟨h,he⟩
   refine .row hw' ?_ (by simp;omega) ?_ ?_ ?_
   ·rw[hcs];have:(xs++es.drop xs.length).length=es.length:=by simp; omega
    rw[this];exact hn
   ·intro i e he;rcases hsplit i e he with⟨_,h⟩ |⟨_,h⟩
    ·exact hs1 i e h
    ·exact hs0 i e h
   ·intro i j e z he hz;rcases hsplit i e he with⟨_,h⟩ |⟨_,h⟩
    ·exact ho1 i j e z h hz
    ·exact ho0 i j e z h hz
   ·intro i j e u z he hz hu;refine Rep.mono hg hS ?_ (fun _ _ _ h=>h);rw[adg,jC _ _ _ (by rw[hnl]; simp; omega),agy oz,hnl] at hu;rcases hsplit i e he with ⟨hi,h⟩ | ⟨hi,h⟩
    ·have hj:j<te.size:=by
      rw[<- hs1 i e h];rcases afv j e.cells.length with h |h
      ·exact h
      ·rw[af0 h]at hz;cases hz
     have:=mF (sz:=te.size) hi;rw[agz oz,ae2,afa,agz oz]at hu;exact hr1 i j e z u h hz (by rw[<- hu];congr 1;omega)
    ·have h9:xs.length*te.size<=i*te.size:=age _ hi;rw[agy oz,ae2]at hu;exact hr0 i j e u z h hz hu
theorem Sub.lst{sz:Nat}{es es':List AV}(hn:es.length=es'.length)(h:∀(i:Nat)(e e':AV),es[i]?=some e->es'[i]?=some e'->kr e e'):Sub (.lst sz es) (.lst sz es'):=by
 intro g S m v hv;cases hv with
 |lst0 a cap =>
  have:es'=[]:=ac9 (by rw[<- hn];rfl);subst this;exact .lst0 _ _ _
 | @lst _ b off cap _ _ cs u hb hc hl hs h1 hu hr =>
  have hg:∀(i:Nat)(e':AV),es'[i]?=some e'->∃e,es[i]?=some e/\kr e e':=by
   intro i e' he';obtain⟨e,he⟩:=jr hn.symm he';exact⟨e,he,h i e e' he he'⟩
  have:=Rep.lst (g:=g) (S:=S) (m:=m) (b:=b) (off:=off) (cap:=cap) (sz:=sz) (es:=es') u hb oz oz
   (fun i e' he'=>by obtain⟨e,he,hc⟩:=hg i e' he';rw[<- hc.1];exact hs i e he)
   (fun i j e' x' he' hx'=>by
    obtain⟨e,he,hc⟩:=hg i e' he';obtain⟨x,hx⟩:=jr hc.1.symm hx';exact(hc.2 j x x' hx hx').1)
   (fun i j e' x' he' hx'=>by
    obtain⟨e,he,hc⟩:=hg i e' he';obtain⟨x,hx⟩:=jr hc.1.symm hx';exact hu i j e x he hx)
   (fun i j e' x' he' hx'=>by
    obtain⟨e,he,hc⟩:=hg i e' he';obtain⟨x,hx⟩:=jr hc.1.symm hx';exact(hc.2 j x x' hx hx').2 _ _ _ _ (hr i j e x he hx))
  rwa [<- hn]at this
mutual
def AV.fb(k:Nat)(xs:List AV):AV->AV
  | .ptr k' off=>match ab3 k' k with
    |true=>.iptr (xs.drop off)
    |false=>.ptr k' off
  | .agg cs=>.agg (AV.fbs k xs cs)
  | .tup cs=>.tup (AV.fbs k xs cs)
  | .fn f cs=>.fn f (AV.fbs k xs cs)
  | .opt b x=>.opt b (AV.fb k xs x)
  | .v x=>.v x
  | .lst sz l=>.lst sz l
  | .iptr l=>.iptr l
  | .ms k sz off len=>.ms k sz off len
  | .eptr k sz i off=>.eptr k sz i off
  | .yl k=>.yl k
  | .cl f cs ds=>.cl f cs ds
def AV.fbs(k:Nat)(xs:List AV):List AV->List AV
  |[]=>[]
  |x::l=>AV.fb k xs x::AV.fbs k xs l
end
theorem AV.fbs_eq(k:Nat)(xs:List AV):∀l,AV.fbs k xs l=l.map (AV.fb k xs)
 |[]=>rfl
 |x::l=>by simp only[AV.fbs,agv,AV.fbs_eq k xs l]
theorem AV.fb_one(k:Nat)(xs:List AV)(x:AV)(h:x.one=true):(x.fb k xs).one=true:=by
 cases x <;> simp only[AV.fb] <;> first |exact h |(split <;> rfl)
theorem D4{g:Nat->Array ag9->Prop}{S:Nat->Nat->Prop}{k:Nat}{xs:List AV}{m:Nat->Option Nat}{v:ag9}{x:AV}(h:Rep g S m v x)
  (hb:∀b,m k=some b->∃c:Array ag9,g b c/\c.size=xs.length/\(∀(j:Nat)(x:AV),xs[j]?=some x->x.one=true) /\
   ∀(j:Nat)(u:ag9)(x:AV),c[j]?=some u->xs[j]?=some x->Rep g S dc u x):Rep g S m v (x.fb k xs):=by
 induction h with
 |v x=>exact .v x
 |lst0 a cap sz'=>exact .lst0 a cap sz'
 |lst u hb' hc hl hs h1 hu hr _=>exact .lst u hb' hc hl hs h1 hu hr
 |iptr u hb' h1 hu hr _=>exact .iptr u hb' h1 hu hr
 |ms0 a k' sz' off=>exact .ms0 _ _ _ _
 |ms hm hc hS=>exact .ms hm hc hS
 |eptr h=>exact .eptr h
 |yl h=>exact .yl h
 |opt h h' ih=>exact .opt (fun hbb=>ih hbb hb) h'
 |agg hn h1 hr ih =>
  simp only[AV.fb,AV.fbs_eq];refine .agg (by simpa using hn) ?_ ?_
  ·intro j c hc;simp only[afu,afs]at hc;obtain⟨y,hy,rfl⟩:=hc;exact AV.fb_one _ _ _ (h1 j y hy)
  ·intro j u c hu hc;simp only[afu,afs]at hc;obtain⟨y,hy,rfl⟩:=hc;exact ih j u y hu hy hb
 |tup hn hr ih =>
  simp only[AV.fb,AV.fbs_eq];refine .tup (by simpa using hn) ?_;intro j u c hu hc;simp only[afu,afs]at hc;obtain⟨y,hy,rfl⟩:=hc;exact ih j u y hu hy hb
 |fn hn hr ih =>
  simp only[AV.fb,AV.fbs_eq];refine .fn (by simpa using hn) ?_;intro j u c hu hc;simp only[afu,afs]at hc;obtain⟨y,hy,rfl⟩:=hc;exact ih j u y hu hy hb
 |cl hn hr hn' hr' _ _=>exact .cl hn hr hn' hr'
 | @ptr mm k' off b hm =>
  simp only[AV.fb];split
  ·rename_i h1;obtain rfl:=afo h1;obtain⟨c,hgc,hsz,ho,hr⟩:=hb b hm
   have hcell:∀(j:Nat)(x:AV),(xs.drop off)[j]?=some x->∃u,c[off+j]?=some u:=by
    intro j x hx;rw[agn]at hx
    have hi:off+j<xs.length:=by
     rcases afv (off+j) xs.length with h |h
     ·exact h
     ·rw[af0 h]at hx;cases hx
    exact⟨_,ae4 oz⟩
   refine .iptr (fun j=>c.getD (off+j) undef) hgc (fun j x hx=>?_) (fun j x hx=>?_) (fun j x hx=>?_)
   ·rw[agn]at hx;exact ho _ x hx
   ·obtain⟨u,hu⟩:=hcell j x hx;rw[afx,hu];rfl
   ·obtain⟨u,hu⟩:=hcell j x hx;rw[agn]at hx;rw[afx,hu];exact hr _ u x hu hx
  ·exact .ptr hm
theorem Wk.freezeB{k:Nat}{xs:List AV}(hk:s.blk k=some (.box xs))(hnm:(xs.all fun x=>x.nm.isEmpty)=true):Wk s ⟨iF (AV.fb k xs) s.sl,fk (AV.fb k xs) k s.hp⟩:=by
 intro C m a w hr;refine⟨m,?_⟩
 have hfew:∀k' z,lk ((k,none)::s.hp) k'=some z->lk s.hp k'=some z:=by
  intro k' z hz;rw[aD]at hz;split at hz
  ·cases hz
  ·exact hz
 have hr1:=hr.fewer hfew
 have hb:∀b,m k=some b->∃c:Array ag9,Im C.ext ((k,none)::s.hp) m w b c/\c.size=xs.length/\(∀(j:Nat)(x:AV),xs[j]?=some x->x.one=true) /\
   ∀(j:Nat)(u:ag9)(x:AV),c[j]?=some u->xs[j]?=some x->Rep (Im C.ext ((k,none)::s.hp) m w) (Sz w) dc u x:=by
  intro b hm;obtain⟨c,t,hw,hn,ho,hrr⟩:=zz hr.heap hk hm;have him:=fg (ext:=C.ext) (Frame.refl (aW s.hp m) w) (hp':=(k,none)::s.hp) (m':=m) (fun k' z b' hz hb'=>.inl ⟨k',z,hfew k' z hz,hb'⟩);refine⟨c,⟨(hr.heap.sep k _ b hk hm).1,?_,t,(0,0),hw⟩,hn,ho,fun j u x hu hx=>(hrr j u x hu hx).mono him (fun _ _ h=>h) (fun k' _ hn _=>?_)⟩
  ·rintro⟨k',z,hz,hb'⟩;have:=hr.heap.inj k k' _ z b hk (hfew k' z hz) hm hb';subst this;rw[aD,agz rfl]at hz;cases hz
  ·have h9:=afy.1 hnm x (afl hx);have h8:=AV.Names.mem hn;rw[List.isEmpty_iff.1 h9]at h8;cases h8
 have hown:∀k' z,lk (fk (AV.fb k xs) k s.hp) k'=some z->∃y,lk ((k,none)::s.hp) k'=some y/\z=y.map (AV.fb k xs):=by
  intro k' z hz;rw[lI]at hz;split at hz
  ·cases hz
  ·rename_i hne;simp only[afs]at hz;obtain⟨y,hy,rfl⟩:=hz;exact⟨y,by rw[aD,agy hne];exact hy,rfl⟩
 have hown':∀k' y,lk ((k,none)::s.hp) k'=some y->lk (fk (AV.fb k xs) k s.hp) k'=some (y.map (AV.fb k xs)):=by
  intro k' y hy;rw[aD]at hy;split at hy
  ·cases hy
  ·rename_i hne;rw[lI,agy hne,hy];rfl
 have e1:aW (fk (AV.fb k xs) k s.hp) m=aW ((k,none)::s.hp) m:=by
  funext b;apply propext;constructor
  ·rintro⟨k',z,hz,hb⟩;obtain⟨y,hy,_⟩:=hown k' z hz;exact⟨k',y,hy,hb⟩
  ·rintro⟨k',y,hy,hb⟩;exact⟨k',_,hown' k' y hy,hb⟩
 have e2:Im C.ext (fk (AV.fb k xs) k s.hp) m w=Im C.ext ((k,none)::s.hp) m w:=by funext b cs;simp only[Im,e1]
 refine⟨?_,⟨?_,?_,?_⟩,hr1.frame,?_,?_,hr1.defers,hr1.nt⟩
 ·intro t x hx;simp only[AS.get,p7,afs]at hx;obtain⟨y,hy,rfl⟩:=hx;obtain⟨g1,g2⟩:=hr1.slots t y hy;refine⟨g1,?_⟩;show Rep (Im C.ext (fk (AV.fb k xs) k s.hp) m w) _ _ _ _;rw[e2];exact D4 g2 hb
 ·intro k' z hz;obtain⟨y,hy,rfl⟩:=hown k' z hz;rw[e2];have:=hr1.heap.blk k' y hy;cases y with
  |row sz' es'=>exact this
  |vec vs =>
   simp only[Blk.map];generalize m k'=o at this;cases this with
   |vec hw hc h1=>exact .vec hw hc h1
  |loop=>exact this.mapLoop _ (fun _ _ _ _ h=>D4 h hb)
  |box cs =>
   simp only[Blk.map];generalize m k'=o at this;cases this with
   |box hw hn h1 hrr =>
    refine .box hw (by simpa using hn) ?_ ?_
    ·intro j x hx;simp only[afu,afs]at hx;obtain⟨y,hy,rfl⟩:=hx;exact AV.fb_one _ _ _ (h1 j y hy)
    ·intro j u x hu hx;simp only[afu,afs]at hx;obtain⟨y,hy,rfl⟩:=hx;exact D4 (hrr j u y hu hy) hb
 ·intro k1 k2 z1 z2 b g1 g2;obtain⟨y1,hy1,_⟩:=hown k1 z1 g1;obtain⟨y2,hy2,_⟩:=hown k2 z2 g2;exact hr1.heap.inj k1 k2 y1 y2 b hy1 hy2
 ·intro k' z b hz hb;obtain⟨y,hy,_⟩:=hown k' z hz;exact hr1.heap.sep k' y b hy hb
 ·intro k' z b hz hb;obtain⟨y,hy,_⟩:=hown k' z hz;exact hr1.new k' y b hy hb
 ·intro k' z h1000 hz;obtain⟨y,hy,_⟩:=hown k' z hz;exact hr1.keep k' y h1000 hy
theorem UD{d:Nat}{x:ag8}{u:ag9}{T S t:aha}{ti:TI}{k:IntKind}(hx:Ev s x (.v (.iface T u)))
  (hT:au P T=some ti) (hk:ti.k=.int k) (hN:acm d N=true) :
  Step P N R s ⟨some d,.typeAssert x S T true,t,pos,after,none⟩ ⟨some (.tup [.v u,.v (.bool true)]),[],aj x,[]⟩ :=
 cK rfl rfl hN fun s' hag C m a w hr=>by
  have h:=(hx.agree hag (fun _ h=>h)).rep hr;generalize hu:a.eval x=y at h;cases h;obtain⟨d2,h3,h4,-,-⟩:=dg hT w;obtain rfl:=HF (h4.trans hk);refine⟨.tuple #[u,.bool true],by simp[execOp,hu,Instr.typeAssert,h3],.tup rfl ?_⟩;intro j v c hv hc
  match j,hv,hc with
  |0,hv,hc=>cases hv;cases hc;exact .v _
  |1,hv,hc=>cases hv;cases hc;exact .v _
def uk(P:ahb)(t:aha):Bool:=match P.underlying t with |some (.int .i64)=>true |_=>false
theorem Ap{P:ahb}{t:aha}(h:uk P t=true):P.underlying t=some (.int .i64):=by
 unfold uk at h;split at h
 ·assumption
 ·cases h
def w9(P:ahb)(T:aha):Bool:=match P.underlying T with
  |some (.struct fs)=>(match fs.toList with
    | [f, g] => f.name != "_" && g.name != "_" && ab3 f.offset 0 && ab3 g.offset 1 && uk P f.type && uk P g.type
    |_=>false)&&!P.stoodInHeld T&&!P.eqGuardType P.depth T
  |_=>false
theorem Z7{P:ahb}{T:aha}(h:w9 P T=true)(w:ahc)(a b c d:Int) :
  (Op.equalIn 10000 T (.agg #[.int .i64 a,.int .i64 b]) (.agg #[.int .i64 c,.int .i64 d])).run P w=.ok (a==c&&b==d) w/\P.eqGuardType P.depth T=false:=by
 unfold w9 at h;split at h
 ·rename_i fs hu;rw[afp,afp]at h;obtain⟨⟨h,h1⟩,h2⟩:=h;split at h
  ·rename_i f g hfs;simp only [afp] at h;obtain⟨⟨⟨⟨⟨g1,g2⟩,g3⟩,g4⟩,g5⟩,g6⟩:=h;have hF:P.fieldsOf T=fs:=by unfold Program.fieldsOf; rw[hu]
   have hs:P.stoodInHeld T=false:=by simpa using h1
   refine ⟨?_,by simpa using h2⟩;have u5:=Ap g5;have u6:=Ap g6;have o3:=afo g3;have o4:=afo g4;have n1 : f.name ≠ "_" := by simpa using g1
   have n2 : g.name ≠ "_" := by simpa using g2
   rw[run_equalIn_struct w 9999 T _ _ (by rw[hF];exact hu) hs,hF,hfs]
   have e1:∀(x:Int)(y:Int),(part f.type #[.int .i64 x,.int .i64 y] f.offset).run P w=.ok (.int .i64 x) w:=by
    intro x y;simp[part,isAgg,run_underlying u5,o3]
   have e2:∀(x:Int)(y:Int),(part g.type #[.int .i64 x,.int .i64 y] g.offset).run P w=.ok (.int .i64 y) w:=by
    intro x y;simp[part,isAgg,run_underlying u6,o4]
   have e3:∀(x y:Int),(Op.equalIn 9999 f.type (.int .i64 x) (.int .i64 y)).run P w=.ok (x==y) w:=fun x y=>run_equalIn_int w 9998 f.type .i64 .i64 x y u5
   have e4:∀(x y:Int),(Op.equalIn 9999 g.type (.int .i64 x) (.int .i64 y)).run P w=.ok (x==y) w:=fun x y=>run_equalIn_int w 9998 g.type .i64 .i64 x y u6
   simp only[Op.eqFields,n1,n2,ne_eq,not_false_eq_true,if_true,Sem.run_bind,e1,e2,e3,e4,Result.andThen_ok,Sem.run_ite];cases(a==c) <;> cases(b==d) <;> simp
  ·cases h
 ·cases h
theorem KQ{d:Nat}{x y:ag8}{a b c e:Int}{S T t:aha}(hx:Ev s x (.agg [.v (.int .i64 a),.v (.int .i64 b)]))(hy:Ev s y (.agg [.v (.int .i64 c),.v (.int .i64 e)]))
  (hS:w9 P S=true) (hN:acm d N=true) :
  Step P N R s ⟨some d,.binOp .eql S x y T,t,pos,after,none⟩ ⟨some (.v (.bool (a==c&&b==e))),[],aj x++aj y,[]⟩ :=
 cK rfl rfl hN fun s' hag C m ac w hr=>⟨.bool (a==c&&b==e),by
  have h:=(hx.agree hag (fun _ h=>aft.2 (.inl h))).rep hr;have h':=(hy.agree hag (fun _ h=>aft.2 (.inr h))).rep hr
  have pair:∀{v:ag9}{p q:Int},Rep (Im C.ext s'.hp m w) (Sz w) m v (.agg [.v (.int .i64 p),.v (.int .i64 q)])->v=.agg #[.int .i64 p,.int .i64 q]:=by
   intro v p q hv;cases hv with
   | @agg _ vs _ hn h1 hrr =>
    have i0:0<vs.size:=by rw[hn];simp
    have i1:1<vs.size:=by rw[hn];simp
    have r0:=hrr 0 vs[0] _ (by simp[i0]) rfl;have r1:=hrr 1 vs[1] _ (by simp[i1]) rfl;generalize hz0:vs[0]=z0 at r0;generalize hz1:vs[1]=z1 at r1;cases r0;cases r1
    congr 1;refine Array.ext (by rw[hn];rfl) (fun i hi _=>?_)
    match i,hi with
    |0,_=>exact hz0
    |1,_=>exact hz1
    |i+2,hi=>rw[hn]at hi;simp at hi;omega
  have hu:=pair h;have hv:=pair h';obtain⟨r1,r2⟩:=Z7 hS w a b c e;simp only[execOp,hu,hv,Sem.run_bind,run_eqGuard_agg w .eql S x y _ _ r2,Result.andThen_ok,run_eql_struct,r1,Sem.run_pure],.v _⟩
theorem R4{d n e:Nat}{x y:ag8}{kk:IntKind}{i:Int}{k off sz:Nat}{T t:aha}{ti te:TI}(hx:Ev s x (.ptr k off))(hi:Ev s y (.v (.int kk i)))
  (hT:au P T=some ti) (hk:ti.k=.array n e) (hE:au P e=some te) (hsz:te.size=sz) (h0:0<=i) (he:i<(n:Int)) (hN:acm d N=true) :
  Step P N R s ⟨some d,.indexAddr T x y,t,pos,after,none⟩ ⟨some (.ptr k (off+i.toNat*sz)),[],aj x++aj y,[]⟩ :=
 cK rfl rfl hN fun s' hag C m a w hr=>by
  obtain⟨b,hm,hv⟩:=qS hr (hx.agree hag (fun _ h=>aft.2 (.inl h)));have hiv:=mi hr (hi.agree hag (fun _ h=>aft.2 (.inr h)));obtain⟨d2,h2,h3,-,-⟩:=dg hT w;obtain rfl:=Qr (h3.trans hk);subst hsz;refine⟨.pointer (some ⟨b,off+i.toNat*te.size,none⟩),?_,.ptr hm⟩;simp[execOp,hv,hiv,Instr.indexAt,Instr.sureAddr,asIntOf,h2,h0,he,fL hE,jb]
end Go.Lw
namespace Go.Lw
theorem SlW.k {sl l:bE} {x y:AV} {t:Nat} (hl:SlW sl l) (h:lk sl t=some y:=by exact rfl)
  (hs:Sub y x:=by first |exact Sub.refl _ |exact Sub.nil _ _ _ |exact Sub.nM _ _ _ |exact Sub.int oz):SlW sl ((t,some x)::l):=.cons h hs hl
open Go.Proofs
abbrev FP(f:FuncId)(a:List AV)(r:AV):Prop:=je prog f a r
theorem YB:prog.follows .mixedOrders=true:=by kernel_rfl
theorem T3:au prog 3=some ⟨1,8,[.int .i64 0],.int .i64,[]⟩:=by kernel_rfl
theorem T4:au prog 4=some ⟨1,1,[.bool false],.bool,[]⟩:=by kernel_rfl
theorem T5:au prog 5=some ⟨1,1,[.int .u8 0],.int .u8,[]⟩:=by kernel_rfl
theorem T9:au prog 9=some ⟨1,16,[.string ⟨#[]⟩],.string,[]⟩:=by kernel_rfl
theorem T22:au prog 22=some ⟨1,24,[.slice none 0 0],.slice 139,[]⟩:=by kernel_rfl
theorem T23:au prog 23=some ⟨1,24,[.slice none 0 0],.slice 135,[]⟩:=by kernel_rfl
theorem T24:au prog 24=some ⟨1,24,[.slice none 0 0],.slice 151,[]⟩:=by kernel_rfl
theorem T26:au prog 26=some ⟨4,88,[.string ⟨#[]⟩,.slice none 0 0,.slice none 0 0,.slice none 0 0],.struct,[(0,1),(1,1),(2,1),(3,1)]⟩:=by kernel_rfl
theorem T33:au prog 33=some ⟨1,24,[.slice none 0 0],.slice 48,[]⟩:=by kernel_rfl
theorem T35:au prog 35=some ⟨1,16,[.nilIface],.iface 1,[]⟩:=by kernel_rfl
theorem T38:au prog 38=some ⟨1,24,[.slice none 0 0],.slice 115,[]⟩:=by kernel_rfl
theorem T41:au prog 41=some ⟨1,8,[.int .i64 0],.int .i64,[]⟩:=by kernel_rfl
theorem T42:au prog 42=some ⟨1,24,[.slice none 0 0],.slice 53,[]⟩:=by kernel_rfl
theorem T44:au prog 44=some ⟨1,24,[.slice none 0 0],.struct,[(0,1)]⟩:=by kernel_rfl
theorem T45:au prog 45=some ⟨1,24,[.slice none 0 0],.slice 55,[]⟩:=by kernel_rfl
theorem T46:au prog 46=some ⟨1,24,[.slice none 0 0],.slice 3,[]⟩:=by kernel_rfl
theorem T48:au prog 48=some ⟨3,72,[.slice none 0 0,.slice none 0 0,.slice none 0 0],.struct,[(0,1),(1,1),(2,1)]⟩:=by kernel_rfl
theorem T52:au prog 52=some ⟨1,24,[.slice none 0 0],.slice 106,[]⟩:=by kernel_rfl
theorem T53:au prog 53=some ⟨1,24,[.slice none 0 0],.slice 106,[]⟩:=by kernel_rfl
theorem T55:au prog 55=some ⟨4,96,[.slice none 0 0,.slice none 0 0,.slice none 0 0,.slice none 0 0],.struct,[(0,1),(1,1),(2,1),(3,1)]⟩:=by kernel_rfl
theorem T65:au prog 65=some ⟨2,16,[.int .i64 0,.int .i64 0],.struct,[(0,1),(1,1)]⟩:=by kernel_rfl
theorem T79:au prog 79=some ⟨4,80,[.slice none 0 0,.slice none 0 0,.slice none 0 0,.int .i64 0],.struct,[(0,3),(3,1)]⟩:=by kernel_rfl
theorem T81:au prog 81=some ⟨1,24,[.slice none 0 0],.slice 90,[]⟩:=by kernel_rfl
theorem T90:au prog 90=some ⟨3,72,[.slice none 0 0,.slice none 0 0,.slice none 0 0],.struct,[(0,1),(1,1),(2,1)]⟩:=by kernel_rfl
theorem T104:au prog 104=some ⟨1,24,[.slice none 0 0],.slice 354,[]⟩:=by kernel_rfl
theorem T106:au prog 106=some ⟨3,56,[.bool false,.slice none 0 0,.slice none 0 0],.struct,[(0,1),(1,1),(2,1)]⟩:=by kernel_rfl
theorem T115:au prog 115=some ⟨4,64,[.bool false,.slice none 0 0,.slice none 0 0,.bool false],.struct,[(0,3),(3,1)]⟩:=by kernel_rfl
theorem T117:au prog 117=some ⟨2,48,[.slice none 0 0,.slice none 0 0],.struct,[(0,1),(1,1)]⟩:=by kernel_rfl
theorem T124:au prog 124=some ⟨6,112,[.bool false,.slice none 0 0,.slice none 0 0,.bool false,.slice none 0 0,.slice none 0 0],.struct,[(0,3),(3,3)]⟩:=by kernel_rfl
theorem T130:au prog 130=some ⟨1,24,[.slice none 0 0],.slice 169,[]⟩:=by kernel_rfl
theorem T135:au prog 135=some ⟨7,64,[.string ⟨#[]⟩,.int .i64 0,.int .i64 0,.int .i64 0,.int .i64 0,.int .i64 0,.int .i64 0],.struct,[(0,1),(1,1),(2,1),(3,1),(4,1),(5,1),(6,1)]⟩:=by kernel_rfl
theorem T137:au prog 137=some ⟨1,24,[.slice none 0 0],.slice 141,[]⟩:=by kernel_rfl
theorem T139:au prog 139=some ⟨2,40,[.string ⟨#[]⟩,.slice none 0 0],.struct,[(0,1),(1,1)]⟩:=by kernel_rfl
theorem T141:au prog 141=some ⟨7,128,[.string ⟨#[]⟩,.bool false,.slice none 0 0,.slice none 0 0,.bool false,.slice none 0 0,.slice none 0 0],.struct,[(0,1),(1,3),(4,3)]⟩:=by kernel_rfl
theorem T147:au prog 147=some ⟨1,8,[.nilFunc],.other,[]⟩:=by kernel_rfl
theorem T149:au prog 149=some ⟨9,176,[.string ⟨#[]⟩,.slice none 0 0,.slice none 0 0,.slice none 0 0,.slice none 0 0,.slice none 0 0,.nilFunc,.bool false,.slice none 0 0],.struct,[(0,4),(4,1),(5,1),(6,1),(7,1),(8,1)]⟩:=by kernel_rfl
theorem T151:au prog 151=some ⟨2,24,[.string ⟨#[]⟩,.int .i64 0],.struct,[(0,1),(1,1)]⟩:=by kernel_rfl
theorem T169:au prog 169=some ⟨4,64,[.int .i64 0,.slice none 0 0,.slice none 0 0,.int .i64 0],.struct,[(0,1),(1,1),(2,1),(3,1)]⟩:=by kernel_rfl
theorem T180:au prog 180=some ⟨2,40,[.slice none 0 0,.nilIface],.struct,[(0,1),(1,1)]⟩:=by kernel_rfl
theorem T182:au prog 182=some ⟨12,240,[.string ⟨#[]⟩,.slice none 0 0,.slice none 0 0,.slice none 0 0,.int .i64 0,.slice none 0 0,.slice none 0 0,.int .i64 0,.slice none 0 0,.slice none 0 0,.slice none 0 0,.nilIface],.struct,[(0,4),(4,4),(8,3),(11,1)]⟩:=by kernel_rfl
theorem T185:au prog 185=some ⟨14,272,[.bool false,.slice none 0 0,.slice none 0 0,.bool false,.slice none 0 0,.slice none 0 0,.slice none 0 0,.slice none 0 0,.bool false,.slice none 0 0,.slice none 0 0,.bool false,.slice none 0 0,.slice none 0 0],.struct,[(0,6),(6,2),(8,6)]⟩:=by kernel_rfl
theorem T191:au prog 191=some ⟨3,72,[.slice none 0 0,.slice none 0 0,.slice none 0 0],.struct,[(0,2),(2,1)]⟩:=by kernel_rfl
theorem T200:au prog 200=some ⟨19,392,[.bool false,.slice none 0 0,.slice none 0 0,.bool false,.slice none 0 0,.slice none 0 0,.slice none 0 0,.slice none 0 0,.bool false,.slice none 0 0,.slice none 0 0,.bool false,.slice none 0 0,.slice none 0 0,.slice none 0 0,.slice none 0 0,.slice none 0 0,.slice none 0 0,.slice none 0 0],.struct,[(0,6),(6,2),(8,6),(14,1),(15,1),(16,1),(17,2)]⟩:=by kernel_rfl
theorem T212:au prog 212=some ⟨2,40,[.slice none 0 0,.nilIface],.struct,[(0,1),(1,1)]⟩:=by kernel_rfl
theorem T214:au prog 214=some ⟨10,224,[.slice none 0 0,.nilIface,.string ⟨#[]⟩,.slice none 0 0,.slice none 0 0,.slice none 0 0,.slice none 0 0,.slice none 0 0,.slice none 0 0,.slice none 0 0],.struct,[(0,2),(2,4),(6,3),(9,1)]⟩:=by kernel_rfl
theorem T239:au prog 239=some ⟨2,32,[.bool false,.slice none 0 0],.struct,[(0,1),(1,1)]⟩:=by kernel_rfl
theorem T252:au prog 252=some ⟨1,24,[.slice none 0 0],.slice 257,[]⟩:=by kernel_rfl
theorem T257:au prog 257=some ⟨3,56,[.slice none 0 0,.slice none 0 0,.int .i64 0],.struct,[(0,1),(1,1),(2,1)]⟩:=by kernel_rfl
theorem T292:au prog 292=some ⟨2,40,[.slice none 0 0,.nilIface],.struct,[(0,1),(1,1)]⟩:=by kernel_rfl
theorem T301:au prog 301=some ⟨2,40,[.slice none 0 0,.nilIface],.struct,[(0,1),(1,1)]⟩:=by kernel_rfl
theorem T316:au prog 316=some ⟨1,8,[.pointer none],.pointer 322,[]⟩:=by kernel_rfl
theorem T320:au prog 320=some ⟨1,24,[.slice none 0 0],.slice 4,[]⟩:=by kernel_rfl
theorem T322:au prog 322=some ⟨8,184,[.string ⟨#[]⟩,.slice none 0 0,.slice none 0 0,.slice none 0 0,.slice none 0 0,.slice none 0 0,.slice none 0 0,.slice none 0 0],.struct,[(0,4),(4,1),(5,1),(6,1),(7,1)]⟩:=by kernel_rfl
theorem T329:au prog 329=some ⟨26,576,[.int .i64 0,.int .i64 0,.int .i64 0,.slice none 0 0,.slice none 0 0,.slice none 0 0,.slice none 0 0,.slice none 0 0,.slice none 0 0,.slice none 0 0,.slice none 0 0,.slice none 0 0,.slice none 0 0,.slice none 0 0,.slice none 0 0,.slice none 0 0,.slice none 0 0,.slice none 0 0,.slice none 0 0,.slice none 0 0,.slice none 0 0,.slice none 0 0,.slice none 0 0,.slice none 0 0,.slice none 0 0,.slice none 0 0],.struct,[(0,1),(1,1),(2,1),(3,2),(5,2),(7,2),(9,2),(11,2),(13,2),(15,2),(17,2),(19,1),(20,1),(21,2),(23,1),(24,1),(25,1)]⟩:=by kernel_rfl
theorem T352:au prog 352=some ⟨1,8,[.int .u64 0],.int .u64,[]⟩:=by kernel_rfl
theorem T354:au prog 354=some ⟨1,4,[.int .u32 0],.int .u32,[]⟩:=by kernel_rfl
theorem T355:au prog 355=some ⟨1,8,[.int .u64 0],.int .u64,[]⟩:=by kernel_rfl
theorem T387:au prog 387=some ⟨1,24,[.slice none 0 0],.slice 191,[]⟩:=by kernel_rfl
theorem T390:au prog 390=some ⟨1,24,[.slice none 0 0],.slice 117,[]⟩:=by kernel_rfl
theorem T429:au prog 429=some ⟨2,48,[.slice none 0 0,.slice none 0 0],.struct,[(0,1),(1,1)]⟩:=by kernel_rfl
theorem T446:au prog 446=some ⟨1,8,[.int .i64 0],.int .i64,[]⟩:=by kernel_rfl
theorem T460:au prog 460=some ⟨1,24,[.slice none 0 0],.slice 124,[]⟩:=by kernel_rfl
theorem T465:au prog 465=some ⟨1,24,[.slice none 0 0],.slice 185,[]⟩:=by kernel_rfl
theorem T470:au prog 470=some ⟨1,8,[.int .u64 0],.int .u64,[]⟩:=by kernel_rfl
theorem T476:au prog 476=some ⟨1,8,[.nilFunc],.other,[]⟩:=by kernel_rfl
theorem lO{k:Nat}{x:Blk}{m:Nat->Option Nat}{b:Nat}:aW [(k,some x)] m b↔m k=some b:=by
 constructor
 ·rintro⟨k',y,hy,hb⟩;rw[aD]at hy;split at hy
  ·rename_i e;rw[<- e]at *;exact hb
  ·cases hy
 ·intro h;exact⟨k,x,by rw[aD,agz rfl],h⟩
theorem gE{k k':Nat}{x:Option Blk}{z:Blk}(h:lk [(k,x)] k'=some z):k'=k/\x=some z:=by
 rw[aD]at h;split at h
 ·rename_i e;exact⟨e,h⟩
 ·cases h
theorem lY{ext:Nat->Prop}{k d:Nat}{x y:Blk}{m m2:Nat->Option Nat}{w:ahc}(h:m2 d=m k):Im ext [(d,some y)] m2 w=Im ext [(k,some x)] m w:=by
 funext b cs;apply propext;have:aW [(d,some y)] m2 b↔aW [(k,some x)] m b:=by rw[lO,lO,h]
 simp only[Im,this]
theorem qo{ext:Nat->Prop}{k d sz:Nat}{es:List AV}{m m2:Nat->Option Nat}{w:ahc}(h:m2 d=m k)(hr:HeapRel ext [(k,some (.row sz es))] m w):HeapRel ext [(d,some (.row sz es))] m2 w:=by
 refine⟨?_,?_,?_⟩
 ·intro k' z hz;obtain⟨rfl,h9⟩:=gE hz;cases h9;have h1:=hr.blk k _ (by rw[aD,agz rfl]);rw[lY h (y:=.row sz es) (x:=.row sz es)];exact BlkRep.mono (w:=w) (fun _ _ h=>h) (fun _ _ h=>h) (fun _ _ hn=>hn.elim) h (fun _ _=>rfl) h1
 ·intro k1 k2 z z' b h1 h2 _ _;rw[(gE h1).1,(gE h2).1]
 ·intro k' z b hz hb;obtain⟨rfl,h9⟩:=gE hz;cases h9;exact hr.sep k _ b (by rw[aD,agz rfl]) (h▸hb)
mutual
def AV.sc:AV->Bool
  | .v _=>true
  | .agg cs=>AV.scs cs
  | .tup cs=>AV.scs cs
  |_=>false
def AV.scs:List AV->Bool
  |[]=>true
  |x::l=>x.sc&&AV.scs l
end
theorem AV.scs_mem:∀{l:List AV}{c:AV},AV.scs l=true->c∈l->c.sc=true
 |x::l,c,h,hc=>by
  simp only[AV.scs,afp]at h;rcases agd.1 hc with rfl |hc
  ·exact h.1
  ·exact AV.scs_mem h.2 hc
theorem DS{g g':Nat->Array ag9->Prop}{S S':Nat->Nat->Prop}{m m':Nat->Option Nat}{v:ag9}{x:AV}(hx:x.sc=true)(h:Rep g S m v x):Rep g' S' m' v x:=by
 induction h with
 |v=>exact .v _
 |agg hn h1 hr ih=>exact .agg hn h1 (fun j u c hu hc=>ih j u c hu hc (AV.scs_mem hx (afl hc)))
 |tup hn hr ih=>exact .tup hn (fun j u c hu hc=>ih j u c hu hc (AV.scs_mem hx (afl hc)))
 |_=>cases hx
def Blk.sc:Blk->Bool
  | .row _ es=>es.all fun e=>e.cells.all AV.sc
  | .box cs=>cs.all AV.sc
  | .loop _ _ _ _=>false
  | .vec _=>true
theorem Sl{g g':Nat->Array ag9->Prop}{S S':Nat->Nat->Prop}{m m':Nat->Option Nat}{w:ahc}{o:Option Nat}{x:Blk}(hx:x.sc=true)(h:BlkRep g S m w o x):BlkRep g' S' m' w o x:=by
 cases h with
 |none=>exact .none _
 |box hw hn h1 hr =>
  refine .box hw hn h1 (fun j u x hu hc=>DS ?_ (hr j u x hu hc));exact afy.1 hx x (afl hc)
 |row hw hn hl hs h1 hr =>
  refine .row hw hn hl hs h1 (fun i j e u x he hc hu=>DS ?_ (hr i j e u x he hc hu));exact afy.1 (afy.1 hx e (afl he)) x (afl hc)
 |loop=>cases hx
 |vec hw hc h1=>exact .vec hw hc h1
theorem kW{g:Nat->Array ag9->Prop}{S:Nat->Nat->Prop}{m m':Nat->Option Nat}{v:ag9}{x:AV}(hx:x.nm=[])(h:Rep g S m v x):Rep g S m' v x :=
 h.mono (fun _ _ h=>h) (fun _ _ h=>h) (fun k b hk=>by have:=hk.mem;rw[hx]at this;cases this)
theorem Con.rk{P:ahb}{f:FuncId}{k sz off len:Nat}{xs es es':List AV}{r:AV}(d:Nat)(hxs:(xs.all fun x=>x.nm.isEmpty)=true)(hr:r.nm=[])
  (h:Con P f (.ms k sz off len::xs) [(k,some (.row sz es))] r [(k,some (.row sz es'))]):Con P f (.ms d sz off len::xs) [(d,some (.row sz es))] r [(d,some (.row sz es'))]:=by
 refine⟨h.ok,?_⟩;intro ext m w vs hext hheap hvs hrep
 have h1:=h.ret ext (fun _=>m d) w vs hext (qo (k:=d) rfl hheap) (by simpa using hvs) (by
  intro j v x hv hx;rw[lY (d:=k) (k:=d) (y:=.row sz es) (x:=.row sz es) (m2:=fun _=>m d) (m:=m) rfl]
  match j,hx with
  |0,hx =>
   cases hx;have h2:=hrep 0 v _ hv rfl;cases h2 with
   |ms0 a=>exact .ms0 a _ _ _
   |ms hm hc hS=>exact .ms hm hc hS
  |j+1,hx =>
   have h2:=hrep (j+1) v x hv hx;refine kW ?_ h2;have:=afy.1 hxs x (afl hx);simpa using this)
 refine Calls.mono h1 ?_;rintro e w' ⟨v,m',rfl,hf,hh,hn,hk,hrr⟩
 have ho:aW [(k,some (Blk.row sz es))] (fun _=>m d)=aW [(d,some (Blk.row sz es))] m:=by
  funext b;apply propext;rw[lO,lO]
 refine⟨v,fun _=>m' k,rfl,ho▸hf,qo (k:=k) rfl hh,?_,?_,?_⟩
 ·intro k' x b hx hb;rw[<- ho];exact hn k _ b (by rw[aD,agz rfl]) hb
 ·intro k' x y hx hy;obtain⟨rfl,_⟩:=gE hx;exact hk k _ _ (by rw[aD,agz rfl]) (by rw[aD,agz rfl])
 ·rw[lY (d:=d) (k:=k) (y:=.row sz es') (x:=.row sz es') (m2:=fun _=>m' k) (m:=m') rfl];exact kW hr hrr
theorem Con.borrowF{P:ahb}{f:FuncId}{args args':List AV}{H H':Hp}{r:AV}(k sz:Nat)(es:List AV)(hk:lk H k=none)(hk':lk H' k=none)(hl:args'.length=args.length)
  (hargs:∀(j:Nat)(x':AV),args'[j]?=some x'->args[j]?=some x'\/args[j]?=some (x'.fz k sz es))
  (hr:r.sc=true) (hH':∀k' x,lk H' k'=some x->x.sc=true) (h:Con P f args H r H') :
  Con P f args' ((k,some (.row sz es))::H) r ((k,some (.row sz es))::H'):=by
 refine⟨h.ok,?_⟩;intro ext m w vs hext hheap hvs hrep
 have hsub:∀k' z,lk H k'=some z->lk ((k,some (.row sz es))::H) k'=some z:=by
  intro k' z hz;rw[aD];split
  ·rename_i e;rw[e,hk]at hz;cases hz
  ·exact hz
 have hownsub:∀b,aW H m b->aW ((k,some (.row sz es))::H) m b:=fun b ⟨k',z,h1,h2⟩=>⟨k',z,hsub k' z h1,h2⟩
 have him:∀b cs,Im ext ((k,some (.row sz es))::H) m w b cs->Im ext H m w b cs:=fun b cs ⟨h1,h2,h3⟩=>⟨h1,fun h'=>h2 (hownsub b h'),h3⟩
 have hheap':HeapRel ext H m w:=by
  refine⟨?_,?_,?_⟩
  ·intro k' z hz;exact BlkRep.mono (w:=w) him (fun _ _ h=>h) (fun _ _ _ h=>h) rfl (fun _ _=>rfl) (hheap.blk k' z (hsub k' z hz))
  ·intro k1 k2 z z' b h1 h2;exact hheap.inj k1 k2 z z' b (hsub _ _ h1) (hsub _ _ h2)
  ·intro k' z b hz;exact hheap.sep k' z b (hsub _ _ hz)
 have hkk:lk ((k,some (Blk.row sz es))::H) k=some (.row sz es):=by rw[aD,agz rfl]
 have hblk:=hheap.blk k _ hkk
 have hnot:∀b,m k=some b->¬aW H m b:=by
  rintro b hb ⟨k',z,hz,hb'⟩;have:=hheap.inj k k' _ _ b hkk (hsub _ _ hz) hb hb';subst this;rw[hk]at hz;cases hz
 have h1:=h.ret ext m w vs hext hheap' (by rw[hvs,hl]) (by
  intro j v x hv hx
  have hj:j<args'.length:=by
   rw[hl];rcases afv j args.length with h |h
   ·exact h
   ·rw[af0 h]at hx;cases hx
  have hx':=afr hj;have h2:=hrep j v _ hv hx';rcases hargs j _ hx' with h3 |h5
  ·rw[hx]at h3;cases h3
   exact h2.mono him (fun _ _ h=>h) (fun _ _ _ h=>h)
  ·rw[hx]at h5;cases h5
   have h6:=tI (g:=Im ext H m w) (k:=k) (sz:=sz) (es:=es) (h2.mono him (fun _ _ h=>h) (fun _ _ _ h=>h)) (by
    intro b hb;rw[hb]at hblk;cases hblk with
    | @row _ _ _ c t hw hn hl hs h1 hr =>
     exact⟨c,⟨(hheap.sep k _ b hkk hb).1,hnot b hb,t,_,hw⟩,hn,hl,hs,h1,fun i j e u x he hx hu=>(hr i j e u x he hx hu).mono him (fun _ _ h=>h) (fun _ _ _ h=>h)⟩)
   exact h6)
 refine Calls.mono h1 ?_;rintro e w' ⟨v,m',rfl,hf,hh,hn,hkeep,hrr⟩
 have hsub':∀k' z,lk ((k,some (Blk.row sz es))::H') k'=some z->(k'=k/\z=.row sz es)\/(k'≠k/\lk H' k'=some z):=by
  intro k' z hz;rw[aD]at hz;split at hz
  ·rename_i e;cases hz;exact .inl ⟨e,rfl⟩
  ·rename_i e;exact .inr ⟨e,hz⟩
 have hframe:Frame (aW ((k,some (.row sz es))::H) m) w w':=⟨hf.os,hf.tape,hf.output,hf.size,hf.sz,fun b h1 h2=>hf.keep b h1 (fun h'=>h2 (hownsub b h'))⟩
 have hnew:∀k' x b,lk ((k,some (Blk.row sz es))::H') k'=some x->(if k'=k then m k else m' k')=some b->aW ((k,some (.row sz es))::H) m b\/w.heap.size<=b:=by
  intro k' x b hx hb;rcases hsub' k' x hx with⟨rfl,rfl⟩ |⟨h2,h3⟩
  ·rw[agz rfl]at hb;exact .inl ⟨k',_,hkk,hb⟩
  ·rw[agy h2]at hb;rcases hn k' x b h3 hb with h4 |h4
   ·exact .inl (hownsub b h4)
   ·exact .inr h4
 have him2:=fg (ext:=ext) hframe (hp':=(k,some (.row sz es))::H') (m':=fun k'=>if k'=k then m k else m' k') hnew;refine⟨v,fun k'=>if k'=k then m k else m' k',rfl,hframe,⟨?_,?_,?_⟩,hnew,?_,DS hr hrr⟩
 ·intro k' z hz;rcases hsub' k' z hz with⟨rfl,rfl⟩ |⟨h2,h3⟩
  ·rw[agz rfl];exact BlkRep.mono him2 (fun b n h=>hf.sz b n h) (fun _ _ hn=>hn.elim) rfl (fun b hb=>hf.keep b (hheap.sep k' _ b hkk hb).2 (hnot b hb)) hblk
  ·rw[agy h2];exact Sl (hH' k' z h3) (hh.blk k' z h3)
 ·intro k1 k2 z z' b h1 h2 hb1 hb2
  have key:∀k' z,k'≠k->lk H' k'=some z->m k=some b->m' k'=some b->False:=by
   intro k' z hne hz hb hb';rcases hn k' z b hz hb' with h4 |h4
   ·exact hnot b hb h4
   ·have:=(hheap.sep k _ b hkk hb).2;omega
  rcases hsub' k1 z h1 with⟨rfl,rfl⟩ |⟨h3,h4⟩ <;> rcases hsub' k2 z' h2 with⟨h5,rfl⟩ |⟨h5,h6⟩
  ·exact h5.symm
  ·rw[agz rfl]at hb1;rw[agy h5]at hb2
   exact(key k2 z' h5 h6 hb1 hb2).elim
  ·rw[agy h3]at hb1;rw[agz h5]at hb2
   exact(key k1 z h3 h4 hb2 hb1).elim
  ·rw[agy h3]at hb1;rw[agy h5]at hb2
   exact hh.inj k1 k2 z z' b h4 h6 hb1 hb2
 ·intro k' z b hz hb;rcases hsub' k' z hz with⟨rfl,rfl⟩ |⟨h2,h3⟩
  ·rw[agz rfl]at hb;have:=hheap.sep k' _ b hkk hb;exact⟨this.1,af3 this.2 hf.size⟩
  ·rw[agy h2]at hb;exact hh.sep k' z b h3 hb
 ·intro k' x y hx hy;rcases hsub' k' y hy with⟨rfl,rfl⟩ |⟨h2,h3⟩
  ·exact agz rfl
  ·have hx':lk H k'=some x:=by rw[aD,agy h2] at hx; exact hx
   exact(agy h2).trans (hkeep k' x y hx' h3)
theorem O0{k sz off len:Nat}{es:List AV}(h:off+len<=es.length):AV.fz k sz es (.ms k sz off len)=.lst sz ((es.drop off).take len):=by
 have e1:Nat.ble (off+len) es.length=true:=abr h;have e2:∀n,ab3 n n=true:=fun n=>ab8 n
 simp only[AV.fz,e1,e2,Bool.and_self]
theorem Con.borrow{P:ahb}{f:FuncId}{args args':List AV}{H H':Hp}{r:AV}(k sz:Nat)(es:List AV)(hk:lk H k=none)(hk':lk H' k=none)(hl:args'.length=args.length)
  (hargs:∀(j:Nat)(x':AV),args'[j]?=some x'->args[j]?=some x'\/(∃off len,x'=.ms k sz off len/\off+len<=es.length/\args[j]?=some (.lst sz ((es.drop off).take len))))
  (hr:r.sc=true) (hH':∀k' x,lk H' k'=some x->x.sc=true) (h:Con P f args H r H') :
  Con P f args' ((k,some (.row sz es))::H) r ((k,some (.row sz es))::H') :=
 Con.borrowF k sz es hk hk' hl (fun j x' hj=>by
  rcases hargs j x' hj with h |⟨off,len,rfl,h1,h2⟩
  ·exact .inl h
  ·exact .inr (by rw[O0 h1];exact h2)) hr hH' h
theorem Con.freeze{P:ahb}{f:FuncId}{args:List AV}{k sz off len:Nat}{es:List AV}(hl:off+len<=es.length)
  (h:Con P f args [] (.ms k sz off len) [(k,some (.row sz es))]):je P f args (.lst sz ((es.drop off).take len)):=by
 refine⟨h.ok,?_⟩;intro ext m w vs hext hheap hvs hrep;refine Calls.mono (h.ret ext m w vs hext hheap hvs hrep) ?_;rintro e w' ⟨v,m',rfl,hf,hh,hn,hkeep,hrr⟩;have hkk:lk [(k,some (Blk.row sz es))] k=some (.row sz es):=by rw[aD,agz rfl]
 have hblk:=hh.blk k _ hkk;have him:∀b cs,Im ext [(k,some (.row sz es))] m' w' b cs->Im ext [] m' w' b cs:=fun b cs ⟨h1,h2,h3⟩=>⟨h1,(fun⟨_,_,h',_⟩=>by cases h'),h3⟩
 refine⟨v,m',rfl,hf,⟨(fun k z h=>by cases h),(fun k k' z z' b h=>by cases h),(fun k z b h=>by cases h)⟩,(fun k x b h=>by cases h),(fun k x y h=>by cases h),?_⟩
 have h6:=tI (g:=Im ext [] m' w') (k:=k) (sz:=sz) (es:=es) (hrr.mono him (fun _ _ h=>h) (fun _ _ _ h=>h)) (by
  intro b hb;rw[hb]at hblk;cases hblk with
  | @row _ _ _ c t hw hn hl hs h1 hr =>
   exact⟨c,⟨(hh.sep k _ b hkk hb).1,(fun⟨_,_,h',_⟩=>by cases h'),t,_,hw⟩,hn,hl,hs,h1,fun i j e u x he hx hu=>(hr i j e u x he hx hu).mono him (fun _ _ h=>h) (fun _ _ _ h=>h)⟩)
 have h7:AV.fz k sz es (.ms k sz off len)=.lst sz ((es.drop off).take len):=by
  have e1:Nat.ble (off+len) es.length=true:=abr hl;have e2:∀n,ab3 n n=true:=fun n=>ab8 n
  simp only[AV.fz,e1,e2,Bool.and_self]
 rwa [h7]at h6
theorem Con.rekeyR{P:ahb}{f:FuncId}{k sz off len off' len':Nat}{xs es es':List AV}(d:Nat)(hxs:(xs.all fun x=>x.nm.isEmpty)=true)
  (h:Con P f (.ms k sz off len::xs) [(k,some (.row sz es))] (.ms k sz off' len') [(k,some (.row sz es'))]) :
  Con P f (.ms d sz off len::xs) [(d,some (.row sz es))] (.ms d sz off' len') [(d,some (.row sz es'))]:=by
 refine⟨h.ok,?_⟩;intro ext m w vs hext hheap hvs hrep
 have h1:=h.ret ext (fun _=>m d) w vs hext (qo (k:=d) rfl hheap) (by simpa using hvs) (by
  intro j v x hv hx;rw[lY (d:=k) (k:=d) (y:=.row sz es) (x:=.row sz es) (m2:=fun _=>m d) (m:=m) rfl]
  match j,hx with
  |0,hx =>
   cases hx;have h2:=hrep 0 v _ hv rfl;cases h2 with
   |ms0 a=>exact .ms0 a _ _ _
   |ms hm hc hS=>exact .ms hm hc hS
  |j+1,hx =>
   have h2:=hrep (j+1) v x hv hx;refine kW ?_ h2;have:=afy.1 hxs x (afl hx);simpa using this)
 refine Calls.mono h1 ?_;rintro e w' ⟨v,m',rfl,hf,hh,hn,hk,hrr⟩
 have ho:aW [(k,some (Blk.row sz es))] (fun _=>m d)=aW [(d,some (Blk.row sz es))] m:=by
  funext b;apply propext;rw[lO,lO]
 refine⟨v,fun _=>m' k,rfl,ho▸hf,qo (k:=k) rfl hh,?_,?_,?_⟩
 ·intro k' x b hx hb;rw[<- ho];exact hn k _ b (by rw[aD,agz rfl]) hb
 ·intro k' x y hx hy;obtain⟨rfl,_⟩:=gE hx;exact hk k _ _ (by rw[aD,agz rfl]) (by rw[aD,agz rfl])
 ·rw[lY (d:=d) (k:=k) (y:=.row sz es') (x:=.row sz es') (m2:=fun _=>m' k) (m:=m') rfl];cases hrr with
  |ms0 a=>exact .ms0 a _ _ _
  |ms hm hc hS=>exact .ms hm hc hS
variable{P:ahb}{N:Nat}{R:Array Oper}{s:AS}{pos:String}{after:Array Edge}
theorem Step.weaken{o:Oper}{u u':Out}(h:Step P N R s o u)(hag:∀s',fT s s' u'->fT s s' u)(hno:∀s',fT s s' u'->jt s' u)
  (hw:∀s',fT s s' u'->Wk (s'.app o.dst u) (s'.app o.dst u')):Step P N R s o u':=by
 refine⟨fun s' hag' _ C m a w Q next hC hr hnext=>?_⟩
 exact h.run s' (hag s' hag') (hno s' hag') C m a w Q next hC hr (fun m' a' w' hr'=>by
  obtain⟨m'',hr''⟩:=hw s' hag' C m' a' w' hr';exact hnext m'' a' w' hr'')
theorem nh{d f k sz:Nat}{es:List AV}{args:Array ag8}{ts:Array aha}{xs:List AV}{r:AV}{t:aha}
  (hcon:Con P f xs [(k,some (.row sz es))] r [(k,some (.row sz es))]) (ha:EvL s args.toList xs) (hk:s.blk k=some (.row sz es)) (hok:fA s [(k,some (.row sz es))] [(k,some (.row sz es))] r=true) (hN:acm d N=true) :
  Step P N R s ⟨some d,.call ⟨.value (.func f),args,ts⟩,t,pos,after,none⟩ ⟨some r,[],cQ args.toList,[k]⟩:=by
 refine Step.weaken (aF (d:=d) hcon ha (fun k' z h=>by
  obtain⟨rfl,h9⟩:=gE h;cases h9;exact hk) hok hN) (fun s' h=>h) (fun s' h k' hk'=>?_) (fun s' h=>?_)
 ·left;simp only[agc,cq,agv,map_nil,aft,agd,af8,or_false]at hk' ⊢;rcases hk' with h9 |h9 <;> exact h9
 ·intro C m a w hr;refine⟨m,hr.weak (fun t x hx=>⟨x,hx,.refl _⟩) (fun k' x hx=>⟨x,?_,.refl _⟩)⟩;have hb:lk s'.hp k=some (.row sz es):=(h.2 k (adc.2 rfl)).trans hk;show lk ([(k,some (.row sz es))]++cq [(k,some (.row sz es))]++s'.hp) k'=some x;have hx':lk s'.hp k'=some x:=hx;simp only[cq,agv,map_nil,cons_append,nil_append,aD]
  by_cases e:k'=k
  ·rw[agz e];rw[e,hb]at hx';exact hx'
  ·rw[agy e,agy e];exact hx'
theorem Con.rekey1{P:ahb}{f:FuncId}{k sz off len:Nat}{xs es es':List AV}{y r:AV}(d:Nat)(hy:y.nm=[])(hxs:(xs.all fun x=>x.nm.isEmpty)=true)(hr:r.nm=[])
  (h:Con P f (y :: .ms k sz off len::xs) [(k,some (.row sz es))] r [(k,some (.row sz es'))]):Con P f (y :: .ms d sz off len::xs) [(d,some (.row sz es))] r [(d,some (.row sz es'))]:=by
 refine⟨h.ok,?_⟩;intro ext m w vs hext hheap hvs hrep
 have h1:=h.ret ext (fun _=>m d) w vs hext (qo (k:=d) rfl hheap) (by simpa using hvs) (by
  intro j v x hv hx;rw[lY (d:=k) (k:=d) (y:=.row sz es) (x:=.row sz es) (m2:=fun _=>m d) (m:=m) rfl]
  match j,hx with
  |0,hx =>
   cases hx;exact kW hy (hrep 0 v _ hv rfl)
  |1,hx =>
   cases hx;have h2:=hrep 1 v _ hv rfl;cases h2 with
   |ms0 a=>exact .ms0 a _ _ _
   |ms hm hc hS=>exact .ms hm hc hS
  |j+2,hx =>
   have h2:=hrep (j+2) v x hv hx;refine kW ?_ h2;have:=afy.1 hxs x (afl hx);simpa using this)
 refine Calls.mono h1 ?_;rintro e w' ⟨v,m',rfl,hf,hh,hn,hk,hrr⟩
 have ho:aW [(k,some (Blk.row sz es))] (fun _=>m d)=aW [(d,some (Blk.row sz es))] m:=by
  funext b;apply propext;rw[lO,lO]
 refine⟨v,fun _=>m' k,rfl,ho▸hf,qo (k:=k) rfl hh,?_,?_,?_⟩
 ·intro k' x b hx hb;rw[<- ho];exact hn k _ b (by rw[aD,agz rfl]) hb
 ·intro k' x y hx hy;obtain⟨rfl,_⟩:=gE hx;exact hk k _ _ (by rw[aD,agz rfl]) (by rw[aD,agz rfl])
 ·rw[lY (d:=d) (k:=k) (y:=.row sz es') (x:=.row sz es') (m2:=fun _=>m' k) (m:=m') rfl];exact kW hr hrr
end Go.Lw
namespace Go.Lw
variable{P:ahb}{N:Nat}{Q:Exit->AS->Prop}
inductive TyT where
  |lf
  |nd (l:TyT) (k:Nat) (t:TI) (r:TyT)
def TyT.get:TyT->Nat->Option TI
  | .lf,_=>none
  | .nd l k t r,n=>match ab3 n k with
    |true=>some t
    |false=>match acm n k with
      |true=>l.get n
      |false=>r.get n
inductive TyT.Ok(P:ahb):TyT->Prop
  |lf:TyT.Ok P .lf
  |nd {l r:TyT} {k:Nat} {t:TI} (hl:TyT.Ok P l) (h:au P k=some t) (hr:TyT.Ok P r):TyT.Ok P (.nd l k t r)
theorem TyT.Ok.get{T:TyT}(h:T.Ok P){n:Nat}{t:TI}(hg:T.get n=some t):au P n=some t:=by
 induction h with
 |lf=>cases hg
 |nd _ h _ ihl ihr =>
  unfold TyT.get at hg;split at hg
  ·rename_i hb;rw[afo hb,h];exact hg
  ·split at hg
   ·exact ihl hg
   ·exact ihr hg
structure Tys(P:ahb) where
  tab:TyT
  ok:tab.Ok P
  mix:P.follows .mixedOrders=true
def cg(P:ahb)[Inhabited (Tys P)](n:Nat):Option TI:=(default:Tys P).tab.get n
theorem bX[Inhabited (Tys P)]{n:Nat}{t:TI}(h:cg P n=some t):au P n=some t:=(default:Tys P).ok.get h
inductive AllP:List Prop->Prop
  |nil:AllP []
  |cons {p:Prop} {l:List Prop} (h:p) (hl:AllP l):AllP (p::l)
theorem AllP.app{a b:List Prop}(h:AllP (a++b)):AllP a/\AllP b:=by
 induction a with
 |nil=>exact⟨.nil,h⟩
 |cons p a ih =>
  cases h with |cons h hl=>exact⟨.cons h (ih hl).1,(ih hl).2⟩
def AV.optB:AV->Option (Bool×AV)
  | .opt b x=>some (b,x)
  |_=>none
theorem AV.optB_some{x y:AV}{b:Bool}(h:x.optB=some (b,y)):x=.opt b y:=by cases x <;> simp_all[AV.optB]
def dM(g:Bool)(G:Prop)(s:AS):ag8->Option (AV×List Prop)
  | .tmp t=>match s.get t with
    |some x=>match g with
      |true=>match x.optB with
        |some (b,y)=>some (y,[G->b=true])
        |none=>some (x,[])
      |false=>some (x,[])
    |none=>none
  | .const c=>some (.v c,[])
  | .func f=>some (.v (.func (.func f) #[] #[]),[])
  | .global _=>none
theorem ef{g:Bool}{G:Prop}{s:AS}{o:ag8}{x:AV}{ob:List Prop}(h:dM g G s o=some (x,ob))(ho:AllP ob)(hG:G):Ev s o x:=by
 cases o with
 |tmp t =>
  simp only[dM]at h;split at h
  ·rename_i y hy;split at h
   ·split at h
    ·rename_i b z hz;cases h;cases ho with
     |cons h1 _=>exact .opt (by rw[hy,AV.optB_some hz]) (h1 hG)
    ·cases h;exact .tmp hy
   ·cases h;exact .tmp hy
  ·cases h
 |const c=>cases h;exact .const c
 |func f=>cases h;exact .func f
 |global n=>cases h
def g9:List AV->Option (List AV)
  |[]=>some []
  |x::l=>match g9 l with
    |some r=>some (x::r)
    |none=>none
theorem jn:∀{l r:List AV},g9 l=some r->r=l
 |[],r,h=>by cases h;rfl
 |x::l,r,h=>by
  unfold g9 at h;split at h
  ·rename_i r' hr;cases h;rw[jn hr]
  ·cases h
def nF(g:Bool)(G:Prop)(s:AS):List ag8->Option (List AV×List Prop)
  |[]=>some ([],[])
  |o::os=>match dM g G s o with
    |some (x,a)=>match nF g G s os with
      |some (xs,b)=>some (x::xs,a++b)
      |none=>none
    |none=>none
theorem ta{g:Bool}{G:Prop}{s:AS}(hG:G):∀{os:List ag8}{xs:List AV}{ob:List Prop},nF g G s os=some (xs,ob)->AllP ob->EvL s os xs
 |[],xs,ob,h,ho=>by cases h;exact .nil
 |o::os,xs,ob,h,ho=>by
  unfold nF at h;split at h
  ·rename_i x a h1;split at h
   ·rename_i ys b h2;cases h;exact .cons (ef h1 ho.app.1 hG) (ta hG h2 ho.app.2)
   ·cases h
  ·cases h
def zt(g:Bool)(G:Prop)(s:AS):List (Nat×ag8)->Option (List (Nat×AV)×List Prop)
  |[]=>some ([],[])
  |p::os=>match dM g G s p.2 with
    |some (x,a)=>match zt g G s os with
      |some (xs,b)=>some ((p.1,x)::xs,a++b)
      |none=>none
    |none=>none
theorem KJ{g:Bool}{G:Prop}{s:AS}(hG:G):∀{os:List (Nat×ag8)}{xs:List (Nat×AV)}{ob:List Prop},zt g G s os=some (xs,ob)->AllP ob->EvP s os xs
 |[],xs,ob,h,ho=>by cases h;exact .nil
 |p::os,xs,ob,h,ho=>by
  unfold zt at h;split at h
  ·rename_i x a h1;split at h
   ·rename_i ys b h2;cases h;exact .cons (ef h1 ho.app.1 hG) (KJ hG h2 ho.app.2)
   ·cases h
  ·cases h
structure R1 where
  x:AV
  rt:List Nat
  rd:List Nat
  ob:List Prop
def en:IntKind->Nat
  | .i8=>0 | .i16=>1 | .i32=>2 | .i64=>3 | .u8=>4 | .u16=>5 | .u32=>6 | .u64=>7
theorem mW{a b:IntKind}(h:ab3 (en a) (en b)=true):a=b:=by cases a <;> cases b <;> first |rfl |(exact ag5 h (by decide))
def y9:BinOp->Bool
  | .eql | .neq | .lss | .leq | .gtr | .geq=>true
  |_=>false
def tD(ti:TI)(l:List AV):Option AV:=match ti.ag with
  |true=>match g9 (l.take ti.size)with
    |some r=>some (.agg r)
    |none=>none
  |false=>match ab3 ti.size 1,l with
    |true,x::_=>some x
    |_,_=>none
theorem B2{ti:TI}{l:List AV}{x:AV}(h:tD ti l=some x):(ti.ag||ab3 ti.size 1)=true/\x=jH ti.ag (l.take ti.size):=by
 unfold tD at h;split at h
 ·rename_i ha;split at h
  ·rename_i r hr;cases h;rw[ha,jn hr];exact⟨rfl,rfl⟩
  ·cases h
 ·rename_i ha;split at h
  ·rename_i h1;cases h
   rw[ha,afo h1];exact⟨rfl,rfl⟩
  ·cases h
section
variable{s:AS}{R:Array Oper}{d:Nat}{t T:aha}{pos:String}{after:Array Edge}{r:R1}
def vO(ti:TI)(x:ag8)(f:Nat)(ob:List Prop)(y:AV):Option R1:=match ti.k with
  | .struct=>match ti.fs[f]? with
    |some (o,n)=>match acm 0 n with
      |true=>match y with
        | .ptr k off=>some ⟨.ptr k (off+o),aj x,[],ob⟩
        | .eptr k sz i off=>some ⟨.eptr k sz i (off+o),aj x,[],ob⟩
        | .iptr xs=>some ⟨.iptr (xs.drop o),aj x,[],ob⟩
        |_=>none
      |false=>none
    |none=>none
  |_=>none
theorem RZ{x:ag8}{y:AV}{f:Nat}{ti:TI}{ob:List Prop}(hx:Ev s x y)(hT:au P T=some ti)(h:vO ti x f ob y=some r)(hN:acm d N=true) :
  Step P N R s ⟨some d,.fieldAddr T x f,t,pos,after,none⟩ ⟨some r.x,[],r.rt,r.rd⟩:=by
 unfold vO at h;split at h
 ·rename_i hk;split at h
  ·rename_i o n hf;split at h
   ·rename_i hn;split at h
    ·cases h;exact PP hx hT hk hf hn hN
    ·cases h;exact OM hx hT hk hf hn hN
    ·cases h;exact OQ hx hT hk hf hn hN
    ·cases h
   ·cases h
  ·cases h
 ·cases h
theorem QS{x:ag8}{y:AV}{f:Nat}{ti:TI}{ob:List Prop}(h:vO ti x f ob y=some r):r.ob=ob:=by
 unfold vO at h
 repeat' split at h
 all_goals first |(cases h;rfl) |cases h
end
variable[Inhabited (Tys P)]
def sJ(P:ahb)[Inhabited (Tys P)](s:AS)(ti:TI)(x:ag8)(ob:List Prop):AV->Option R1
  | .ptr k off=>match s.blk k with
    |some (.box cs)=>match Nat.ble (off+ti.size) cs.length with
      |true=>match tD ti (cs.drop off)with
        |some v=>some ⟨v,aj x,[k],ob⟩
        |none=>none
      |false=>none
    |_=>none
  | .iptr xs=>match acm 0 ti.size&&Nat.ble ti.size xs.length with
    |true=>match tD ti xs with
      |some v=>some ⟨v,aj x,[],ob⟩
      |none=>none
    |false=>none
  |_=>none
def Bk:ag9->Prop:=fun v=>v=.nilIface\/∃T u,v=.iface T u
def rm(P:ahb)[Inhabited (Tys P)](op:BinOp)(S:aha)(x y:ag8)(ob:List Prop)(vx vy:ag9):Option R1:=match vy with
  | .int k b=>match vx with
    | .int k' a=>match y9 op&&ab3 (en k) (en k')with
      |true=>some ⟨.v (.bool (aa op a b)),aj x++aj y,[],ob⟩
      |false=>none
    |_=>none
  | .string b=>match vx with
    | .string a=>match op with
      | .eql=>some ⟨.v (.bool (a.toList==b.toList)),aj x++aj y,[],ob⟩
      | .neq=>some ⟨.v (.bool !(a.toList==b.toList)),aj x++aj y,[],ob⟩
      |_=>none
    |_=>none
  | .bool b=>match vx with
    | .bool a=>match cg P S with
      |some ti=>match ti.k with
        | .bool=>match op with
          | .eql=>some ⟨.v (.bool (a==b)),aj x++aj y,[],ob⟩
          | .neq=>some ⟨.v (.bool (a != b)),aj x++aj y,[],ob⟩
          |_=>none
        |_=>none
      |none=>none
    |_=>none
  | .nilIface=>match y with
    | .const _=>match cg P S with
      |some ti=>match ti.k with
        | .iface _=>match op with
          | .eql=>some ⟨.v (.bool (e8 vx)),aj x++[],[],Bk vx::ob⟩
          | .neq=>some ⟨.v (.bool !(e8 vx)),aj x++[],[],Bk vx::ob⟩
          |_=>none
        |_=>none
      |none=>none
    |_=>none
  |_=>none
def rF(P:ahb)[Inhabited (Tys P)](x:ag8)(T:aha)(ob:List Prop)(y:AV):Option R1:=match cg P T with
  |some ti=>match ti.k with
    | .slice _=>match y with
      | .ms _ _ _ len=>some ⟨.v (.int .i64 len),aj x,[],ob⟩
      | .v (.slice _ n _)=>some ⟨.v (.int .i64 n),aj x,[],ob⟩
      |_=>none
    | .string=>match y with
      | .v (.string b)=>some ⟨.v (.int .i64 b.size),aj x,[],ob⟩
      |_=>none
    |_=>none
  |none=>none
def Gu:TK->Bool
  | .int _ | .struct | .pointer _ | .string=>true
  |_=>false
def y0:Nat->List (Nat×ag8)->Bool
  |_,[]=>true
  |n,p::l=>ab3 p.1 n&&y0 (n+1) l
theorem Kq:∀{l:List (Nat×ag8)}{n:Nat},y0 n l=true->l=mj n (l.map (·.2))
 |[],n,_=>rfl
 |(i,o)::l,n,h=>by
  simp only[y0,afp]at h;have h1:=afo h.1;subst h1;simp only[agv,mj];rw[<- Kq h.2]
def Be{α:Type}:List α->Bool
  |[]=>true
  |_=>false
theorem XV{α:Type}{l:List α}(h:Be l=true):l=[]:=by cases l <;> simp_all[Be]
def pG(g:Bool)(G:Prop)(b w:Bool):Prop:=match g with
  |true=>G/\b=w
  |false=>b=w
theorem Js{g:Bool}{G:Prop}{b w:Bool}(hG:G)(h:b=w):pG g G b w:=by cases g <;> first |exact h |exact⟨hG,h⟩
def uC(P:ahb)[Inhabited (Tys P)](g:Bool)(G:Prop)(s:AS):Op->Option R1
  | .move x=>match dM g G s x with
    |some (v,ob)=>some ⟨v,aj x,[],ob⟩
    |none=>none
  | .assign x=>match dM g G s x with
    |some (v,ob)=>some ⟨v,aj x,[],ob⟩
    |none=>none
  | .load T x=>match dM g G s x with
    |some (v,ob)=>match cg P T with
      |some ti=>sJ P s ti x ob v
      |none=>none
    |none=>none
  | .fieldAddr T x f=>match dM g G s x with
    |some (v,ob)=>match cg P T with
      |some ti=>vO ti x f ob v
      |none=>none
    |none=>none
  | .extract x i=>match dM g G s x with
    |some (.tup xs,ob)=>match xs[i]? with
      |some y=>some ⟨y,aj x,[],ob⟩
      |none=>none
    |_=>none
  | .unOp .not _ x=>match dM g G s x with
    |some (.v (.bool b),ob)=>some ⟨.v (.bool !b),aj x,[],ob⟩
    |_=>none
  | .binOp op S x y _=>match dM g G s y with
    |some (.v vy,ob)=>match dM g G s x with
      |some (.v vx,ob')=>rm P op S x y (ob'++ob) vx vy
      |_=>none
    |_=>none
  | .makeInterface T x=>match dM g G s x with
    |some (.v v,ob)=>match cg P T with
      |some ti=>match Gu ti.k with
        |true=>some ⟨.v (.iface T v),aj x,[],ob⟩
        |false=>none
      |none=>none
    |_=>none
  | .nilCheck x=>match dM g G s x with
    |some (.ptr k off,ob)=>some ⟨.ptr k off,aj x,[],ob⟩
    |some (.iptr xs,ob)=>some ⟨.iptr xs,aj x,[],ob⟩
    |_=>none
  | .makeFunc (.func f) first caps=>match first.toList with
    |[]=>match nF g G s caps.toList with
      |some (xs,ob)=>some ⟨.fn f xs,cQ caps.toList,[],ob⟩
      |none=>none
    |_=>match caps.toList with
      |[]=>match nF g G s first.toList with
        |some (xs,ob)=>match xs.all fun x=>x.nm.isEmpty with
          |true=>some ⟨.cl f xs [],cQ first.toList,[],ob⟩
          |false=>none
        |none=>none
      |_=>none
  | .build T parts=>match cg P T with
    |some ti=>match ti.k with
      | .struct=>match ti.zero.all Value.oneCell'&&ti.fs.all fun p=>acm 0 p.2 with
        |true=>match zt g G s parts.toList with
          |some (xs,ob)=>match tx (fun i=>ti.fs[i]?) (ti.zero.map .v) xs with
            |some l=>match g9 l with
              |some l=>some ⟨.agg l,rg parts.toList,[],ob⟩
              |none=>none
            |none=>none
          |none=>none
        |false=>none
      |_=>none
    |none=>none
  | .buildSlice T n parts=>match n with
    |0=>none
    |n+1=>match cg P T with
      |some ti=>match ti.k with
        | .slice E=>match cg P E with
          |some te=>match nF g G s (parts.toList.map (·.2))with
            |some (es,ob)=>match y0 0 parts.toList&&te.zero.all Value.oneCell'&&ab3 te.zero.length te.size&&(es.all fun e=>ab3 e.cells.length te.size&&e.ok) &&
                Be (AV.nms es)&&ab3 (n+1) es.length&&Nat.ble ((n+1)*te.size) 16777216&&Nat.ble (n+1) 16777216 with
              |true=>some ⟨.lst te.size es,cQ (parts.toList.map (·.2)),[],ob⟩
              |false=>none
            |none=>none
          |none=>none
        |_=>none
      |none=>none
  | .pick c x y=>match dM g G s c with
    |some (.v (.bool b),ob)=>match dM true (pG g G b true) s x with
      |some (.v (.bool bx),ob')=>match dM true (pG g G b false) s y with
        |some (.v (.bool bz),ob'')=>some ⟨.v (.bool (cond b bx bz)),aj c++(aj x++aj y),[],ob++(ob'++ob'')⟩
        |_=>none
      |_=>none
    |_=>none
  | .call ⟨.builtin .len,args,ts⟩=>match args.toList with
    |[x]=>match ts.toList with
      |[T]=>match dM g G s x with
        |some (y,ob)=>rF P x T ob y
        |none=>none
      |_=>none
    |_=>none
  |_=>none
section
variable{g:Bool}{G:Prop}{s:AS}{R:Array Oper}{d:Nat}{t T:aha}{pos:String}{after:Array Edge}{r:R1}
theorem IW{x:ag8}{y:AV}{ti:TI}{ob:List Prop}(hx:Ev s x y)(hT:au P T=some ti)(h:sJ P s ti x ob y=some r)(hN:acm d N=true) :
  Step P N R s ⟨some d,.load T x,t,pos,after,none⟩ ⟨some r.x,[],r.rt,r.rd⟩:=by
 unfold sJ at h;split at h
 ·split at h
  ·split at h
   ·split at h
    ·cases h;rename_i hk _ h1 _ v hv;obtain⟨h2,rfl⟩:=B2 hv;exact PH hx hk hT h1 h2 hN
    ·cases h
   ·cases h
  ·cases h
 ·split at h
  ·split at h
   ·cases h;rename_i h1 _ v hv;obtain⟨h2,rfl⟩:=B2 hv;exact Wr hx hT h1 h2 hN
   ·cases h
  ·cases h
 ·cases h
theorem I0{op:BinOp}{x y:ag8}{vx vy:ag9}{S:aha}{ob:List Prop}(hx:Ev s x (.v vx))(hy:Ev s y (.v vy))(h:rm P op S x y ob vx vy=some r)(ho:AllP r.ob)
  (hN:acm d N=true):Step P N R s ⟨some d,.binOp op S x y T,t,pos,after,none⟩ ⟨some r.x,[],r.rt,r.rd⟩:=by
 unfold rm at h;split at h
 ·split at h
  ·split at h
   ·rename_i hc;cases h
    simp only[afp]at hc;cases mW hc.2;exact L7 hx hy (by have:=hc.1;cases op <;> simp_all[y9]) hN
   ·cases h
  ·cases h
 ·split at h
  ·split at h
   ·cases h;exact GQ hx hy hN
   ·cases h;exact Lh hx hy hN
   ·cases h
  ·cases h
 ·split at h
  ·split at h
   ·rename_i ti hti;split at h
    ·rename_i hk;split at h
     ·cases h;exact X4 hx hy (bX hti) hk hN
     ·cases h;exact Tv hx hy (bX hti) hk hN
     ·cases h
    ·cases h
   ·cases h
  ·cases h
 ·split at h
  ·rename_i c;have hc:c=.nilIface:=by cases hy; rfl
   subst hc;split at h
   ·rename_i ti hti;split at h
    ·rename_i hk;split at h
     ·cases h;cases ho with |cons h1 _=>exact Jw hx h1 (bX hti) hk hN
     ·cases h;cases ho with |cons h1 _=>exact Mi hx h1 (bX hti) hk hN
     ·cases h
    ·cases h
   ·cases h
  ·cases h
 ·cases h
theorem Oq{op:BinOp}{x y:ag8}{vx vy:ag9}{S:aha}{ob:List Prop}(h:rm P op S x y ob vx vy=some r)(ho:AllP r.ob):AllP ob:=by
 unfold rm at h
 repeat' split at h
 all_goals first |(cases h;exact ho) |(cases h;cases ho;assumption) |cases h
theorem Ft{x:ag8}{y:AV}{ob:List Prop}(hx:Ev s x y)(h:rF P x T ob y=some r)(hN:acm d N=true) :
  Step P N R s ⟨some d,.call ⟨.builtin .len,#[x],#[T]⟩,t,pos,after,none⟩ ⟨some r.x,[],r.rt,r.rd⟩:=by
 unfold rF at h;split at h
 ·rename_i ti hti;have hti:=bX hti;split at h
  ·rename_i hk;split at h
   ·cases h;exact V8 hx hti hk hN
   ·cases h;exact XP hx hti hk hN
   ·cases h
  ·rename_i hk;split at h
   ·cases h;exact aa0 hx hti hk hN
   ·cases h
  ·cases h
 ·cases h
theorem PB{x:ag8}{y:AV}{ti:TI}{ob:List Prop}(h:sJ P s ti x ob y=some r):r.ob=ob:=by
 unfold sJ at h
 repeat' split at h
 all_goals first |(cases h;rfl) |cases h
theorem YS{x:ag8}{y:AV}{ob:List Prop}(h:rF P x T ob y=some r):r.ob=ob:=by
 unfold rF at h
 repeat' split at h
 all_goals first |(cases h;rfl) |cases h
theorem wV{op:Op}(h:uC P g G s op=some r)(ho:AllP r.ob)(hG:G)(hN:acm d N=true):Step P N R s ⟨some d,op,t,pos,after,none⟩ ⟨some r.x,[],r.rt,r.rd⟩:=by
 unfold uC at h;split at h
 ·split at h
  ·rename_i h1;cases h;exact VG (ef h1 ho hG) hN
  ·cases h
 ·split at h
  ·rename_i h1;cases h;exact Q4 (ef h1 ho hG) hN
  ·cases h
 ·split at h
  ·rename_i h1;split at h
   ·rename_i ti hti;rw[PB h]at ho;exact IW (ef h1 ho hG) (bX hti) h hN
   ·cases h
  ·cases h
 ·split at h
  ·rename_i h1;split at h
   ·rename_i ti hti;rw[QS h]at ho;exact RZ (ef h1 ho hG) (bX hti) h hN
   ·cases h
  ·cases h
 ·split at h
  ·rename_i h1;split at h
   ·rename_i hy;cases h;exact TU (ef h1 ho hG) hy hN
   ·cases h
  ·cases h
 ·split at h
  ·rename_i h1;cases h;exact Pb (ef h1 ho hG) hN
  ·cases h
 ·split at h
  ·rename_i h1;split at h
   ·rename_i h2;have:=(Oq h ho).app;exact I0 (ef h2 this.1 hG) (ef h1 this.2 hG) h ho hN
   ·cases h
  ·cases h
 ·split at h
  ·rename_i h1;split at h
   ·rename_i ti hti;split at h
    ·rename_i hk;cases h
     exact YT (ef h1 ho hG) hN (bX hti) (by
      generalize ti.k=k at hk;cases k <;> simp_all[Gu])
    ·cases h
   ·cases h
  ·cases h
 ·split at h
  ·rename_i h1;cases h;exact Zi (ef h1 ho hG) hN
  ·rename_i h1;cases h;exact Za (ef h1 ho hG) hN
  ·cases h
 ·rename_i f first caps
  split at h
  ·rename_i hf;have:first=#[]:=by apply ae9.1; simpa using hf
   subst this;split at h
   ·rename_i h1;cases h;exact WZ (ta hG h1 ho) hN
   ·cases h
  ·split at h
   ·rename_i hf;have:caps=#[]:=by apply ae9.1; simpa using hf
    subst this;split at h
    ·rename_i h1;split at h
     ·rename_i h2;cases h;exact Tc (ta hG h1 ho) h2 hN
     ·cases h
    ·cases h
   ·cases h
 ·split at h
  ·rename_i ti hti;split at h
   ·rename_i hk;split at h
    ·rename_i hz;simp only[afp]at hz;split at h
     ·rename_i h1;split at h
      ·rename_i hl;split at h
       ·rename_i hr;cases h;exact Ym (KJ hG h1 ho) (bX hti) hk hz.1 hz.2 (by rw[hl,jn hr]) hN
       ·cases h
      ·cases h
     ·cases h
    ·cases h
   ·cases h
  ·cases h
 ·rename_i T n parts;split at h
  ·cases h
  ·rename_i n;split at h
   ·rename_i ti hti;split at h
    ·rename_i E hk;split at h
     ·rename_i te hte;split at h
      ·rename_i es ob h1;split at h
       ·rename_i hc;cases h;simp only[afp]at hc;obtain⟨⟨⟨⟨⟨⟨⟨c1,c2⟩,c3⟩,c4⟩,c5⟩,c6⟩,c7⟩,c8⟩:=hc;exact Og (by rw[<- Kq c1]) (ta hG h1 ho) (bX hti) hk (bX hte) c2 c3 (by simpa only[afp]using c4) (XV c5) (afo c6) c7 c8 hN
       ·cases h
      ·cases h
     ·cases h
    ·cases h
   ·cases h
 ·split at h
  ·rename_i h1;split at h
   ·rename_i h2;split at h
    ·rename_i h3;cases h;have hp:=ho.app;have hq:=hp.2.app;exact DN (ef h1 hp.1 hG) (fun hb=>ef h2 hq.1 (Js hG hb)) (fun hb=>ef h3 hq.2 (Js hG hb)) hN
    ·cases h
   ·cases h
  ·cases h
 ·rename_i args ts;split at h
  ·rename_i x hx;split at h
   ·rename_i T hT;have e1:args=#[x]:=by apply ae9.1; simpa using hx
    have e2:ts=#[T]:=by apply ae9.1;simpa using hT
    subst e1;subst e2
    split at h
    ·rename_i h1;rw[YS h]at ho;exact Ft (ef h1 ho hG) h hN
    ·cases h
   ·cases h
  ·cases h
 ·cases h
end
end Go.Lw
namespace Go.Lw
variable{P:ahb}{N:Nat}{R:Array Oper}{s:AS}{pos:String}{after:Array Edge}{Q:Exit->AS->Prop}
theorem Wj{ρ:ag8->ag9}{o:Oper}{g:ag8}{l:Nat}{args:Array ag8}{ts:Array aha}(ho:o.op=.call ⟨.value g,args,ts⟩)
  (hρ:ρ g=.func (.yield l) #[] #[]):(execOp ρ o).run P=(Instr.yield l (args.map ρ)).run P:=by
 obtain⟨dst,op,type,pos,after,guard⟩:=o;subst ho;funext w;simp[execOp,resolve,hρ,Deferred.ofValue,invoke]
def qQ(P:ahb)(vs:Array ag9)(w:ahc)(R:Ending->ahc->Prop):Prop :=
  ∃l f ts x y,vs[0]?=some (.func (.yield l) #[] #[])/\(Instr.yield l (vs.toList.drop 1).toArray).run P w=.ok (.round l f ts x y) w/\∀ro n,RoundIn (Fw ro) n P l f ts x y w R
theorem qQ.mono{vs:Array ag9}{w:ahc}{R R':Ending->ahc->Prop}(h:qQ P vs w R)(hr:∀e w',R e w'->R' e w'):qQ P vs w R':=by
 obtain⟨l,f,ts,x,y,h1,h2,h3⟩:=h;exact⟨l,f,ts,x,y,h1,h2,fun ro n=>(h3 ro n).mono hr⟩
def xu(P:ahb)(k:Nat)(xs:List AV)(H:Hp)(r:AV)(H':Hp):Prop:=EN (qQ P) (.yl k::xs) H r H'
theorem Y7{d:Nat}{g:ag8}{k:Nat}{args:Array ag8}{ts:Array aha}{xs:List AV}{H H':Hp}{r:AV}{t:aha}
  (hg:Ev s g (.yl k)) (hcon:xu P k xs H r H') (ha:EvL s args.toList xs) (hH:∀k z,lk H k=some z->s.blk k=some z) (hok:fA s H H' r=true) (hN:acm d N=true) :
  Step P N R s ⟨some d,.call ⟨.value g,args,ts⟩,t,pos,after,none⟩ ⟨some r,H'++cq H,aj g++cQ args.toList,H.map (·.1)⟩:=by
 refine⟨fun s' hag hnew C m a w Q next hC hr hnext=>?_⟩;rw[agz (mN rfl _)];intro ro n;have hag':fT s s' ⟨none,[],aj g++cQ args.toList,[]⟩:=⟨hag.1,fun k hk=>by cases hk⟩
 have ha':=ha.agree hag' (fun _ h=>aft.2 (.inr h));have hgr:=(hg.agree hag' (fun _ h=>aft.2 (.inl h))).rep hr
 have hev:∃l,a.eval g=.func (.yield l) #[] #[]:=by
  generalize a.eval g=u at hgr;cases hgr;exact⟨_,rfl⟩
 obtain⟨l,hev⟩:=hev;rw[Wj rfl hev];simp only[fA,afp,afy]at hok;obtain⟨hok1,hok2⟩:=hok
 have hc:=hr.called (run:=qQ P) (fun _ _ _ _ h h'=>qQ.mono h h') hcon (vs:=#[Value.func (.yield l) #[] #[]]++args.map a.eval) (by have:=ha'.length; simp at this ⊢; omega) (by
   intro j v x hv hx;cases j with
   |zero =>
    cases hx;rw[ae8,agz (by show 0<1;omega)]at hv;cases hv;rw[<- hev];exact hgr
   |succ j =>
    refine ha'.rep hr j v x ?_ (by simpa using hx);rw[ae8,agy (by show ¬j+1<1;omega)]at hv;have h9:(Array.map a.eval args)[j]?=some v:=hv;simpa using h9)
  (fun k z hz=>by rw[<- hH k z hz];exact hag.2 k (jD hz)) (by
  intro k z hz;rcases hnew k (by simp only[agc,aft];exact .inl (jD hz))with h |h
  ·obtain⟨p,hp,rfl⟩:=ac6.1 h;exact .inl (ia.1 (hok1 p hp))
  ·exact .inr h) (by
  intro k hk;obtain⟨p,hp,rfl⟩:=ac6.1 hk;exact hok1 p hp) hok2
 obtain⟨l',f,ts',x,y,h1,h2,h3⟩:=hc
 have hl:l'=l:=by
  rw[ae8,agz (by show 0<1;omega)]at h1;cases h1;rfl
 subst hl;have e1:((#[Value.func (.yield l') #[] #[]]++args.map a.eval).toList.drop 1).toArray=args.map a.eval:=by simp;rw[<- Array.toList_map,Array.toArray_toList]
 rw[e1]at h2;rw[h2];refine⟨(fun h=>by cases h),(h3 ro (n-1)).mono ?_⟩;rintro e w' ⟨v,m'',rfl,hr',hrr,_⟩;rw[ab7]at hN;have:=hr'.put d v (some r) (fun z hz=>by cases hz;exact⟨by have:=hr'.nt;omega,hrr⟩);exact hnext m'' _ _ (by simpa[AS.app,Act.put]using this)
theorem Gm{d j g:Nat}{op:Op}{t:aha}{want b:Bool}{x:AV}{upd:Hp}{rt rd:List Nat}
  (hj:(R[j]?).bind (·.dst)=some g) (hb:s.get g=some (.v (.bool b))) (hN:acm d N=true)
  (hno:b≠want->∀k∈upd.map (·.1),k∈rd/\lk upd k=s.blk k)
  (h:b=want->Step P N R s ⟨some d,op,t,pos,after,none⟩ ⟨some x,upd,rt,rd⟩) :
  Step P N R s ⟨some d,op,t,pos,after,some (j,want)⟩ ⟨some (.opt (b==want) x),upd,g::rt,rd⟩:=by
 refine⟨fun s' hag hnew C m a w Q next hC hr hnext=>?_⟩;have hg:=hr.slots g _ ((hag.1 g (by simp)).trans hb)
 have hgv:a.tmps[g]?=some (.bool b):=by
  obtain⟨h1,h2⟩:=hg;generalize hu:a.tmps.getD g undef=u at h2;cases h2;simp only[afx]at hu;rw[ae4 h1]at hu ⊢;simpa using hu
 have hy:yielded R a.tmps j=some b:=by simp[yielded,hj,hgv]
 have hd:d<a.tmps.size:=by rw[ab7]at hN;have:=hr.nt;omega
 by_cases hbw:b=want
 ·subst hbw;have hwt:Region.wanted ⟨some d,op,t,pos,after,some (j,b)⟩ (yielded R a.tmps)=true:=by simp[Region.wanted,hy]
  rw[agz hwt];have:=(h rfl).run s' ⟨fun t ht=>hag.1 t (by simp[show t∈rt from ht]),hag.2⟩ hnew C m a w Q next hC hr (fun m' a' w' h'=>hnext m' a' w' ?_)
  ·rw[agz (mN rfl _)]at this;exact this
  ·refine⟨fun t y hy=>?_,h'.heap,h'.frame,h'.new,h'.keep,h'.defers,h'.nt⟩;simp only[gq]at hy;split at hy
   ·rename_i hdt;cases hy;have:=h'.slots t x (by simp only[gq,agz hdt]);exact⟨this.1,.opt (fun _=>this.2) (fun h=>by simp at h)⟩
   ·rename_i hdt;exact h'.slots t y (by simp only[gq,agy hdt];exact hy)
 ·have hwt:¬ Region.wanted ⟨some d,op,t,pos,after,some (j,want)⟩ (yielded R a.tmps)=true:=by simp[Region.wanted,hy,hbw]
  rw[agy hwt];have:=hr.put d undef (some (.opt (b==want) x)) (fun y hy=>by cases hy;exact⟨hd,.opt (fun h=>ag5 (beq_iff_eq.1 h) hbw) (fun _=>rfl)⟩);refine hnext m _ _ ?_;refine RelM.congr (s:=⟨(d,some (.opt (b==want) x))::s'.sl,s'.hp⟩) (fun t=>rfl) (fun k=>?_) (by simpa[Act.put]using this);simp only[AS.app,AS.blk,ke];split
  ·rename_i hk;obtain⟨h1,h2⟩:=hno hbw k hk;rw[h2];exact hag.2 k h1
  ·rfl
theorem RelM.setLoop{C:Ctx}{m:Nat->Option Nat}{a:Act}{w:ahc}(h:RelM C s m a w){k l:Nat}{d:LpD}{st:LoopState}{pe:Option Code}{sl:bE}{r:Loop}
  (hk:lk s.hp k=some (.loop d st pe sl)) (hm:m k=some l) (hl:w.heap[l]?=some (.loop r)) (st':LoopState) (pe':Option Code) :
  RelM C ⟨s.sl,(k,some (.loop d st' pe' sl))::s.hp⟩ m a (w.putObj l (.loop { r with state:=st',pending:=pe' })):=by
 have hlt:=(h.heap.sep k _ l hk hm).2;have hget:∀b',b'≠l->(w.putObj l (.loop { r with state:=st',pending:=pe' })).heap[b']?=w.heap[b']?:=fun b' hb=>World.putObj_heap_other hb
 have hlk:∀k' y,lk ((k,some (Blk.loop d st' pe' sl))::s.hp) k'=some y->∃z,lk s.hp k'=some z:=by
  intro k' y hy;rw[aD]at hy;split at hy
  ·subst_vars;exact⟨_,hk⟩
  ·exact⟨y,hy⟩
 have hf:Frame (aW s.hp m) w (w.putObj l (.loop { r with state:=st',pending:=pe' })):=by
  refine⟨rfl,rfl,rfl,by simp,?_,?_⟩
  ·rintro b' n ⟨c1,t1,f1,h1,h2⟩;refine⟨c1,t1,f1,?_,h2⟩;rw[hget,h1];rintro rfl;rw[hl]at h1;cases h1
  ·intro b' hb' hn;refine hget b' ?_;rintro rfl;exact hn ⟨k,_,hk,hm⟩
 have hal:∀k' y b',lk ((k,some (Blk.loop d st' pe' sl))::s.hp) k'=some y->m k'=some b'->aW s.hp m b'\/w.heap.size<=b':=by
  intro k' y b' hy hb';obtain⟨z,hz⟩:=hlk k' y hy;exact .inl ⟨k',z,hz,hb'⟩
 refine h.update hf (fun t y k' b' _ _ hb'=>hb') hal (fun k' y _ hy=>⟨hlk k' y hy,rfl⟩) ⟨?_,?_,?_⟩
 ·intro k' y hy
  by_cases e:k'=k
  ·subst e;rw[aD,agz rfl]at hy;cases hy;have hb:=h.heap.blk k' _ hk;rw[hm]at hb ⊢;cases hb with
   |loop hw h1 h2 h3 h4 h5 hn hr =>
    rw[hl]at hw;cases hw
    exact .loop (World.putObj_heap_same hlt) rfl rfl h3 h4 h5 hn (fun t x hx=>⟨(hr t x hx).1,(hr t x hx).2.mono (fg hf hal) hf.sz (fun _ _ _ h=>h)⟩)
  ·rw[aD,agy e]at hy;refine BlkRep.mono (fg hf hal) hf.sz (fun k'' b' _ hb'=>hb') rfl ?_ (h.heap.blk k' y hy);intro b' hb';refine hget b' ?_;rintro rfl;exact e (h.heap.inj k' k y _ b' hy hk hb' hm)
 ·intro k1 k2 y1 y2 b' h1 h2 hb1 hb2;obtain⟨z1,hz1⟩:=hlk k1 y1 h1;obtain⟨z2,hz2⟩:=hlk k2 y2 h2;exact h.heap.inj k1 k2 z1 z2 b' hz1 hz2 hb1 hb2
 ·intro k' y b' hy hb';obtain⟨z,hz⟩:=hlk k' y hy;have:=h.heap.sep k' z b' hz hb';exact⟨this.1,af3 this.2 hf.size⟩
def wh:List Tmp->List AV->bE->bE
  |p::ps,x::xs,sl=>wh ps xs ((p,some x)::sl)
  |_,_,sl=>sl
theorem RelM.params{C:Ctx}{m:Nat->Option Nat}{w:ahc}{hp:Hp}:∀(ps:List Tmp)(xs:List AV)(vs:List ag9)(sl:bE)(a:Act),RelM C ⟨sl,hp⟩ m a w->vs.length=xs.length->(∀p∈ps,p<C.nt) ->
  (∀(j:Nat) v x,vs[j]?=some v->xs[j]?=some x->Rep (Im C.ext hp m w) (Sz w) m v x) ->
  RelM C ⟨wh ps xs sl,hp⟩ m { a with tmps:=(ps.zip vs).foldl (fun t (p,v)=>t.setIfInBounds p v) a.tmps } w
 |[],_,_,sl,a,h,_,_,_=>by simpa[wh]using h
 |p::ps,[],[],sl,a,h,_,_,_=>by simpa[wh]using h
 |p::ps,x::xs,v::vs,sl,a,h,hl,hp,hr=>by
  have h1:=h.put p v (some x) (fun y hy=>by cases hy;exact⟨af3 (hp p (by simp)) h.nt,hr 0 v x rfl rfl⟩);exact RelM.params ps xs vs _ _ h1 (by simpa using hl) (fun q hq=>hp q (by simp[hq])) (fun j v' x' hv hx=>hr (j+1) v' x' hv hx)
def W6(k:Nat)(d:LpD)(r:AV)(H':Hp):Exit->AS->Prop
  | .normal,s=>∃pe sl,lk s.hp k=some (.loop d .busy pe sl)/\aE ⟨s.sl,(k,some (.loop d .ready none sl))::s.hp⟩ (.v (.bool true)) r H'
  | .ret,s=>∃pe sl,lk s.hp k=some (.loop d .busy pe sl)/\aE ⟨s.sl,(k,some (.loop d .done (some .ret) sl))::s.hp⟩ (.v (.bool false)) r H'
  |_,_=>False
def Oc(P:ahb)(k:Nat)(d:LpD)(r:AV)(H':Hp)(e:Exit)(s:AS):Prop :=
  e=.normal/\∃pe sl,lk s.hp k=some (.loop d .ready pe sl)/\br P d.nt d.body (W6 k d r H') ⟨s.sl,(k,some (.loop d .busy pe sl))::s.hp⟩
theorem RelM.loopAt{C:Ctx}{m:Nat->Option Nat}{a:Act}{w:ahc}(h:RelM C s m a w){k l:Nat}{d:LpD}{st:LoopState}{pe:Option Code}{sl:bE}
  (hk:lk s.hp k=some (.loop d st pe sl)) (hm:m k=some l):∃r:Loop,w.heap[l]?=some (.loop r)/\r.state=st/\r.pending=pe:=by
 have hb:=h.heap.blk k _ hk;rw[hm]at hb;cases hb with
 |loop hw h1 h2=>exact⟨_,hw,h1,h2⟩
theorem Tu{k:Nat}{d:LpD}{xs:List AV}{H:Hp}{r:AV}{H':Hp}{sl:bE}(hH:∀k z,lk H k=some z->1000<=k)(hk:lk H k=some (.loop d .ready none sl))
  (hl:xs.length=d.params.size) (hps:∀p∈d.params.toList,p<d.nt) (h:br P d.nt d.assign (Oc P k d r H') ⟨wh d.params.toList xs sl,H⟩):xu P k xs H r H':=by
 intro ext m w vs hext hheap hvs hrep;have hs:vs.size=xs.length+1:=hvs;have h0:vs[0]?=some vs[0]:=ae4 oz;have hy:=hrep 0 _ _ h0 rfl;generalize vs[0]=v0 at h0 hy;cases hy with
 | @yl _ _ l hm =>
  have hb:=hheap.blk k _ hk;rw[hm]at hb;cases hb with
  | @loop _ r0 _ _ _ _ hw h1 h2 h3 h4 h5 hn hr =>
   have hk1000:=hH k _ hk
   let C:Ctx:=⟨w,ext,aW H m,m,d.nt,hext,some l⟩
   have hr0:RelM C ⟨sl,H⟩ m { tmps:=r0.tmps,defers:=[] } w :=
    ⟨fun t x hx=>hr t x hx,hheap,Frame.refl _ _,fun k x b h1 h2=>.inl ⟨k,x,h1,h2⟩,fun _ _ _ _=>rfl,sL.nil _ _,hn⟩
   have hargs:((vs.toList.drop 1).toArray).size=r0.params.size:=by rw[h3];simp;omega
   have hr1:=hr0.params d.params.toList xs (vs.toList.drop 1) sl _ (by simp;omega) hps (fun j v x hv hx=>hrep (j+1) v x (by simpa[acu]using hv) (by simpa using hx))
   have e1:(r0.params.zip (vs.toList.drop 1).toArray).foldl (fun tmps (t,a)=>tmps.setIfInBounds t a) r0.tmps=(d.params.toList.zip (vs.toList.drop 1)).foldl (fun t (p,v)=>t.setIfInBounds p v) r0.tmps:=by
    rw[h3,<- Array.foldl_toList,Array.toList_zip]
   refine⟨l,r0.fn,_,r0.assign,r0.body,h0,run_yield hw hargs,fun ro n=>roundIn_of_wpIn (F:=Fw ro) trivial ?_⟩;rw[e1,h4,h5];refine wpIn_mono (h C m _ w n rfl hr1) ?_;rintro e a1 w1 ⟨s1,m1,⟨rfl,pe1,sl1,hk1,hbody⟩,hr1'⟩;have hm1:m1 k=some l:=(hr1'.keep k _ hk1000 hk1).trans hm;obtain⟨r1,hw1,hst1,hpe1⟩:=hr1'.loopAt hk1 hm1;have hr2:=hr1'.setLoop hk1 hm1 hw1 .busy pe1;refine⟨_,run_beginRound hw1 hst1,?_⟩;have e2:({ r1 with state:=.busy }:Loop)={ r1 with state:=.busy,pending:=pe1 }:=by rw[<- hpe1]
   rw[e2];refine wpIn_mono (hbody C m1 a1 _ n rfl hr2) ?_;rintro e a3 w3 ⟨s3,m3,hq,hr3⟩
   have fin:∀(jump:Option Code)(pe:Option Code)(sl3:bE),lk s3.hp k=some (.loop d .busy pe sl3) ->
     aE ⟨s3.sl,(k,some (.loop d (if jump.isNone then .ready else .done) jump sl3))::s3.hp⟩ (.v (.bool jump.isNone)) r H' ->
     ∃v w',(Instr.endRound l jump).run P w3=.ok v w'/\∃v' m',Ending.returned v=.returned v'/\Frame (aW H m) w w'/\HeapRel ext H' m' w' /\
      (∀k x b,lk H' k=some x->m' k=some b->aW H m b\/w.heap.size<=b)/\(∀k x y,lk H k=some x->lk H' k=some y->m' k=m k)/\Rep (Im ext H' m' w') (Sz w') m' v' r:=by
    intro jump pe sl3 hk3 hfin;have hm3:m3 k=some l:=(hr3.keep k _ hk1000 hk3).trans hm;obtain⟨r3,hw3,hst3,hpe3⟩:=hr3.loopAt hk3 hm3;have hr4:=hr3.setLoop hk3 hm3 hw3 (if jump.isNone then .ready else .done) jump;obtain⟨m'',g3,g4,g5,g6⟩:=hfin ext m3 _ _ hr4.heap (fun b hb=>hr4.ext_lt hb) (.v (.bool jump.isNone));refine⟨_,_,run_endRound jump hw3,_,m'',rfl,hr4.frame,g3,?_,?_,g6⟩
    ·intro k' z b hk' hb';obtain⟨k2,z2,hk2,hb2⟩:=g4 k' z b hk' hb';exact hr4.new k2 z2 b hk2 hb2
    ·intro k' z y hk' hy';obtain⟨⟨y',hy2⟩,h8⟩:=g5 k' y (hH k' z hk') hy';rw[h8];exact hr4.keep k' y' (hH k' z hk') hy2
   cases e with
   |normal =>
    obtain⟨pe,sl3,hk3,hfin⟩:=hq;exact fin none pe sl3 hk3 hfin
   |ret =>
    obtain⟨pe,sl3,hk3,hfin⟩:=hq;exact fin (some .ret) pe sl3 hk3 hfin
   |_=>exact hq.elim
theorem Cn{x y:Code}(h:br P N x (fun e s=>match e with | .normal=>kf P N y Q s |e=>Q e s) s):kf P N (.seq x y) Q s:=by
 intro C m a w n hro hN hr;refine wpIn_seq (wpIn_mono (h C m a w n hN hr) ?_);rintro e a' w' ⟨s',m',hq,hr'⟩;cases e with
 |normal=>exact hq C m' a' w' n hro hN hr'
 |_=>exact⟨s',m',hq,hr'⟩
theorem Qh{x y:Code}(h:kf P N x (fun e s=>match e with | .normal=>kf P N y Q s |e=>Q e s) s):kf P N (.seq x y) Q s:=by
 intro C m a w n hro hN hr;refine wpIn_seq (wpIn_mono (h C m a w n hro hN hr) ?_);rintro e a' w' ⟨s',m',hq,hr'⟩;cases e with
 |normal=>exact hq C m' a' w' n hro hN hr'
 |_=>exact⟨s',m',hq,hr'⟩
theorem VP{id:Nat}{c:Code}(h:kf P N c (zJ id (Q .normal) Q) s):kf P N (.block id c) Q s:=by
 intro C m a w n hro hN hr;refine wpIn_block (wpIn_mono (h C m a w n hro hN hr) ?_);rintro e a' w' ⟨s',m',hq,hr'⟩;cases e with
 |exit id' =>
  simp only[Exit.inBlock];simp only[zJ]at hq;split at hq
  ·rename_i hb;rw[agz (afo hb)];exact⟨s',m',hq,hr'⟩
  ·rename_i hb;rw[agy (acw hb)];exact⟨s',m',hq,hr'⟩
 |_=>exact⟨s',m',hq,hr'⟩
theorem RelM.mark{C:Ctx}{m:Nat->Option Nat}{a:Act}{w:ahc}(hr:RelM C s m a w) :
  RelM C s m { a with defers:=tc w.heap.size::a.defers } { w with heap:=w.heap.push (.deferred (some [])) }:=by
 have hf:=Ca (aW s.hp m) w (.deferred (some []));have hal:∀k' y b',lk s.hp k'=some y->m k'=some b'->aW s.hp m b'\/w.heap.size<=b':=fun k' y b' h1 h2=>.inl ⟨k',y,h1,h2⟩
 have hr1:RelM C s m a { w with heap:=w.heap.push (.deferred (some [])) }:=by
  refine hr.update hf (fun t y k' b' _ _ hb'=>hb') hal (fun k' y _ hy=>⟨⟨y,hy⟩,rfl⟩) ⟨?_,hr.heap.inj,?_⟩
  ·intro k y hk;refine BlkRep.mono (fg hf hal) hf.sz (fun _ _ _ h=>h) rfl ?_ (hr.heap.blk k y hk);intro b hb;have:=(hr.heap.sep k y b hk hb).2;show(w.heap.push _)[b]?=_;rw[afb,agy oz]
  ·intro k y b hk hb;have:=hr.heap.sep k y b hk hb;refine⟨this.1,?_⟩;have:=this.2;simp;omega
 refine⟨hr1.slots,hr1.heap,hr1.frame,hr1.new,hr1.keep,?_,hr1.nt⟩;obtain⟨Ds,e,hn,hD⟩:=hr.defers;have hnew:(w.heap.push (.deferred (some [])))[w.heap.size]?=some (Obj.deferred (some [])):=by simp
 refine⟨w.heap.size::Ds,by simp[e],List.nodup_cons.2 ⟨fun hm=>?_,hn⟩,?_⟩
 ·have:=hr.heap.lt (hD _ hm).2;omega
 ·intro D hm;rcases agd.1 hm with rfl |hm
  ·exact⟨hr.frame.size,hnew⟩
  ·obtain⟨h1,h2⟩:=hD D hm;refine⟨h1,?_⟩;have:=hr.heap.lt h2;show(w.heap.push _)[D]?=_;rw[afb,agy oz];exact h2
theorem FI{g:ag8}{ps:Array Tmp}{assign body:Code}{f:FuncId}{caps:List AV}{k:Nat}{H H':Hp}{r:AV}{st:LoopState}{pe:Option Code}{sl0 sl':bE}
  (hg:Ev s g (.fn f caps)) (hsl:∀t x,lk sl0 t=some x->s.get t=some x) (hnk:(ED sl0).contains k=false) (hfr:s.freshB k=true) (hcon:Con P f (.yl k::caps) H r H')
  (hH:∀k' z,lk H k'=some z->lk ((k,some (.loop ⟨ps,assign,body,N⟩ .ready none sl0))::s.hp) k'=some z) (hok:fA s H H' r=true)
  (hkH:io H k=true) (hnew:(H'.all fun p=>io H p.1)=true) (hend:lk H' k=some (.loop ⟨ps,assign,body,N⟩ st pe sl')) (hst:st≠.busy)
  (hpe:pe=none/\Q .normal ⟨s.sl,(k,none)::(H'++cq H++s.hp)⟩\/pe=some .ret/\Q .ret ⟨s.sl,(k,none)::(H'++cq H++s.hp)⟩) :
  kf P N (.rangeFunc g ps assign body) Q s:=by
 intro C m a w n hro hN hr;rw[hro];simp only[fA,afp,afy]at hok hnew;obtain⟨hok1,hok2⟩:=hok;have hgr:=hg.rep hr;generalize hev:a.eval g=u at hgr;cases hgr with
 | @fn _ _ cvs _ hn' hrr =>
  refine wpIn_rangeFunc (F:=Fw none) fun fn _=>?_
  have hfresh:=AS.fresh_of hfr;have hr1:=hr.mark
  have hnm:¬(Blk.loop ⟨ps,assign,body,N⟩ .ready none sl0).Names k:=by
   rintro⟨t,x,hx,hn⟩;have h9:k∈ED sl0:=List.mem_flatMap.2 ⟨_,hx,hn.mem⟩;have h8:=List.elem_eq_true_of_mem h9;rw[List.contains]at hnk;rw[hnk]at h8;cases h8
  have hr2:=hr1.alloc (k:=k) hfresh (.loop { state:=.ready,pending:=none,fn,tmps:=a.tmps,params:=ps,assign,body,defers:=w.heap.size }) (.loop ⟨ps,assign,body,N⟩ .ready none sl0) hnm
   (fun g' S' m' w' h1 h2 h3 h4=>.loop h4 rfl rfl rfl rfl rfl (by have:=hr.nt; rw[hN] at this; exact this) (fun t x hx=>by
    obtain⟨g1,g2⟩:=hr1.slots t x (hsl t x hx);exact⟨g1,g2.mono h1 h2 (fun k' b hk hb=>h3 k' b (fun e=>hfresh.2.2.1 t x (hsl t x hx) (e▸hk)) hb)⟩))
  have hsz1:(w.heap.push (Obj.deferred (some []))).size=w.heap.size+1:=by simp
  have hsz:∀k',k'=k->(if k'=k then some (w.heap.push (Obj.deferred (some []))).size else m k')=some (w.heap.size+1):=fun k' e=>by rw[agz e,hsz1]
  have hc:=hr2.called (run:=Calls P f) (fun _ _ _ _ h h'=>Calls.mono h h') hcon.ret (vs:=#[Value.func (.yield (w.heap.size+1)) #[] #[]]++cvs) (by simp[hn']; omega) (by
    intro j v x hv hx;cases j with
    |zero =>
     cases hx;rw[ae8,agz (by show 0<1;omega)]at hv;cases hv;exact .yl (hsz k rfl)
    |succ j =>
     rw[ae8,agy (by show ¬j+1<1;omega)]at hv;have h9:cvs[j]?=some v:=hv;have hx':caps[j]?=some x:=hx;have hev':({ a with defers:=tc w.heap.size::a.defers }:Act).eval g=.func (.func f) #[] cvs:=by cases g <;> exact hev
     have hag2:fT s ⟨s.sl,(k,some (.loop ⟨ps,assign,body,N⟩ .ready none sl0))::s.hp⟩ ⟨none,[],aj g,[]⟩:=⟨fun _ _=>rfl,fun k hk=>by cases hk⟩
     have h8:=(hg.agree hag2 (fun _ h=>h)).rep hr2;rw[hev']at h8;cases h8 with
     |fn hn2 hrr2=>exact hrr2 j v x h9 hx')
   hH (by
    intro k' z hz;have:=hnew _ (nI hz);exact .inl (ia.1 this)) (by
    intro k' hk';obtain⟨p,hp,rfl⟩:=ac6.1 hk';exact hok1 p hp) hok2
  let W2:=(w.alloc (.deferred (some []))).alloc (.loop { state:=.ready,pending:=none,fn,tmps:=a.tmps,params:=ps,assign,body,defers:=w.heap.size })
  refine⟨w.heap.size+1,[tc w.heap.size],W2,{ target:=.fn (.func f) cvs,args:=#[.func (.yield (w.heap.size+1)) #[] #[]] },W2,f,
   #[Value.func (.yield (w.heap.size+1)) #[] #[]]++cvs,W2,run_enterLoop_outer fn a.tmps ps assign body,?_,fun _ _=>trivial,?_,(fun h=>by cases h),(callsIn_wide (n:=n-1)).2 (Calls.mono hc ?_)⟩
  ·simp only[resolve,hev];simp[go_sem]
  ·simp[invoke,go_sem,hcon.ok _ _]
  ·rintro e w' ⟨v,m'',rfl,hr3,_,hkk⟩;obtain⟨y,hy⟩:=ia.1 hkH;have hm:m'' k=some (w.heap.size+1):=(hkk k y _ hy hend).trans (hsz k rfl)
   have hlk3:lk (H'++cq H++(k,some (Blk.loop ⟨ps,assign,body,N⟩ .ready none sl0))::s.hp) k=some (.loop ⟨ps,assign,body,N⟩ st pe sl'):=by
    rw[agx,ke,agz (jD hend)];exact hend
   obtain⟨r3,hw3,hst3,hpe3⟩:=hr3.loopAt hlk3 hm
   have hr4:=(hr3.setLoop hlk3 hm hw3 .exhausted pe).fewer (hp':=(k,none)::(H'++cq H++s.hp)) (by
    intro k' z hz;rw[aD]at hz;split at hz
    ·cases hz
    ·rename_i hne;rw[aD,agy hne];rw[agx,ke]at hz ⊢;split at hz
     ·rename_i h1;rw[agz h1];exact hz
     ·rename_i h1;rw[agy h1]
      rw[ke]at hz ⊢;split at hz
      ·rename_i h2;rw[agz h2];exact hz
      ·rename_i h2;rw[agy h2,aD,agy hne];exact hz)
   have hrun:=run_endLoop (P:=P) hw3 (by rw[hst3];exact hst);rw[hpe3]at hrun;refine⟨pe,_,hrun,?_⟩;rcases hpe with⟨rfl,hq⟩ |⟨rfl,hq⟩
   ·exact⟨_,m'',hq,hr4⟩
   ·exact wpIn_ret ⟨_,m'',hq,hr4⟩
theorem MV{f:FuncId}{caps:List AV}(hnm:(caps.all fun x=>x.nm.isEmpty)=true):Sub (.fn f caps) (.cl f [] caps):=by
 intro g S m v h;cases h with
 |fn hn hr =>
  exact .cl rfl (fun j u c hu hc=>by simp at hc) hn (fun j u c hu hc=>(hr j u c hu hc).mono (fun _ _ h=>h) (fun _ _ h=>h) (fun k b hk=>by
   have h1:=afy.1 hnm c (afl hc);have h2:=hk.mem;simp only[List.isEmpty_iff]at h1;rw[h1]at h2;cases h2))
theorem abh{ρ:ag8->ag9}{o:Oper}{g:ag8}{f:FuncId}{pre caps:Array ag9}{args:Array ag8}{ts:Array aha}{w:ahc}{vs:Array ag9}(ho:o.op=.call ⟨.value g,args,ts⟩)
  (hρ:ρ g=.func (.func f) pre caps) (hok:wc P f) (hvs:pre++args.map ρ++caps=vs):(execOp ρ o).run P w=.ok (.enter f vs) w:=by
 subst hvs;have:=hok (pre++args.map ρ++caps) w;rw[Array.append_assoc]at this;obtain⟨dst,op,type,pos,after,guard⟩:=o;subst ho;simp[execOp,resolve,hρ,Deferred.ofValue,invoke,this]
theorem IL{d:Nat}{g:ag8}{f:FuncId}{pre caps:List AV}{args:Array ag8}{ts:Array aha}{xs:List AV}{H H':Hp}{r:AV}{t:aha}
  (hg:Ev s g (.cl f pre caps)) (hcon:Con P f (pre++xs++caps) H r H') (ha:EvL s args.toList xs) (hH:∀k z,lk H k=some z->s.blk k=some z) (hok:fA s H H' r=true) (hN:acm d N=true) :
  Step P N R s ⟨some d,.call ⟨.value g,args,ts⟩,t,pos,after,none⟩ ⟨some r,H'++cq H,aj g++cQ args.toList,H.map (·.1)⟩:=by
 refine uU rfl (fun d' h=>by cases h;exact⟨hN,rfl⟩) hcon hH hok fun s' hag C m a w hr=>?_
 have hag':fT s s' ⟨none,[],aj g++cQ args.toList,[]⟩:=⟨hag,fun k hk=>by cases hk⟩
 have ha':=ha.agree hag' (fun _ h=>aft.2 (.inr h));have hgr:=(hg.agree hag' (fun _ h=>aft.2 (.inl h))).rep hr;generalize hv:a.eval g=u at hgr;cases hgr with
 | @cl _ _ pvs cvs _ _ hn hrr hn' hrr' =>
  have hl:=ha'.length;simp only[ae3]at hl;refine⟨pvs++args.map a.eval++cvs,abh rfl hv hcon.ok rfl,by simp[hn,hn',hl],?_⟩;intro j v x hv' hx;rw[ae8]at hv';rw[List.getElem?_append]at hx;simp only[aff,Array.size_map,agf,hn,hl]at hv' hx;split at hv'
  ·rename_i h1;rw[agz h1]at hx;rw[ae8]at hv';rw[List.getElem?_append]at hx;split at hv'
   ·rename_i h2;rw[agz oz]at hx;exact(hrr j v x hv' hx).mono (fun _ _ h=>h) (fun _ _ h=>h) (fun k b _ h=>by cases h)
   ·rename_i h2;rw[agy oz]at hx;rw[hn]at hv';exact ha'.rep hr _ v x (by simpa using hv') hx
  ·rename_i h1;rw[agy h1]at hx;exact(hrr' _ v x hv' hx).mono (fun _ _ h=>h) (fun _ _ h=>h) (fun k b _ h=>by cases h)
end Go.Lw
namespace Go.Lw
variable{P:ahb}{N:Nat}{Q:Exit->AS->Prop}
def yh(s:AS)(g:Nat)(want:Bool):Option (Prop×Bool):=match s.get g with
  |some x=>match x with
    | .v (.bool b)=>some (b=want,b==want)
    | .opt c (.v (.bool b))=>some (c=true/\b=want,c&&b==want)
    |_=>none
  |none=>none
inductive Want where
  |ar (op:BinOp) (k:IntKind) (a b:Int)
  |cv (k:IntKind) (n:Int)
  |ln (es:List AV)
  |ix (es:List AV) (i:Int)
  |cl (f:FuncId) (xs:List AV)
def uB(P:ahb)(w:Want)(x:AV):Prop:=match w with
  | .ar op k a b=>∃n,k.wrap (fy op a b)=n/\x=.v (.int k n)
  | .cv k n=>∃m,k.wrap n=m/\x=.v (.int k m)
  | .ln es=>∃n:Nat,es.length=n/\x=.v (.int .i64 n)
  | .ix es i=>0<=i/\∃e,es[i.toNat]?=some e/\x=.iptr e.cells
  | .cl f xs=>je P f xs x/\x.nm=[]
inductive Fr where
  |seq (c:Code)
  |blk (id:Nat)
  |lp (K:AS->Prop)
def cS(P:ahb)(N:Nat)(Q:Exit->AS->Prop):List Fr->Exit->AS->Prop
  |[],e,s=>Q e s
  | .seq c::k,e,s=>match e with
    | .normal=>br P N c (cS P N Q k) s
    |e=>cS P N Q k e s
  | .blk id::k,e,s=>match e with
    | .exit id'=>match ab3 id' id with
      |true=>cS P N Q k .normal s
      |false=>cS P N Q k (.exit id') s
    |e=>cS P N Q k e s
  | .lp K::k,e,s=>match e with
    | .normal=>K s
    |e=>cS P N Q k e s
inductive Cf where
  |code (c:Code) (k:List Fr) (s:AS)
  |ops (id i:Nat) (R:List Oper) (draw:Bool) (s0:AS) (ops:List Oper) (us:List Out) (k:List Fr) (s:AS)
  |ap (o:Oper) (u:Out) (id i:Nat) (R:List Oper) (draw:Bool) (s0:AS) (ops:List Oper) (us:List Out) (k:List Fr) (s:AS)
  |ex (e:Exit) (k:List Fr) (s:AS)
  |st (w:Want) (rt:List Nat) (o:Oper) (id i:Nat) (R:List Oper) (draw:Bool) (s0:AS) (ops:List Oper) (us:List Out) (k:List Fr) (s:AS)
  |sg (G:Prop) (b:Bool) (w:Want) (rt:List Nat) (o:Oper) (id i:Nat) (R:List Oper) (draw:Bool) (s0:AS) (ops:List Oper) (us:List Out) (k:List Fr) (s:AS)
def Gd(P:ahb)(N:Nat)(Q:Exit->AS->Prop):Cf->Prop
  | .code c k s=>br P N c (cS P N Q k) s
  | .ops _ _ R draw s0 ops us k s=>gB P N R.toArray ops s us (fun s' us'=>(draw=true->chk R us' s0=true)/\cS P N Q k .normal s')
  | .ap o u _ _ R draw s0 ops us k s=>gB P N R.toArray ops (s.app o.dst u) (us++[u]) (fun s' us'=>(draw=true->chk R us' s0=true)/\cS P N Q k .normal s')
  | .ex e k s=>cS P N Q k e s
  | .st w rt o _ _ R draw s0 ops us k s=>(∀x,uB P w x->Step P N R.toArray s o ⟨some x,[],rt,[]⟩)->gB P N R.toArray (o::ops) s us (fun s' us'=>(draw=true->chk R us' s0=true)/\cS P N Q k .normal s')
  | .sg G b w rt o _ _ R draw s0 ops us k s=>(∀x,(G->uB P w x)->Step P N R.toArray s o ⟨some (.opt b x),[],rt,[]⟩)->gB P N R.toArray (o::ops) s us (fun s' us'=>(draw=true->chk R us' s0=true)/\cS P N Q k .normal s')
theorem Uj{x y:Code}{k:List Fr}{s:AS}(h:br P N x (cS P N Q (.seq y::k)) s):br P N (.seq x y) (cS P N Q k) s :=
 Fq fun K hK=>ig h fun e s he=>by
  cases e with
  |normal=>exact hK s he
  |_=>exact he
theorem Sw{id:Nat}{c:Code}{k:List Fr}{s:AS}(h:br P N c (cS P N Q (.blk id::k)) s):br P N (.block id c) (cS P N Q k) s :=
 Mu (ig h fun e s he=>by
  cases e with
  |exit id' =>
   show match ab3 id' id with |true=>_ |false=>_
   simp only[cS]at he;split at he
   ·exact he
   ·exact he
  |_=>exact he)
theorem yD{R:Array Oper}{K K':AS->List Out->Prop}(hk:∀s us,K s us->K' s us):∀{ops:List Oper}{s:AS}{us:List Out},gB P N R ops s us K->gB P N R ops s us K'
 |[],s,us,h=>hk s us h
 |_::_,s,us,⟨u,h1,h2,h3⟩=>⟨u,h1,h2,yD hk h3⟩
def tN:List Oper->Bool
  |[]=>true
  |o::l=>match o.op with
    | .defer _=>false
    |_=>tN l
theorem BY:∀{l:List Oper},tN l=true->l.all nd=true
 |[],_=>rfl
 |o::l,h=>by
  unfold tN at h;simp only[List.all_cons,afp];split at h
  ·cases h
  ·rename_i hd;refine⟨?_,BY h⟩;unfold nd;split
   ·rename_i c hc;exact ag5 hc (hd c)
   ·rfl
theorem Fn{id:Nat}{A:Array Oper}{d:Bool}{k:List Fr}{s:AS}(hnd:A.toList.all nd=true)(hd:d=true->P.follows .mixedOrders=true)
  (h:gB P N A.toList.toArray A.toList s [] (fun s' us'=>(d=true->chk A.toList us' s=true)/\cS P N Q k .normal s')):br P N (.region id A d) (cS P N Q k) s:=by
 have e:A=A.toList.toArray:=by simp
 cases d with
 |false =>
  rw[e]
  exact Yk hnd (by
   exact yD (fun s us h=>h.2) h)
 |true =>
  rw[e];exact OI hnd (hd rfl) (yD (fun s us h=>⟨h.1 rfl,h.2⟩) h)
variable[Inhabited (Tys P)]
def zg(P:ahb)[Inhabited (Tys P)](s:AS)(d:Nat):Op->Option (Out×List Prop)
  | .alloc T=>match cg P T with
    |some ti=>match ti.zero.all Value.oneCell' with
      |true=>match g9 (ti.zero.map .v)with
        |some l=>some (⟨some (.ptr d 0),[(d,some (.box l))],[],[]⟩,[])
        |none=>none
      |false=>none
    |none=>none
  | .box _ x=>match dM false True s x with
    |some (v,ob)=>match v.ok with
      |true=>match g9 v.cells with
        |some l=>some (⟨some (.ptr d 0),[(d,some (.box l))],aj x,[]⟩,ob)
        |none=>none
      |false=>none
    |none=>none
  |_=>none
def wA(P:ahb)[Inhabited (Tys P)](s:AS):Op->Option (Out×List Prop)
  | .store T x y=>match dM false True s x with
    |some (.ptr k off,ob)=>match dM false True s y with
      |some (v,ob')=>match s.blk k with
        |some (.box cs)=>match cg P T with
          |some ti=>match v.ok&&ab3 v.cells.length ti.size&&Nat.ble (off+ti.size) cs.length with
            |true=>match g9 (over cs off v.cells)with
              |some l=>some (⟨none,[(k,some (.box l))],aj x++aj y,[k]⟩,ob++ob')
              |none=>none
            |false=>none
          |none=>none
        |_=>none
      |none=>none
    |_=>none
  |_=>none
def yS(s:AS)(r:Out×List Prop):Option (Out×List Prop):=match Au s r.1 with
  |true=>some r
  |false=>none
def z9(P:ahb)[Inhabited (Tys P)](N:Nat)(R:List Oper)(s:AS)(o:Oper):Option (Out×List Prop):=match o.guard with
  |none=>match o.dst with
    |some d=>match acm d N with
      |true=>match uC P false True s o.op with
        |some ⟨x,rt,rd,ob⟩=>some (⟨some x,[],rt,rd⟩,ob)
        |none=>match zg P s d o.op with
          |some r=>yS s r
          |none=>none
      |false=>none
    |none=>match wA P s o.op with
      |some r=>yS s r
      |none=>none
  |some (j,want)=>match R[j]? with
    |some og=>match og.dst with
      |some g=>match o.dst with
        |some d=>match acm d N with
          |true=>match yh s g want with
            |some (G,b)=>match uC P true G s o.op with
              |some ⟨x,rt,rd,ob⟩=>some (⟨some (.opt b x),[],g::rt,rd⟩,ob)
              |none=>none
            |none=>none
          |false=>none
        |none=>none
      |none=>none
    |none=>none
theorem Jg{s:AS}{r r':Out×List Prop}(h:yS s r=some r'):r'=r/\jt s r.1:=by
 unfold yS at h;split at h
 ·rename_i hn;cases h;exact⟨rfl,ua hn⟩
 ·cases h
theorem L5{s:AS}{R:Array Oper}{d:Nat}{op:Op}{t:aha}{pos:String}{after:Array Edge}{r:Out×List Prop}(h:zg P s d op=some r)(ho:AllP r.2)(hN:acm d N=true) :
  Step P N R s ⟨some d,op,t,pos,after,none⟩ r.1:=by
 unfold zg at h;split at h
 ·split at h
  ·rename_i ti hti;split at h
   ·rename_i hz;split at h
    ·rename_i l hl;cases h;cases jn hl;exact ZK (bX hti) hz hN
    ·cases h
   ·cases h
  ·cases h
 ·split at h
  ·rename_i v ob h1;split at h
   ·rename_i hv;split at h
    ·rename_i l hl;cases h;cases jn hl;exact Rw (ef h1 ho trivial) hv hN
    ·cases h
   ·cases h
  ·cases h
 ·cases h
theorem IQ{s:AS}{R:Array Oper}{op:Op}{t:aha}{pos:String}{after:Array Edge}{r:Out×List Prop}(h:wA P s op=some r)(ho:AllP r.2) :
  Step P N R s ⟨none,op,t,pos,after,none⟩ r.1:=by
 unfold wA at h;split at h
 ·split at h
  ·rename_i h1;split at h
   ·rename_i h2;split at h
    ·rename_i hk;split at h
     ·rename_i ti hti;split at h
      ·rename_i hc;simp only[afp]at hc;split at h
       ·rename_i l hl;cases h;cases jn hl
        exact Us (ef h1 ho.app.1 trivial) hk (ef h2 ho.app.2 trivial) hc.1.1 (bX hti) hc.1.2 hc.2
       ·cases h
      ·cases h
     ·cases h
    ·cases h
   ·cases h
  ·cases h
 ·cases h
theorem W1{R:List Oper}{s:AS}{o:Oper}{u:Out}{ob:List Prop}(h:z9 P N R s o=some (u,ob))(ho:AllP ob):Step P N R.toArray s o u/\jt s u:=by
 obtain⟨dst,op,ty,pos,after,guard⟩:=o;unfold z9 at h;simp only at h;split at h
 ·split at h
  ·rename_i d;split at h
   ·rename_i hN;split at h
    ·rename_i h1;cases h;exact⟨wV h1 ho trivial hN,fun k hk=>by simp at hk⟩
    ·split at h
     ·rename_i r h1;obtain⟨h2,h3⟩:=Jg h;subst h2;exact⟨L5 h1 ho hN,h3⟩
     ·cases h
   ·cases h
  ·split at h
   ·rename_i r h1;obtain⟨h2,h3⟩:=Jg h;subst h2;exact⟨IQ h1 ho,h3⟩
   ·cases h
 ·rename_i j want;split at h
  ·rename_i og hog;split at h
   ·rename_i g hg;split at h
    ·rename_i d;split at h
     ·rename_i hN;split at h
      ·rename_i G b hG;split at h
       ·rename_i h1;cases h;have hj:(R.toArray[j]?).bind (·.dst)=some g:=by simp[hog,hg]
        unfold yh at hG;split at hG
        ·rename_i x hx;split at hG
         ·cases hG;exact⟨fc hj hx hN (fun h=>wV h1 ho h hN),fun k hk=>by simp at hk⟩
         ·cases hG;exact⟨ph hj hx hN (fun hc h=>wV h1 ho ⟨hc,h⟩ hN),fun k hk=>by simp at hk⟩
         ·cases hG
        ·cases hG
       ·cases h
      ·cases h
     ·cases h
    ·cases h
   ·cases h
  ·cases h
def Bm:BinOp->Bool
  | .add | .sub | .mul=>true
  |_=>false
theorem Ib:∀{op:BinOp},Bm op=true->(match op with | .add | .sub | .mul=>true |_=>false)=true:=by intro op;cases op <;> intro h <;> first |rfl |cases h
structure R2 where
  w:Want
  rt:List Nat
  ob:List Prop
def xq(P:ahb)[Inhabited (Tys P)](g:Bool)(G:Prop)(s:AS):Op->Option R2
  | .binOp op _ x y _=>match Bm op with
    |true=>match dM g G s x with
      |some (.v (.int k a),ob)=>match dM g G s y with
        |some (.v (.int k' b),ob')=>match ab3 (en k) (en k')with
          |true=>some ⟨.ar op k a b,aj x++aj y,ob++ob'⟩
          |false=>none
        |_=>none
      |_=>none
    |false=>none
  | .convert S T x=>match dM g G s x with
    |some (.v (.int _ n),ob)=>match cg P S with
      |some _=>match cg P T with
        |some ti=>match ti.k with
          | .int k'=>some ⟨.cv k' n,aj x,ob⟩
          |_=>none
        |none=>none
      |none=>none
    |_=>none
  | .indexAddr T x ix=>match dM g G s x with
    |some (.lst sz es,ob)=>match dM g G s ix with
      |some (.v (.int _ i),ob')=>match cg P T with
        |some ti=>match ti.k with
          | .slice E=>match cg P E with
            |some te=>match ab3 te.size sz with
              |true=>some ⟨.ix es i,aj x++aj ix,ob++ob'⟩
              |false=>none
            |none=>none
          |_=>none
        |none=>none
      |_=>none
    |_=>none
  | .call ⟨.builtin .len,args,ts⟩=>match args.toList with
    |[x]=>match ts.toList with
      |[T]=>match dM g G s x with
        |some (.lst _ es,ob)=>match cg P T with
          |some ti=>match ti.k with
            | .slice _=>some ⟨.ln es,aj x,ob⟩
            |_=>none
          |none=>none
        |_=>none
      |_=>none
    |_=>none
  | .call ⟨.value (.func f),args,_⟩=>match nF g G s args.toList with
    |some (xs,ob)=>some ⟨.cl f xs,cQ args.toList,ob⟩
    |none=>none
  | .call ⟨.value (.tmp t),args,_⟩=>match dM g G s (.tmp t)with
    |some (.cl f pre caps,ob)=>match nF g G s args.toList with
      |some (xs,ob')=>some ⟨.cl f (pre++xs++caps),aj (.tmp t)++cQ args.toList,ob++ob'⟩
      |none=>none
    |_=>none
  |_=>none
theorem AY{g:Bool}{G:Prop}{s:AS}{R:Array Oper}{d:Nat}{t:aha}{pos:String}{after:Array Edge}{op:Op}{r:R2}(h:xq P g G s op=some r)(ho:AllP r.ob)(hG:G)(hN:acm d N=true)
  {x:AV} (hm:uB P r.w x):Step P N R s ⟨some d,op,t,pos,after,none⟩ ⟨some x,[],r.rt,[]⟩:=by
 unfold xq at h;split at h
 ·split at h
  ·rename_i hop;split at h
   ·rename_i h1;split at h
    ·rename_i h2;split at h
     ·rename_i hk;cases h;cases mW hk;obtain⟨n,e,rfl⟩:=hm;subst e;exact Iq (ef h1 ho.app.1 hG) (ef h2 ho.app.2 hG) (Ib hop) hN
     ·cases h
    ·cases h
   ·cases h
  ·cases h
 ·split at h
  ·rename_i h1;split at h
   ·rename_i tS hS;split at h
    ·rename_i ti hT;split at h
     ·rename_i k' hk;cases h;obtain⟨m,e,rfl⟩:=hm;subst e;exact M5 (ef h1 ho hG) hN (bX hS) (bX hT) hk
     ·cases h
    ·cases h
   ·cases h
  ·cases h
 ·split at h
  ·rename_i h1;split at h
   ·rename_i h2;split at h
    ·rename_i ti hT;split at h
     ·rename_i E hk;split at h
      ·rename_i te hE;split at h
       ·rename_i hsz;cases h;obtain⟨h0,e,he,rfl⟩:=hm;exact Lc (ef h1 ho.app.1 hG) (ef h2 ho.app.2 hG) (bX hT) hk (bX hE) (afo hsz) h0 he hN
       ·cases h
      ·cases h
     ·cases h
    ·cases h
   ·cases h
  ·cases h
 ·rename_i args ts;split at h
  ·rename_i y hy;split at h
   ·rename_i T hT;have e1:args=#[y]:=by apply ae9.1; simpa using hy
    have e2:ts=#[T]:=by apply ae9.1;simpa using hT
    subst e1;subst e2
    split at h
    ·rename_i h1;split at h
     ·rename_i ti hti;split at h
      ·rename_i e hk;cases h;obtain⟨n,e,rfl⟩:=hm;subst e;exact G8 (ef h1 ho hG) (bX hti) hk hN
      ·cases h
     ·cases h
    ·cases h
   ·cases h
  ·cases h
 ·split at h
  ·rename_i h1;cases h;exact TM hm.1 (ta hG h1 ho) hm.2 hN
  ·cases h
 ·split at h
  ·rename_i h1;split at h
   ·rename_i h2;cases h;exact IL (ef h1 ho.app.1 hG) hm.1 (ta hG h2 ho.app.2) (fun k z h=>by cases h) (by simp[fA,tz,hm.2]) hN
   ·cases h
  ·cases h
 ·cases h
def DF(P:ahb)[Inhabited (Tys P)](N:Nat)(R:List Oper)(s:AS)(o:Oper)(f:Want->List Nat->Cf)(fG:Prop->Bool->Want->List Nat->Cf):Option (Cf×List Prop):=match o.dst with
  |some d=>match acm d N with
    |true=>match o.guard with
      |none=>match xq P false True s o.op with
        |some ⟨w,rt,ob⟩=>some (f w rt,ob)
        |none=>none
      |some (j,want)=>match R[j]? with
        |some og=>match og.dst with
          |some g=>match yh s g want with
            |some (G,b)=>match xq P true G s o.op with
              |some ⟨w,rt,ob⟩=>some (fG G b w (g::rt),ob)
              |none=>none
            |none=>none
          |none=>none
        |none=>none
    |false=>none
  |none=>none
theorem Uh{R:List Oper}{s:AS}{o:Oper}{f:Want->List Nat->Cf}{fG:Prop->Bool->Want->List Nat->Cf}{c:Cf}{ob:List Prop}(h:DF P N R s o f fG=some (c,ob))(ho:AllP ob) :
  (∃w rt,c=f w rt/\∀x,uB P w x->Step P N R.toArray s o ⟨some x,[],rt,[]⟩)\/(∃G b w rt,c=fG G b w rt/\∀x,(G->uB P w x)->Step P N R.toArray s o ⟨some (.opt b x),[],rt,[]⟩):=by
 obtain⟨dst,op,ty,pos,after,guard⟩:=o;unfold DF at h;simp only at h;split at h
 ·rename_i d;split at h
  ·rename_i hN;split at h
   ·split at h
    ·rename_i h1;cases h;exact .inl ⟨_,_,rfl,fun x hm=>AY h1 ho trivial hN hm⟩
    ·cases h
   ·rename_i j want;split at h
    ·rename_i og hog;split at h
     ·rename_i g hg;split at h
      ·rename_i G b hG;split at h
       ·rename_i h1;cases h;have hj:(R.toArray[j]?).bind (·.dst)=some g:=by simp[hog,hg]
        refine .inr ⟨_,_,_,_,rfl,fun x hm=>?_⟩;unfold yh at hG;split at hG
        ·rename_i y hy;split at hG
         ·cases hG;exact fc hj hy hN (fun h=>AY h1 ho h hN (hm h))
         ·cases hG;exact ph hj hy hN (fun hc h=>AY h1 ho ⟨hc,h⟩ hN (hm ⟨hc,h⟩))
         ·cases hG
        ·cases hG
       ·cases h
      ·cases h
     ·cases h
    ·cases h
  ·cases h
 ·cases h
def step(P:ahb)[Inhabited (Tys P)](N:Nat)(st:Nat×Nat):Cf->Option (Cf×List Prop)
  | .code c k s=>match c with
    | .skip=>match ab3 77777 st.1 with
      |true=>none
      |false=>some (.ex .normal k s,[])
    | .ret=>match ab3 77777 st.1 with
      |true=>none
      |false=>some (.ex .ret k s,[])
    | .exit id=>match ab3 77777 st.1 with
      |true=>none
      |false=>some (.ex (.exit id) k s,[])
    | .seq x y=>some (.code x (.seq y::k) s,[])
    | .block id c=>some (.code c (.blk id::k) s,[])
    | .region id A d=>match ab3 id st.1&&ab3 0 st.2 with
      |true=>none
      |false=>match tN A.toList with
        |true=>some (.ops id 0 A.toList d s A.toList [] k s,[])
        |false=>none
    |_=>none
  | .ops id i R d s0 ops us k s=>match ops with
    |[]=>match d with
      |false=>some (.ex .normal k s,[])
      |true=>none
    |o::ops=>match ab3 id st.1&&ab3 (i+1) st.2 with
      |true=>none
      |false=>match z9 P N R s o with
        |some (u,ob)=>some (.ap o u id i R d s0 ops us k s,ob)
        |none=>DF P N R s o (fun w rt=>.st w rt o id i R d s0 ops us k s) (fun G b w rt=>.sg G b w rt o id i R d s0 ops us k s)
  | .ap o u id i R d s0 ops us k s=>match s with
    |⟨sl,hp⟩=>match u with
      |⟨val,upd,rt,rd⟩=>match o.dst with
        |some t=>match upd with
          |[]=>some (.ops id (i+1) R d s0 ops (us++[⟨val,[],rt,rd⟩]) k ⟨(t,val)::sl,hp⟩,[])
          |p::q=>some (.ops id (i+1) R d s0 ops (us++[⟨val,p::q,rt,rd⟩]) k ⟨(t,val)::sl,p::(q++hp)⟩,[])
        |none=>some (.ops id (i+1) R d s0 ops (us++[⟨val,upd,rt,rd⟩]) k ⟨sl,upd++hp⟩,[])
  | .ex e k s=>match k with
    |[]=>none
    | .seq c::k=>match e with
      | .normal=>some (.code c k s,[])
      |e=>some (.ex e k s,[])
    | .blk id::k=>match e with
      | .exit id'=>match ab3 id' id with
        |true=>some (.ex .normal k s,[])
        |false=>some (.ex (.exit id') k s,[])
      |e=>some (.ex e k s,[])
    | .lp _::k=>match e with
      | .normal=>none
      |e=>some (.ex e k s,[])
  | .st ..=>none
  | .sg ..=>none
def run(P:ahb)[Inhabited (Tys P)](N:Nat)(st:Nat×Nat):Nat->Cf->List Prop->Option (Cf×List Prop)
  |0,c,ob=>some (c,ob)
  |n+1,c,ob=>match step P N st c with
    |none=>some (c,ob)
    |some (c',o)=>match o with
      |[]=>run P N st n c' ob
      |p::o=>run P N st n c' (p::(o++ob))
theorem JF{st:Nat×Nat}{c c':Cf}{ob:List Prop}(h:step P N st c=some (c',ob))(ho:AllP ob)(hg:Gd P N Q c'):Gd P N Q c:=by
 unfold step at h;split at h
 ·split at h
  ·split at h
   ·cases h
   ·cases h;exact Jv hg
  ·split at h
   ·cases h
   ·cases h;exact Kh hg
  ·split at h
   ·cases h
   ·cases h;exact HE hg
  ·cases h;exact Uj hg
  ·cases h;exact Sw hg
  ·split at h
   ·cases h
   ·split at h
    ·rename_i hnd;cases h;exact Fn (BY hnd) (fun _=>(default:Tys P).mix) hg
    ·cases h
  ·cases h
 ·split at h
  ·split at h
   ·cases h;simpa[Gd,gB]using hg
   ·cases h
  ·split at h
   ·cases h
   ·split at h
    ·rename_i h1;cases h;obtain⟨h2,h3⟩:=W1 h1 ho;exact⟨_,h2,h3,hg⟩
    ·rcases Uh h ho with⟨w,rt,rfl,h2⟩ |⟨G,b,w,rt,rfl,h2⟩
     ·exact hg h2
     ·exact hg h2
 ·rename_i o u id i R d s0 ops us k s;obtain⟨sl,hp⟩:=s;obtain⟨val,upd,rt,rd⟩:=u;obtain⟨dst,op,ty,pos,after,guard⟩:=o;cases dst with
  |none=>cases h;exact hg
  |some t =>
   cases upd with
   |nil=>cases h;exact hg
   |cons p q=>cases h;exact hg
 ·rename_i e k s;cases k with
  |nil=>cases h
  |cons f k =>
   cases f with
   |seq c=>cases e <;> cases h <;> exact hg
   |blk id =>
    cases e with
    |exit id' =>
     show cS P N Q (.blk id::k) (.exit id') s;simp only[cS];simp only at h;split at h
     ·cases h;exact hg
     ·cases h;exact hg
    |_=>cases h;exact hg
   |lp K=>cases e <;> cases h <;> exact hg
 ·cases h
 ·cases h
theorem cr{st:Nat×Nat}:∀{n:Nat}{c c':Cf}{ob ob':List Prop},run P N st n c ob=some (c',ob')->AllP ob'->Gd P N Q c'->Gd P N Q c/\AllP ob
 |0,c,c',ob,ob',h,ho,hg=>by cases h;exact⟨hg,ho⟩
 |n+1,c,c',ob,ob',h,ho,hg=>by
  unfold run at h;split at h
  ·cases h;exact⟨hg,ho⟩
  ·rename_i c2 o h1;split at h
   ·obtain⟨h2,h3⟩:=cr h ho hg;exact⟨JF h1 .nil h2,h3⟩
   ·rename_i p o;obtain⟨h2,h3⟩:=cr h ho hg;cases h3 with |cons h4 h5=>exact⟨JF h1 (.cons h4 h5.app.1) h2,h5.app.2⟩
end Go.Lw
namespace Go.Lw
variable{P:ahb}{N:Nat}{Q:Exit->AS->Prop}
theorem bj{a b:bE}(h:SlW a b:=by repeat(first |exact SlW.nil |refine SlW.k ?_)):SlW a b:=h
theorem Wk.o {s:AS} {sl:bE} {hp:Hp} (h1:SlW s.sl sl:=by exact bj)
  (h2:HpW s.hp hp:=by repeat(first |exact HpW.nil |refine HpW.cons rfl (.refl _) ?_)):Wk s ⟨sl,hp⟩:=Wk.of h1 h2
def lw:Nat->List Fr->Option (List Fr×Code×List Fr)
  |0,.seq y::k=>some ([],y,k)
  |n+1,f::k=>match lw n k with
    |some (a,y,b)=>some (f::a,y,b)
    |none=>none
  |_,_=>none
theorem uP:∀{n:Nat}{k k1 k2:List Fr}{y:Code},lw n k=some (k1,y,k2)->k=k1++.seq y::k2
 |0,[],_,_,_,h=>by simp[lw]at h
 |0,f::k,k1,k2,y,h=>by cases f <;> simp[lw]at h;obtain⟨rfl,rfl,rfl⟩:=h;rfl
 |n+1,[],_,_,_,h=>by simp[lw]at h
 |n+1,f::k,k1,k2,y,h=>by
  simp only[lw]at h;split at h
  ·rename_i h1;cases h;rw[uP h1];rfl
  ·cases h
theorem lC{k2:List Fr}{y:Code}{K:AS->Prop}(hK:∀s,K s->br P N y (cS P N Q k2) s) :
  ∀(k1:List Fr)(e:Exit)(s:AS),cS P N Q (k1++.lp K::k2) e s->cS P N Q (k1++.seq y::k2) e s
 |[],e,s,h=>by cases e <;> first |exact hK s h |exact h
 | .seq c::k1,e,s,h=>by
  cases e with
  |normal=>exact ig (h:br P N c _ s) (fun e s=>lC hK k1 e s)
  |_=>exact lC hK k1 _ s h
 | .blk id::k1,e,s,h=>by
  cases e with
  |exit id' =>
   simp only[cons_append,cS]at h ⊢;split at h
   ·exact lC hK k1 _ s h
   ·exact lC hK k1 _ s h
  |_=>exact lC hK k1 _ s h
 | .lp K'::k1,e,s,h=>by
  cases e with
  |normal=>exact h
  |_=>exact lC hK k1 _ s h
def se:Nat->List AV->Option bE
  |_,[]=>some []
  |n,x::xs=>match se (n+1) xs with
    |some l=>some ((n,some x)::l)
    |none=>none
theorem zI:∀{xs:List AV}{n:Nat}{l:bE},se n xs=some l->l=mO n xs
 |[],n,l,h=>by cases h;rfl
 |x::xs,n,l,h=>by
  unfold se at h;split at h
  ·rename_i h1;cases h;rw[zI h1];rfl
  ·cases h
def pk{α:Type}(l:List (Nat×Option α)):List Nat->Option (List (Nat×Option α))
  |[]=>some []
  |t::ts=>match lk l t with
    |some x=>match pk l ts with
      |some r=>some ((t,some x)::r)
      |none=>none
    |none=>none
theorem E5{sl:bE}:∀{ts:List Nat}{r:bE},pk sl ts=some r->SlW sl r
 |[],r,h=>by cases h;exact .nil
 |t::ts,r,h=>by
  unfold pk at h;split at h
  ·rename_i h1;split at h
   ·rename_i h2;cases h;exact .cons h1 (.refl _) (E5 h2)
   ·cases h
  ·cases h
theorem FW{hp:Hp}:∀{ts:List Nat}{r:Hp},pk hp ts=some r->HpW hp r
 |[],r,h=>by cases h;exact .nil
 |t::ts,r,h=>by
  unfold pk at h;split at h
  ·rename_i h1;split at h
   ·rename_i h2;cases h;exact .cons h1 (.refl _) (FW h2)
   ·cases h
  ·cases h
theorem SlW.ap{sl a b:bE}(h:SlW sl a)(h':SlW sl b):SlW sl (a++b):=by
 induction h with
 |nil=>exact h'
 |cons h1 h2 _ ih=>exact .cons h1 h2 ih
theorem HpW.ap{sl a b:Hp}(h:HpW sl a)(h':HpW sl b):HpW sl (a++b):=by
 induction h with
 |nil=>exact h'
 |cons h1 h2 _ ih=>exact .cons h1 h2 ih
theorem Wk.p{s:AS}{a b:bE}{c d:Hp}{ks kh:List Nat}(h1:SlW s.sl a)(h2:HpW s.hp c)(hs:pk s.sl ks=some b)(hh:pk s.hp kh=some d):Wk s ⟨a++b,c++d⟩ :=
 Wk.of (h1.ap (E5 hs)) (h2.ap (FW hh))
def we:Exit->Bool
  | .normal | .ret=>true
  |_=>false
theorem jg{s:AS}{x:Option AV}{rt rd:List Nat}:jt s ⟨x,[],rt,rd⟩:=fun _ hk=>by simp at hk
theorem ue{c:Code}{k:List Fr}{s:AS}{α:Type}{f:α->AV}{l:List α}{t sz:Nat}(ht:s.get t=some (.lst sz (l.map f)))(h:l.length<=aS->Gd P N Q (.code c k s)):Gd P N Q (.code c k s):=Rz ht h
theorem jx{S:AS}{F:Prop}{K:AS->Prop}{k:List Fr}{s:AS}(hK:∀(s1:AS),F->Wk s1 S->K s1)(hF:F)(hw:Wk s S:=by exact Wk.o):Gd P N Q (.ex .normal (.lp K::k) s):=hK s hF hw
theorem aH{P':Type}{S:P'->AS}{F:P'->Prop}{M:P'->Nat}{m0:Nat}{K:AS->Prop}{k:List Fr}{s:AS}(hK:∀(s1:AS),∀(p2:P'),F p2->M p2<m0->Wk s1 (S p2)->K s1)(p0:P')(hF:F p0)
  (hl:M p0<m0:=by first |omega |(dsimp only;omega)) (hw:Wk s (S p0):=by exact Wk.o):Gd P N Q (.ex .normal (.lp K::k) s):=hK s p0 hF hl hw
theorem sI{P':Type}{S:P'->AS}{F:P'->Prop}{K:AS->Prop}{k:List Fr}{s:AS}(hK:∀(s1:AS),∀(p:P'),F p->Wk s1 (S p)->K s1)(p0:P')(hF:F p0)(hw:Wk s (S p0):=by exact Wk.o):Gd P N Q (.ex .normal (.lp K::k) s):=hK s p0 hF hw
theorem ik{P' Q':Type}{S:P'->Q'->AS}{F:P'->Q'->Prop}{M:P'->Q'->Nat}{m0:Nat}{K:AS->Prop}{k:List Fr}{s:AS}(hK:∀(s1:AS),∀(p2:P')(q2:Q'),F p2 q2->M p2 q2<m0->Wk s1 (S p2 q2)->K s1)(p0:P')(q0:Q')(hF:F p0 q0)
  (hl:M p0 q0<m0:=by first |omega |(dsimp only;omega)) (hw:Wk s (S p0 q0):=by exact Wk.o):Gd P N Q (.ex .normal (.lp K::k) s):=hK s p0 q0 hF hl hw
theorem xi{P' Q':Type}{S:P'->Q'->AS}{F:P'->Q'->Prop}{K:AS->Prop}{k:List Fr}{s:AS}(hK:∀(s1:AS),∀(p:P')(q:Q'),F p q->Wk s1 (S p q)->K s1)(p0:P')(q0:Q')(hF:F p0 q0)(hw:Wk s (S p0 q0):=by exact Wk.o):Gd P N Q (.ex .normal (.lp K::k) s):=hK s p0 q0 hF hw
theorem ii{P' Q' R':Type}{S:P'->Q'->R'->AS}{F:P'->Q'->R'->Prop}{M:P'->Q'->R'->Nat}{m0:Nat}{K:AS->Prop}{k:List Fr}{s:AS}(hK:∀(s1:AS),∀(p2:P')(q2:Q')(r2:R'),F p2 q2 r2->M p2 q2 r2<m0->Wk s1 (S p2 q2 r2)->K s1)(p0:P')(q0:Q')(r0:R')(hF:F p0 q0 r0)
  (hl:M p0 q0 r0<m0:=by first |omega |(dsimp only;omega)) (hw:Wk s (S p0 q0 r0):=by exact Wk.o):Gd P N Q (.ex .normal (.lp K::k) s):=hK s p0 q0 r0 hF hl hw
theorem JX{P' Q' R' T':Type}{S:P'->Q'->R'->T'->AS}{F:P'->Q'->R'->T'->Prop}{M:P'->Q'->R'->T'->Nat}{m0:Nat}{K:AS->Prop}{k:List Fr}{s:AS}(hK:∀(s1:AS),∀(p2:P')(q2:Q')(r2:R')(t2:T'),F p2 q2 r2 t2->M p2 q2 r2 t2<m0->Wk s1 (S p2 q2 r2 t2)->K s1)(p0:P')(q0:Q')(r0:R')(t0:T')(hF:F p0 q0 r0 t0)
  (hl:M p0 q0 r0 t0<m0:=by first |omega |(dsimp only;omega)) (hw:Wk s (S p0 q0 r0 t0):=by exact Wk.o):Gd P N Q (.ex .normal (.lp K::k) s):=hK s p0 q0 r0 t0 hF hl hw
theorem I3{P' Q' R' T':Type}{S:P'->Q'->R'->T'->AS}{F:P'->Q'->R'->T'->Prop}{K:AS->Prop}{k:List Fr}{s:AS}(hK:∀(s1:AS),∀(p:P')(q:Q')(r:R')(t:T'),F p q r t->Wk s1 (S p q r t)->K s1)(p0:P')(q0:Q')(r0:R')(t0:T')(hF:F p0 q0 r0 t0)(hw:Wk s (S p0 q0 r0 t0):=by exact Wk.o):Gd P N Q (.ex .normal (.lp K::k) s):=hK s p0 q0 r0 t0 hF hw
theorem IV{P' Q' R' T' U':Type}{S:P'->Q'->R'->T'->U'->AS}{F:P'->Q'->R'->T'->U'->Prop}{M:P'->Q'->R'->T'->U'->Nat}{m0:Nat}{K:AS->Prop}{k:List Fr}{s:AS}(hK:∀(s1:AS),∀(p2:P')(q2:Q')(r2:R')(t2:T')(u2:U'),F p2 q2 r2 t2 u2->M p2 q2 r2 t2 u2<m0->Wk s1 (S p2 q2 r2 t2 u2)->K s1)(p0:P')(q0:Q')(r0:R')(t0:T')(u0:U')(hF:F p0 q0 r0 t0 u0)
  (hl:M p0 q0 r0 t0 u0<m0:=by first |omega |(dsimp only;omega)) (hw:Wk s (S p0 q0 r0 t0 u0):=by exact Wk.o):Gd P N Q (.ex .normal (.lp K::k) s):=hK s p0 q0 r0 t0 u0 hF hl hw
variable[Inhabited (Tys P)]
variable{s:AS}{k:List Fr}{ob:List Prop}{c':Cf}{us:List Out}{s0:AS}{id i:Nat}{R:List Oper}{sl:bE}{ops:List Oper}{o:Oper}{draw:Bool}{rt:List Nat}{hp:Hp}{u:Out}
def oM(P:ahb)[Inhabited (Tys P)](s:AS):List ResultVar->Option (List AV)
  |[]=>some []
  |r::rs=>match oM P s rs with
    |some xs=>match r with
      | .tmp t=>match s.get t with
        |some x=>some (x::xs)
        |none=>none
      | .cell t T=>match s.get t with
        |some (.ptr k off)=>match s.blk k with
          |some (.box cs)=>match cg P T with
            |some ti=>match ab3 off 0&&Nat.ble ti.size cs.length with
              |true=>match tD ti cs with
                |some v=>some (v::xs)
                |none=>none
              |false=>none
            |none=>none
          |_=>none
        |_=>none
    |none=>none
theorem z5{s:AS}:∀{rs:List ResultVar}{xs:List AV},oM P s rs=some xs->ResL P s rs xs
 |[],xs,h=>by cases h;exact .nil
 |r::rs,xs,h=>by
  unfold oM at h;split at h
  ·rename_i ys hy;have ih:=z5 hy;split at h
   ·split at h
    ·rename_i hx;cases h;exact .cons (.tmp hx) ih
    ·cases h
   ·split at h
    ·rename_i hx;split at h
     ·rename_i hk;split at h
      ·rename_i ti hti;split at h
       ·rename_i hc;simp only[afp]at hc;have:=afo hc.1;subst this;split at h
        ·rename_i v hv;cases h;obtain⟨h2,rfl⟩:=B2 hv;exact .cons (.cell hx hk (bX hti) hc.2 h2) ih
        ·cases h
       ·cases h
      ·cases h
     ·cases h
    ·cases h
  ·cases h
theorem gR {rs:List ResultVar} {xs:List AV} {r:AV} {H':Hp} {e:Exit} (h:aE s (dh xs) r H') (hx:oM P s rs=some xs:=by exact rfl) (he:we e=true:=by exact rfl) :
  Gd P N (mz P rs r H') (.ex e [] s):=by
 cases e <;> first |exact⟨xs,z5 hx,h⟩ |cases he
theorem af {rs:List ResultVar} {x r:AV} {e:Exit} (h:x=r) (hx:oM P s rs=some [x]:=by exact rfl) (he:we e=true:=by exact rfl) :
  Gd P N (mz P rs r []) (.ex e [] s):=gR (LF h) hx he
theorem bg {rs:List ResultVar} {x y r:AV} {e:Exit} (h:.tup [x,y]=r) (hx:oM P s rs=some [x,y]:=by exact rfl) (he:we e=true:=by exact rfl) :
  Gd P N (mz P rs r []) (.ex e [] s):=gR (n7 h) hx he
theorem rj {rs:List ResultVar} {x y z r:AV} {e:Exit} (h:.tup [x,y,z]=r) (hx:oM P s rs=some [x,y,z]:=by exact rfl) (he:we e=true:=by exact rfl) :
  Gd P N (mz P rs r []) (.ex e [] s):=gR (tM h) hx he
theorem cD{ob:List Prop}(h:AllP ob:=by repeat(first |exact AllP.nil |refine AllP.cons (by first |(intro h;(try simp only[pG]at h);simp only[h,beq_self_eq_true,Bool.and_self];done) |exact P9 _ |exact .inl rfl |exact .inr ⟨_,_,rfl⟩ |(intro h;simp_all;done)) ?_)):AllP ob:=h
theorem go{c c':Cf}(h:Gd P N Q c')(st:Nat×Nat:=(99999,0))(hr:run P N st 999 c []=some (c',ob):=by exact rfl)(ho:AllP ob:=by exact cD):Gd P N Q c:=(cr hr ho h).1
theorem gW{c:Code}{s s':AS}(hw:Wk s s')(h:Gd P N Q c')(st:Nat×Nat:=(99999,0))(hr:run P N st 999 (.code c k s') []=some (c',ob):=by exact rfl)(ho:AllP ob:=by exact cD):Gd P N Q (.code c k s):=pY hw (cr hr ho h).1
theorem gC{c:ag8}{x y:Code}{b:Bool}{c1 c2:Cf}{ob1 ob2:List Prop}(ht:b=true->Gd P N Q c1)(hf:b=false->Gd P N Q c2)(st1:Nat×Nat:=(99999,0))(st2:Nat×Nat:=(99999,0))
  (hc:Ev s c (.v (.bool b)):=by first |exact .tmp rfl |exact .const _) (hr1:run P N st1 999 (.code x k s) []=some (c1,ob1):=by exact rfl) (ho1:AllP ob1:=by exact cD) (hr2:run P N st2 999 (.code y k s) []=some (c2,ob2):=by exact rfl) (ho2:AllP ob2:=by exact cD) :
  Gd P N Q (.code (.cond c x y) k s):=yr hc (fun h=>(cr hr1 ho1 (ht h)).1) (fun h=>(cr hr2 ho2 (hf h)).1)
theorem gf {c:ag8} {x y:Code} {b:Bool} {c2:Cf} {ob2:List Prop} (hf:Gd P N Q c2) (st2:Nat×Nat:=(99999,0)) (hc:Ev s c (.v (.bool b)):=by first | exact .tmp rfl | exact .const _) (hb:b=false:=by rfl) (hr2:run P N st2 999 (.code y k s) []=some (c2,ob2):=by exact rfl) (ho2:AllP ob2:=by exact cD) :
  Gd P N Q (.code (.cond c x y) k s):=yr hc (fun h=>Bool.noConfusion (hb.symm.trans h)) (fun _=>(cr hr2 ho2 hf).1)
theorem gs (hs:Step P N R.toArray s o u) (h:Gd P N Q c') (st:Nat×Nat:=(99999,0)) (hn:jt s u:=by first | exact ua rfl | exact jg) (hr:run P N st 999 (.ap o u id i R draw s0 ops us k s) []=some (c',ob):=by exact rfl) (ho:AllP ob:=by exact cD) :
  Gd P N Q (.ops id i R draw s0 (o::ops) us k s):=⟨u,hs,hn,(cr hr ho h).1⟩
theorem gt {w:Want} (hs:Step P N R.toArray s o u) (h:Gd P N Q c') (st:Nat×Nat:=(99999,0)) (hn:jt s u:=by first | exact ua rfl | exact jg) (hr:run P N st 999 (.ap o u id i R draw s0 ops us k s) []=some (c',ob):=by exact rfl) (ho:AllP ob:=by exact cD) :
  Gd P N Q (.st w rt o id i R draw s0 ops us k s):=fun _=>⟨u,hs,hn,(cr hr ho h).1⟩
theorem gu {G:Prop} {b:Bool} {w:Want} (hs:Step P N R.toArray s o u) (h:Gd P N Q c') (st:Nat×Nat:=(99999,0)) (hn:jt s u:=by first | exact ua rfl | exact jg) (hr:run P N st 999 (.ap o u id i R draw s0 ops us k s) []=some (c',ob):=by exact rfl) (ho:AllP ob:=by exact cD) :
  Gd P N Q (.sg G b w rt o id i R draw s0 ops us k s):=fun _=>⟨u,hs,hn,(cr hr ho h).1⟩
theorem ga {op:BinOp} {K:IntKind} {a b n:Int} (he:K.wrap (fy op a b)=n) (h:Gd P N Q c') (st:Nat×Nat:=(99999,0)) (hr:run P N st 999 (.ap o ⟨some (.v (.int K n)),[],rt,[]⟩ id i R draw s0 ops us k s) []=some (c',ob):=by exact rfl) (ho:AllP ob:=by exact cD) :
  Gd P N Q (.st (.ar op K a b) rt o id i R draw s0 ops us k s):=fun hst=>⟨⟨some (.v (.int K n)),[],rt,[]⟩,hst _ (⟨_,he,rfl⟩),jg,(cr hr ho h).1⟩
theorem nP {op:BinOp} {K:IntKind} {a b n:Int} {G:Prop} {b0:Bool} (he:G->K.wrap (fy op a b)=n) (h:Gd P N Q c') (st:Nat×Nat:=(99999,0)) (hr:run P N st 999 (.ap o ⟨some (.opt b0 (.v (.int K n))),[],rt,[]⟩ id i R draw s0 ops us k s) []=some (c',ob):=by exact rfl) (ho:AllP ob:=by exact cD) :
  Gd P N Q (.sg G b0 (.ar op K a b) rt o id i R draw s0 ops us k s):=fun hst=>⟨⟨some (.opt b0 (.v (.int K n))),[],rt,[]⟩,hst _ (fun hG=>⟨_,(he hG),rfl⟩),jg,(cr hr ho h).1⟩
theorem gv {K:IntKind} {n m:Int} (he:K.wrap n=m) (h:Gd P N Q c') (st:Nat×Nat:=(99999,0)) (hr:run P N st 999 (.ap o ⟨some (.v (.int K m)),[],rt,[]⟩ id i R draw s0 ops us k s) []=some (c',ob):=by exact rfl) (ho:AllP ob:=by exact cD) :
  Gd P N Q (.st (.cv K n) rt o id i R draw s0 ops us k s):=fun hst=>⟨⟨some (.v (.int K m)),[],rt,[]⟩,hst _ (⟨_,he,rfl⟩),jg,(cr hr ho h).1⟩
theorem Qn {K:IntKind} {n m:Int} {G:Prop} {b0:Bool} (he:G->K.wrap n=m) (h:Gd P N Q c') (st:Nat×Nat:=(99999,0)) (hr:run P N st 999 (.ap o ⟨some (.opt b0 (.v (.int K m))),[],rt,[]⟩ id i R draw s0 ops us k s) []=some (c',ob):=by exact rfl) (ho:AllP ob:=by exact cD) :
  Gd P N Q (.sg G b0 (.cv K n) rt o id i R draw s0 ops us k s):=fun hst=>⟨⟨some (.opt b0 (.v (.int K m))),[],rt,[]⟩,hst _ (fun hG=>⟨_,(he hG),rfl⟩),jg,(cr hr ho h).1⟩
theorem gl {α:Type} {f:α->AV} {l:List α} {es:List AV} (h:Gd P N Q c') (st:Nat×Nat:=(99999,0)) (he:es=l.map f:=by exact rfl) (hr:run P N st 999 (.ap o ⟨some (.v (.int .i64 (l.length:Nat))),[],rt,[]⟩ id i R draw s0 ops us k s) []=some (c',ob):=by exact rfl) (ho:AllP ob:=by exact cD) :
  Gd P N Q (.st (.ln es) rt o id i R draw s0 ops us k s):=fun hst=>⟨⟨some (.v (.int .i64 (l.length:Nat))),[],rt,[]⟩,hst _ (⟨_,(by rw[he,afm]),rfl⟩),jg,(cr hr ho h).1⟩
theorem bF {α:Type} {f:α->AV} {l:List α} {es:List AV} {G:Prop} {b0:Bool} (h:Gd P N Q c') (st:Nat×Nat:=(99999,0)) (he:G->es=l.map f:=by intro h; exact rfl) (hr:run P N st 999 (.ap o ⟨some (.opt b0 (.v (.int .i64 (l.length:Nat)))),[],rt,[]⟩ id i R draw s0 ops us k s) []=some (c',ob):=by exact rfl) (ho:AllP ob:=by exact cD) :
  Gd P N Q (.sg G b0 (.ln es) rt o id i R draw s0 ops us k s):=fun hst=>⟨⟨some (.opt b0 (.v (.int .i64 (l.length:Nat)))),[],rt,[]⟩,hst _ (fun hG=>⟨_,(by rw[(he hG),afm]),rfl⟩),jg,(cr hr ho h).1⟩
theorem ge {n:Nat} {es:List AV} (he:es.length=n) (h:Gd P N Q c') (st:Nat×Nat:=(99999,0)) (hr:run P N st 999 (.ap o ⟨some (.v (.int .i64 n)),[],rt,[]⟩ id i R draw s0 ops us k s) []=some (c',ob):=by exact rfl) (ho:AllP ob:=by exact cD) :
  Gd P N Q (.st (.ln es) rt o id i R draw s0 ops us k s):=fun hst=>⟨⟨some (.v (.int .i64 n)),[],rt,[]⟩,hst _ (⟨_,he,rfl⟩),jg,(cr hr ho h).1⟩
theorem gi {es:List AV} {e:AV} {z:Int} (he:es[z.toNat]?=some e) (h:Gd P N Q c') (st:Nat×Nat:=(99999,0)) (h0:0<=z:=by omega) (hr:run P N st 999 (.ap o ⟨some (.iptr e.cells),[],rt,[]⟩ id i R draw s0 ops us k s) []=some (c',ob):=by exact rfl) (ho:AllP ob:=by exact cD) :
  Gd P N Q (.st (.ix es z) rt o id i R draw s0 ops us k s):=fun hst=>⟨⟨some (.iptr e.cells),[],rt,[]⟩,hst _ (⟨h0,_,he,rfl⟩),jg,(cr hr ho h).1⟩
theorem nw {es:List AV} {e:AV} {z:Int} {G:Prop} {b0:Bool} (he:G->es[z.toNat]?=some e) (h:Gd P N Q c') (st:Nat×Nat:=(99999,0)) (h0:G->0<=z:=by intro h; omega) (hr:run P N st 999 (.ap o ⟨some (.opt b0 (.iptr e.cells)),[],rt,[]⟩ id i R draw s0 ops us k s) []=some (c',ob):=by exact rfl) (ho:AllP ob:=by exact cD) :
  Gd P N Q (.sg G b0 (.ix es z) rt o id i R draw s0 ops us k s):=fun hst=>⟨⟨some (.opt b0 (.iptr e.cells)),[],rt,[]⟩,hst _ (fun hG=>⟨(h0 hG),_,(he hG),rfl⟩),jg,(cr hr ho h).1⟩
theorem gc {f:FuncId} {xs:List AV} {r:AV} (hc:je P f xs r) (h:Gd P N Q c') (st:Nat×Nat:=(99999,0)) (hnm:r.nm=[]:=by exact rfl) (hr:run P N st 999 (.ap o ⟨some (r),[],rt,[]⟩ id i R draw s0 ops us k s) []=some (c',ob):=by exact rfl) (ho:AllP ob:=by exact cD) :
  Gd P N Q (.st (.cl f xs) rt o id i R draw s0 ops us k s):=fun hst=>⟨⟨some (r),[],rt,[]⟩,hst _ (⟨hc,hnm⟩),jg,(cr hr ho h).1⟩
theorem bn {f:FuncId} {xs:List AV} {r:AV} {G:Prop} {b0:Bool} (hc:G->je P f xs r) (h:Gd P N Q c') (st:Nat×Nat:=(99999,0)) (hnm:G->r.nm=[]:=by intro h; exact rfl) (hr:run P N st 999 (.ap o ⟨some (.opt b0 (r)),[],rt,[]⟩ id i R draw s0 ops us k s) []=some (c',ob):=by exact rfl) (ho:AllP ob:=by exact cD) :
  Gd P N Q (.sg G b0 (.cl f xs) rt o id i R draw s0 ops us k s):=fun hst=>⟨⟨some (.opt b0 (r)),[],rt,[]⟩,hst _ (fun hG=>⟨(hc hG),(hnm hG)⟩),jg,(cr hr ho h).1⟩
theorem gD (h:Gd P N Q c') (st:Nat×Nat:=(99999,0)) (hc:chk R us s0=true:=by kernel_rfl) (hr:run P N st 999 (.ex .normal k s) []=some (c',ob):=by exact rfl) (ho:AllP ob:=by exact cD) :
  Gd P N Q (.ops id i R true s0 [] us k s):=by
 simp only[Gd,gB];exact⟨fun _=>hc,(cr hr ho h).1⟩
theorem gF{f:FuncId}{fn:Func}{c:Code}{args:List AV}{H:Hp}{r:AV}{H':Hp}(hf:P.funcs[f]?=some fn)(hH:∀k z,lk H k=some z->1000<=k)
  (h : Gd P fn.ntmps (mz P fn.results.toList r H') c') (st : Nat × Nat := (99999, 0)) (hb : fn.body = some c := by exact rfl) (hn : (fn.name == "runtime.NumGoroutine") = false := by exact rfl)
  (hs:se 0 args=some sl:=by exact rfl) (hr:run P fn.ntmps st 999 (.code c [] ⟨sl,H⟩) []=some (c',ob):=by exact rfl) (ho:AllP ob:=by exact cD):Con P f args H r H':=DI hf hb hn (by simp) rfl hH (zI hs▸(cr hr ho h).1)
theorem ai{f:FuncId}{fn:Func}{c:Code}{args:List AV}{r:AV}(hf:P.funcs[f]?=some fn)
  (h : Gd P fn.ntmps (mz P fn.results.toList r []) c') (st : Nat × Nat := (99999, 0)) (hb : fn.body = some c := by exact rfl) (hn : (fn.name == "runtime.NumGoroutine") = false := by exact rfl)
  (hs:se 0 args=some sl:=by exact rfl) (hr:run P fn.ntmps st 999 (.code c [] ⟨sl,[]⟩) []=some (c',ob):=by exact rfl) (ho:AllP ob:=by exact cD):je P f args r:=Ot hf hb hn (by simp) rfl (zI hs▸(cr hr ho h).1)
theorem Tl{c:Code}{C:(AS->Prop)->Cf}{ob:(AS->Prop)->List Prop}(ks kh:List Nat)(f:bE)(g:Hp)(F:Prop)(M:Nat)(hF:F)
  (h:F->∀K:AS->Prop,(∀(s1:AS),F->M<M->Wk s1 ⟨f++sl,g++hp⟩->K s1)->Gd P N Q (C K)) (st:Nat×Nat:=(99999,0)) (hs:pk s.sl ks=some sl:=by exact rfl) (hh:pk s.hp kh=some hp:=by exact rfl)
  (h1:SlW s.sl (f):=by exact bj) (h2:HpW s.hp (g):=by repeat(first |exact HpW.nil |refine HpW.cons rfl (.refl _) ?_)) (hr:∀K,run P N st 999 (.code c (.lp K::k) ⟨f++sl,g++hp⟩) []=some (C K,ob K):=by intros;exact rfl) (ho:∀K,AllP (ob K):=by intros;exact cD):Gd P N Q (.code (.loop c) k s):=by
 refine pE (fun n s=> M=n/\F/\s=⟨f++sl,g++hp⟩) (Wk.p h1 h2 hs hh) ⟨rfl,hF,rfl⟩ ?_;rintro n s ⟨rfl,hF,rfl⟩ K hK;exact ig (cr (hr K) (ho K) (h hF K (fun s1 h1 h2 h3=>hK s1 _ _ h3 ⟨rfl,h1,rfl⟩ h2))).1 (fun e s he=>by cases e <;> exact he)
theorem tb{c y:Code}{k k1 k2:List Fr}{c1:(AS->Prop)->Cf}{ob1:(AS->Prop)->List Prop}{c2:Cf}{ob2:List Prop}(ks kh:List Nat)(f:bE)(g:Hp)(F:Prop)(h1:∀K:AS->Prop,(∀(s1:AS),F->Wk s1 ⟨f++sl,g++hp⟩->K s1)->Gd P N Q (c1 K))
  (h2:F->Gd P N Q (c2)) (n:Nat:=0) (st1:Nat×Nat:=(99999,0)) (st2:Nat×Nat:=(99999,0)) (hk:lw n k=some (k1,y,k2):=by exact rfl) (hs:pk s.sl ks=some sl:=by exact rfl) (hh:pk s.hp kh=some hp:=by exact rfl) (hr1:∀K,run P N st1 999 (.code c (k1++.lp K::k2) s) []=some (c1 K,ob1 K):=by intros;exact rfl) (ho1:∀K,AllP (ob1 K):=by intros;exact cD) (hr2:run P N st2 999 (.code y k2 ⟨f++sl,g++hp⟩) []=some (c2,ob2):=by intros;exact rfl) (ho2:AllP (ob2):=by intros;exact cD):Gd P N Q (.code c k s):=by
 rw[uP hk];exact ig (cr (hr1 (fun s=>br P N y (cS P N Q k2) s)) (ho1 _) (h1 (fun s=>br P N y (cS P N Q k2) s) (fun s1 hF hw=>pY hw (cr (hr2) (ho2) (h2 hF)).1))).1 (fun e s=>lC (fun s h=>h) k1 e s)
theorem aL{P':Type}{c:Code}{C:P'->(AS->Prop)->Cf}{ob:P'->(AS->Prop)->List Prop}(ks kh:List Nat)(f:P'->bE)(g:P'->Hp)(F:P'->Prop)(M:P'->Nat)(p0:P')(hF:F p0)
  (h:∀(p:P'),F p->∀K:AS->Prop,(∀(s1:AS),∀(p2:P'),F p2->M p2<M p->Wk s1 ⟨f p2++sl,g p2++hp⟩->K s1)->Gd P N Q (C p K)) (st:Nat×Nat:=(99999,0)) (hs:pk s.sl ks=some sl:=by exact rfl) (hh:pk s.hp kh=some hp:=by exact rfl)
  (h1:SlW s.sl (f p0):=by exact bj) (h2:HpW s.hp (g p0):=by repeat(first |exact HpW.nil |refine HpW.cons rfl (.refl _) ?_)) (hr:∀(p:P'),∀K,run P N st 999 (.code c (.lp K::k) ⟨f p++sl,g p++hp⟩) []=some (C p K,ob p K):=by intros;exact rfl) (ho:∀(p:P'),∀K,AllP (ob p K):=by intros;exact cD):Gd P N Q (.code (.loop c) k s):=by
 refine pE (fun n s=>∃(p:P'),M p=n/\F p/\s=⟨f p++sl,g p++hp⟩) (Wk.p h1 h2 hs hh) ⟨p0,rfl,hF,rfl⟩ ?_;rintro n s ⟨p,rfl,hF,rfl⟩ K hK;exact ig (cr (hr p K) (ho p K) (h p hF K (fun s1 p2 h1 h2 h3=>hK s1 _ _ h3 ⟨p2,rfl,h1,rfl⟩ h2))).1 (fun e s he=>by cases e <;> exact he)
theorem Cp{P':Type}{c y:Code}{k k1 k2:List Fr}{c1:(AS->Prop)->Cf}{ob1:(AS->Prop)->List Prop}{c2:P'->Cf}{ob2:P'->List Prop}(ks kh:List Nat)(f:P'->bE)(g:P'->Hp)(F:P'->Prop)(h1:∀K:AS->Prop,(∀(s1:AS),∀(p:P'),F p->Wk s1 ⟨f p++sl,g p++hp⟩->K s1)->Gd P N Q (c1 K))
  (h2:∀(p:P'),F p->Gd P N Q (c2 p)) (n:Nat:=0) (st1:Nat×Nat:=(99999,0)) (st2:Nat×Nat:=(99999,0)) (hk:lw n k=some (k1,y,k2):=by exact rfl) (hs:pk s.sl ks=some sl:=by exact rfl) (hh:pk s.hp kh=some hp:=by exact rfl) (hr1:∀K,run P N st1 999 (.code c (k1++.lp K::k2) s) []=some (c1 K,ob1 K):=by intros;exact rfl) (ho1:∀K,AllP (ob1 K):=by intros;exact cD) (hr2:∀(p:P'),run P N st2 999 (.code y k2 ⟨f p++sl,g p++hp⟩) []=some (c2 p,ob2 p):=by intros;exact rfl) (ho2:∀(p:P'),AllP (ob2 p):=by intros;exact cD):Gd P N Q (.code c k s):=by
 rw[uP hk];exact ig (cr (hr1 (fun s=>br P N y (cS P N Q k2) s)) (ho1 _) (h1 (fun s=>br P N y (cS P N Q k2) s) (fun s1 p hF hw=>pY hw (cr (hr2 p) (ho2 p) (h2 p hF)).1))).1 (fun e s=>lC (fun s h=>h) k1 e s)
theorem ib{P' Q':Type}{c:Code}{C:P'->Q'->(AS->Prop)->Cf}{ob:P'->Q'->(AS->Prop)->List Prop}(ks kh:List Nat)(f:P'->Q'->bE)(g:P'->Q'->Hp)(F:P'->Q'->Prop)(M:P'->Q'->Nat)(p0:P')(q0:Q')(hF:F p0 q0)
  (h:∀(p:P')(q:Q'),F p q->∀K:AS->Prop,(∀(s1:AS),∀(p2:P')(q2:Q'),F p2 q2->M p2 q2<M p q->Wk s1 ⟨f p2 q2++sl,g p2 q2++hp⟩->K s1)->Gd P N Q (C p q K)) (st:Nat×Nat:=(99999,0)) (hs:pk s.sl ks=some sl:=by exact rfl) (hh:pk s.hp kh=some hp:=by exact rfl)
  (h1:SlW s.sl (f p0 q0):=by exact bj) (h2:HpW s.hp (g p0 q0):=by repeat(first |exact HpW.nil |refine HpW.cons rfl (.refl _) ?_)) (hr:∀(p:P')(q:Q'),∀K,run P N st 999 (.code c (.lp K::k) ⟨f p q++sl,g p q++hp⟩) []=some (C p q K,ob p q K):=by intros;exact rfl) (ho:∀(p:P')(q:Q'),∀K,AllP (ob p q K):=by intros;exact cD):Gd P N Q (.code (.loop c) k s):=by
 refine pE (fun n s=>∃(p:P')(q:Q'),M p q=n/\F p q/\s=⟨f p q++sl,g p q++hp⟩) (Wk.p h1 h2 hs hh) ⟨p0,q0,rfl,hF,rfl⟩ ?_;rintro n s ⟨p,q,rfl,hF,rfl⟩ K hK;exact ig (cr (hr p q K) (ho p q K) (h p q hF K (fun s1 p2 q2 h1 h2 h3=>hK s1 _ _ h3 ⟨p2,q2,rfl,h1,rfl⟩ h2))).1 (fun e s he=>by cases e <;> exact he)
theorem Ip{P' Q':Type}{c y:Code}{k k1 k2:List Fr}{c1:(AS->Prop)->Cf}{ob1:(AS->Prop)->List Prop}{c2:P'->Q'->Cf}{ob2:P'->Q'->List Prop}(ks kh:List Nat)(f:P'->Q'->bE)(g:P'->Q'->Hp)(F:P'->Q'->Prop)(h1:∀K:AS->Prop,(∀(s1:AS),∀(p:P')(q:Q'),F p q->Wk s1 ⟨f p q++sl,g p q++hp⟩->K s1)->Gd P N Q (c1 K))
  (h2:∀(p:P')(q:Q'),F p q->Gd P N Q (c2 p q)) (n:Nat:=0) (st1:Nat×Nat:=(99999,0)) (st2:Nat×Nat:=(99999,0)) (hk:lw n k=some (k1,y,k2):=by exact rfl) (hs:pk s.sl ks=some sl:=by exact rfl) (hh:pk s.hp kh=some hp:=by exact rfl) (hr1:∀K,run P N st1 999 (.code c (k1++.lp K::k2) s) []=some (c1 K,ob1 K):=by intros;exact rfl) (ho1:∀K,AllP (ob1 K):=by intros;exact cD) (hr2:∀(p:P')(q:Q'),run P N st2 999 (.code y k2 ⟨f p q++sl,g p q++hp⟩) []=some (c2 p q,ob2 p q):=by intros;exact rfl) (ho2:∀(p:P')(q:Q'),AllP (ob2 p q):=by intros;exact cD):Gd P N Q (.code c k s):=by
 rw[uP hk];exact ig (cr (hr1 (fun s=>br P N y (cS P N Q k2) s)) (ho1 _) (h1 (fun s=>br P N y (cS P N Q k2) s) (fun s1 p q hF hw=>pY hw (cr (hr2 p q) (ho2 p q) (h2 p q hF)).1))).1 (fun e s=>lC (fun s h=>h) k1 e s)
theorem jf{P' Q' R':Type}{c:Code}{C:P'->Q'->R'->(AS->Prop)->Cf}{ob:P'->Q'->R'->(AS->Prop)->List Prop}(ks kh:List Nat)(f:P'->Q'->R'->bE)(g:P'->Q'->R'->Hp)(F:P'->Q'->R'->Prop)(M:P'->Q'->R'->Nat)(p0:P')(q0:Q')(r0:R')(hF:F p0 q0 r0)
  (h:∀(p:P')(q:Q')(r:R'),F p q r->∀K:AS->Prop,(∀(s1:AS),∀(p2:P')(q2:Q')(r2:R'),F p2 q2 r2->M p2 q2 r2<M p q r->Wk s1 ⟨f p2 q2 r2++sl,g p2 q2 r2++hp⟩->K s1)->Gd P N Q (C p q r K)) (st:Nat×Nat:=(99999,0)) (hs:pk s.sl ks=some sl:=by exact rfl) (hh:pk s.hp kh=some hp:=by exact rfl)
  (h1:SlW s.sl (f p0 q0 r0):=by exact bj) (h2:HpW s.hp (g p0 q0 r0):=by repeat(first |exact HpW.nil |refine HpW.cons rfl (.refl _) ?_)) (hr:∀(p:P')(q:Q')(r:R'),∀K,run P N st 999 (.code c (.lp K::k) ⟨f p q r++sl,g p q r++hp⟩) []=some (C p q r K,ob p q r K):=by intros;exact rfl) (ho:∀(p:P')(q:Q')(r:R'),∀K,AllP (ob p q r K):=by intros;exact cD):Gd P N Q (.code (.loop c) k s):=by
 refine pE (fun n s=>∃(p:P')(q:Q')(r:R'),M p q r=n/\F p q r/\s=⟨f p q r++sl,g p q r++hp⟩) (Wk.p h1 h2 hs hh) ⟨p0,q0,r0,rfl,hF,rfl⟩ ?_;rintro n s ⟨p,q,r,rfl,hF,rfl⟩ K hK;exact ig (cr (hr p q r K) (ho p q r K) (h p q r hF K (fun s1 p2 q2 r2 h1 h2 h3=>hK s1 _ _ h3 ⟨p2,q2,r2,rfl,h1,rfl⟩ h2))).1 (fun e s he=>by cases e <;> exact he)
theorem Ta{P' Q' R' T':Type}{c:Code}{C:P'->Q'->R'->T'->(AS->Prop)->Cf}{ob:P'->Q'->R'->T'->(AS->Prop)->List Prop}(ks kh:List Nat)(f:P'->Q'->R'->T'->bE)(g:P'->Q'->R'->T'->Hp)(F:P'->Q'->R'->T'->Prop)(M:P'->Q'->R'->T'->Nat)(p0:P')(q0:Q')(r0:R')(t0:T')(hF:F p0 q0 r0 t0)
  (h:∀(p:P')(q:Q')(r:R')(t:T'),F p q r t->∀K:AS->Prop,(∀(s1:AS),∀(p2:P')(q2:Q')(r2:R')(t2:T'),F p2 q2 r2 t2->M p2 q2 r2 t2<M p q r t->Wk s1 ⟨f p2 q2 r2 t2++sl,g p2 q2 r2 t2++hp⟩->K s1)->Gd P N Q (C p q r t K)) (st:Nat×Nat:=(99999,0)) (hs:pk s.sl ks=some sl:=by exact rfl) (hh:pk s.hp kh=some hp:=by exact rfl)
  (h1:SlW s.sl (f p0 q0 r0 t0):=by exact bj) (h2:HpW s.hp (g p0 q0 r0 t0):=by repeat(first |exact HpW.nil |refine HpW.cons rfl (.refl _) ?_)) (hr:∀(p:P')(q:Q')(r:R')(t:T'),∀K,run P N st 999 (.code c (.lp K::k) ⟨f p q r t++sl,g p q r t++hp⟩) []=some (C p q r t K,ob p q r t K):=by intros;exact rfl) (ho:∀(p:P')(q:Q')(r:R')(t:T'),∀K,AllP (ob p q r t K):=by intros;exact cD):Gd P N Q (.code (.loop c) k s):=by
 refine pE (fun n s=>∃(p:P')(q:Q')(r:R')(t:T'),M p q r t=n/\F p q r t/\s=⟨f p q r t++sl,g p q r t++hp⟩) (Wk.p h1 h2 hs hh) ⟨p0,q0,r0,t0,rfl,hF,rfl⟩ ?_;rintro n s ⟨p,q,r,t,rfl,hF,rfl⟩ K hK;exact ig (cr (hr p q r t K) (ho p q r t K) (h p q r t hF K (fun s1 p2 q2 r2 t2 h1 h2 h3=>hK s1 _ _ h3 ⟨p2,q2,r2,t2,rfl,h1,rfl⟩ h2))).1 (fun e s he=>by cases e <;> exact he)
theorem W5{P' Q' R' T':Type}{c y:Code}{k k1 k2:List Fr}{c1:(AS->Prop)->Cf}{ob1:(AS->Prop)->List Prop}{c2:P'->Q'->R'->T'->Cf}{ob2:P'->Q'->R'->T'->List Prop}(ks kh:List Nat)(f:P'->Q'->R'->T'->bE)(g:P'->Q'->R'->T'->Hp)(F:P'->Q'->R'->T'->Prop)(h1:∀K:AS->Prop,(∀(s1:AS),∀(p:P')(q:Q')(r:R')(t:T'),F p q r t->Wk s1 ⟨f p q r t++sl,g p q r t++hp⟩->K s1)->Gd P N Q (c1 K))
  (h2:∀(p:P')(q:Q')(r:R')(t:T'),F p q r t->Gd P N Q (c2 p q r t)) (n:Nat:=0) (st1:Nat×Nat:=(99999,0)) (st2:Nat×Nat:=(99999,0)) (hk:lw n k=some (k1,y,k2):=by exact rfl) (hs:pk s.sl ks=some sl:=by exact rfl) (hh:pk s.hp kh=some hp:=by exact rfl) (hr1:∀K,run P N st1 999 (.code c (k1++.lp K::k2) s) []=some (c1 K,ob1 K):=by intros;exact rfl) (ho1:∀K,AllP (ob1 K):=by intros;exact cD) (hr2:∀(p:P')(q:Q')(r:R')(t:T'),run P N st2 999 (.code y k2 ⟨f p q r t++sl,g p q r t++hp⟩) []=some (c2 p q r t,ob2 p q r t):=by intros;exact rfl) (ho2:∀(p:P')(q:Q')(r:R')(t:T'),AllP (ob2 p q r t):=by intros;exact cD):Gd P N Q (.code c k s):=by
 rw[uP hk];exact ig (cr (hr1 (fun s=>br P N y (cS P N Q k2) s)) (ho1 _) (h1 (fun s=>br P N y (cS P N Q k2) s) (fun s1 p q r t hF hw=>pY hw (cr (hr2 p q r t) (ho2 p q r t) (h2 p q r t hF)).1))).1 (fun e s=>lC (fun s h=>h) k1 e s)
theorem Mc{P' Q' R' T' U':Type}{c:Code}{C:P'->Q'->R'->T'->U'->(AS->Prop)->Cf}{ob:P'->Q'->R'->T'->U'->(AS->Prop)->List Prop}(ks kh:List Nat)(f:P'->Q'->R'->T'->U'->bE)(g:P'->Q'->R'->T'->U'->Hp)(F:P'->Q'->R'->T'->U'->Prop)(M:P'->Q'->R'->T'->U'->Nat)(p0:P')(q0:Q')(r0:R')(t0:T')(u0:U')(hF:F p0 q0 r0 t0 u0)
  (h:∀(p:P')(q:Q')(r:R')(t:T')(u:U'),F p q r t u->∀K:AS->Prop,(∀(s1:AS),∀(p2:P')(q2:Q')(r2:R')(t2:T')(u2:U'),F p2 q2 r2 t2 u2->M p2 q2 r2 t2 u2<M p q r t u->Wk s1 ⟨f p2 q2 r2 t2 u2++sl,g p2 q2 r2 t2 u2++hp⟩->K s1)->Gd P N Q (C p q r t u K)) (st:Nat×Nat:=(99999,0)) (hs:pk s.sl ks=some sl:=by exact rfl) (hh:pk s.hp kh=some hp:=by exact rfl)
  (h1:SlW s.sl (f p0 q0 r0 t0 u0):=by exact bj) (h2:HpW s.hp (g p0 q0 r0 t0 u0):=by repeat(first |exact HpW.nil |refine HpW.cons rfl (.refl _) ?_)) (hr:∀(p:P')(q:Q')(r:R')(t:T')(u:U'),∀K,run P N st 999 (.code c (.lp K::k) ⟨f p q r t u++sl,g p q r t u++hp⟩) []=some (C p q r t u K,ob p q r t u K):=by intros;exact rfl) (ho:∀(p:P')(q:Q')(r:R')(t:T')(u:U'),∀K,AllP (ob p q r t u K):=by intros;exact cD):Gd P N Q (.code (.loop c) k s):=by
 refine pE (fun n s=>∃(p:P')(q:Q')(r:R')(t:T')(u:U'),M p q r t u=n/\F p q r t u/\s=⟨f p q r t u++sl,g p q r t u++hp⟩) (Wk.p h1 h2 hs hh) ⟨p0,q0,r0,t0,u0,rfl,hF,rfl⟩ ?_;rintro n s ⟨p,q,r,t,u,rfl,hF,rfl⟩ K hK;exact ig (cr (hr p q r t u K) (ho p q r t u K) (h p q r t u hF K (fun s1 p2 q2 r2 t2 u2 h1 h2 h3=>hK s1 _ _ h3 ⟨p2,q2,r2,t2,u2,rfl,h1,rfl⟩ h2))).1 (fun e s he=>by cases e <;> exact he)
end Go.Lw
namespace Go.Lw
open Go.Proofs
instance:Inhabited (Tys prog):=⟨⟨_,(.nd (.nd (.nd (.nd (.nd (.nd (.nd .lf T3 .lf) T4 .lf) T5 (.nd .lf T9 .lf)) T22 (.nd (.nd .lf T23 .lf) T24 (.nd .lf T26 .lf))) T33 (.nd (.nd (.nd .lf T35 .lf) T38 (.nd .lf T41 .lf)) T42 (.nd (.nd .lf T44 .lf) T45 (.nd .lf T46 .lf)))) T48 (.nd (.nd (.nd (.nd .lf T52 .lf) T53 (.nd .lf T55 .lf)) T65 (.nd (.nd .lf T79 .lf) T81 (.nd .lf T90 .lf))) T104 (.nd (.nd (.nd .lf T106 .lf) T115 (.nd .lf T117 .lf)) T124 (.nd (.nd .lf T130 .lf) T135 (.nd .lf T137 .lf))))) T139 (.nd (.nd (.nd (.nd (.nd (.nd .lf T141 .lf) T147 .lf) T149 (.nd .lf T151 .lf)) T169 (.nd (.nd .lf T180 .lf) T182 (.nd .lf T185 .lf))) T191 (.nd (.nd (.nd .lf T200 .lf) T212 (.nd .lf T214 .lf)) T239 (.nd (.nd .lf T252 .lf) T257 (.nd .lf T292 .lf)))) T301 (.nd (.nd (.nd (.nd .lf T316 .lf) T320 (.nd .lf T322 .lf)) T329 (.nd (.nd .lf T352 .lf) T354 (.nd .lf T355 .lf))) T387 (.nd (.nd (.nd .lf T390 .lf) T429 (.nd .lf T446 .lf)) T460 (.nd (.nd .lf T465 .lf) T470 (.nd .lf T476 .lf)))))),YB⟩⟩
section
variable{P:ahb}{W:ahc}{H:Type}{enc:aha×ag9->H}
abbrev KI:Nat->Prop:=fun _=>False
abbrev Gw(W:ahc):Nat->Array ag9->Prop:=Im KI [] dc W
abbrev oB(W:ahc)(cs:List ag9)(xs:List AV):Prop:=dk (Gw W) (Sz W) dc cs xs
theorem Pk{b:Nat}{c:Array ag9}{t:aha}{fr:Nat×Nat}(h:W.heap[b]?=some (.cells c t fr)):Gw W b c :=
 ⟨fun h=>h,fun⟨k,x,h,_⟩=>by(cases h),t,fr,h⟩
def cu(P:ahb)(W:ahc)(enc:aha×ag9->H)(t:aha){α:Type}(f:α->AV)(p:α->Prop):Prop :=
  ∀(sp:Nat->Bool)(fuel:Nat)(cs:List ag9)(x:DataW H×List MemPlace),DataW.trod enc P W 0 sp true fuel t cs=some x->(∀n∈x.1.weights P t,n<=reachBytes)->∃a,p a/\oB W cs (f a).cells
theorem vp{v:ag9}{x:AV}(h:Rep (Gw W) (Sz W) dc v x)(h1:x.one=true):oB W [v] [x]:=by
 refine⟨rfl,fun j y hy=>?_,fun j u y hu hy=>?_⟩
 ·match j,hy with
  |0,hy=>cases hy;exact h1
 ·match j,hu,hy with
  |0,hu,hy=>cases hu;cases hy;exact h
theorem aba{t:aha}(ht:P.underlying t=some .bool):cu P W enc t (fun b:Bool=>AV.v (.bool b)) (fun _=>True):=by
 intro sp fuel cs x h hwt;obtain⟨b,rfl,_⟩:=DataW.trod_bool ht h;exact⟨b,trivial,vp (.v _) rfl⟩
theorem Iv{t:aha}{k:IntKind}(ht:P.underlying t=some (.int k)):cu P W enc t (fun n:Int=>AV.v (.int k n)) (fun n=>(Lit.int k n).wf=true):=by
 intro sp fuel cs x h hwt;obtain⟨n,rfl,_,hw⟩:=DataW.trod_int ht h;exact⟨n,hw,vp (.v _) rfl⟩
theorem OL{t:aha}(ht:P.underlying t=some .string):cu P W enc t (fun s:ByteArray=>AV.v (.string s)) (fun s=>s.size<=281474976710656):=by
 intro sp fuel cs x h hwt;obtain⟨s,rfl,hx,hs⟩:=DataW.trod_string ht h;have h1:=hwt s.data.toList.length (by rw[hx];simp[DataW.weights]);have h2:s.data.toList.length=s.size:=rfl;exact⟨s,by rw[h2]at h1;exact af2 h1 (by decide),vp (.v _) rfl⟩
theorem cu.map{α β:Type}{t:aha}{f:α->AV}{p:α->Prop}(h:cu P W enc t f p)(g:α->β)(f':β->AV)(p':β->Prop)(hg:∀a,p a->p' (g a)/\f' (g a)=f a):cu P W enc t f' p':=by
 intro sp fuel cs x hx hwt;obtain⟨a,ha,hc⟩:=h sp fuel cs x hx hwt;obtain⟨h1,h2⟩:=hg a ha;exact⟨g a,h1,by rw[h2];exact hc⟩
theorem Q1{cs:List ag9}{off n m:Nat}{xs ys:List AV}(h1:oB W ((cs.drop off).take n) xs)(hx:xs.length=n)(h2:oB W ((cs.drop (off+n)).take m) ys) :
  oB W ((cs.drop off).take (n+m)) (xs++ys):=by
 have e:(cs.drop off).take (n+m)=(cs.drop off).take n++(cs.drop (off+n)).take m:=by
  rw[List.take_add,drop_drop]
 have hl:((cs.drop off).take n).length=n:=by rw[h1.1,hx]
 rw[e];refine⟨by simp only[agf,h1.1,h2.1],fun j y hy=>?_,fun j u y hu hy=>?_⟩
 ·rcases afv j xs.length with g |g
  ·rw[af6 g]at hy;exact h1.2.1 j y hy
  ·rw[af5 g]at hy;exact h2.2.1 _ y hy
 ·rcases afv j xs.length with g |g
  ·rw[af6 g]at hy;rw[af6 oz]at hu;exact h1.2.2 j u y hu hy
  ·rw[af5 g]at hy;rw[af5 oz,hl]at hu;exact h2.2.2 (j-n) u y hu (by rw[<- hx];exact hy)
inductive FlOk(P:ahb)(W:ahc)(enc:aha×ag9->H):List Field->Nat->{α:Type}->(α->List AV)->(α->Prop)->Prop
  |nil (off:Nat):FlOk P W enc [] off (fun _:Unit=>[]) (fun _=>True)
  |cons {fl:Field} {fls:List Field} {off n:Nat} {α β:Type} {f:α->AV} {p:α->Prop} {g:β->List AV} {q:β->Prop} (ho:fl.offset=off) (hn:P.cellsOf fl.type=n) (hf:cu P W enc fl.type f p)
      (hln:∀a,(f a).cells.length=n) (hs:FlOk P W enc fls (off+n) g q):FlOk P W enc (fl::fls) off (fun z:α×β=>(f z.1).cells++g z.2) (fun z=>p z.1/\q z.2)
theorem FlOk.rep{fls:List Field}{off:Nat}{α:Type}{g:α->List AV}{q:α->Prop}(h:FlOk P W enc fls off g q){cs:List ag9}{sp:Nat->Bool}{fuel:Nat}
  (hr:∀fl∈fls,∃x,DataW.trod enc P W 0 sp true fuel fl.type ((cs.drop fl.offset).take (P.cellsOf fl.type))=some x/\∀n∈x.1.weights P fl.type,n<=reachBytes):∃a m,q a/\oB W ((cs.drop off).take m) (g a)/\m=(g a).length:=by
 induction h with
 |nil off=>exact⟨(),0,trivial,⟨by simp,fun j x hx=>by simp at hx,fun j u x hu hx=>by simp at hx⟩,rfl⟩
 | @cons fl fls off n α β f p g q ho hn hf hln hs ih =>
  obtain⟨x,hx,hwx⟩:=hr fl (agt ..);rw[ho,hn]at hx;obtain⟨a,ha,hc⟩:=hf _ _ _ _ hx hwx;obtain⟨b,m,hb,hcb,hm⟩:=ih (fun fl' h'=>hr fl' (agi _ h'));exact⟨(a,b),n+m,⟨ha,hb⟩,Q1 hc (hln a) hcb,by simp only[agf,hln a,hm]⟩
theorem ZU{t:aha}{fs:Array Field}{α:Type}{g:α->List AV}{q:α->Prop}(ht:P.underlying t=some (.struct fs))(hf:FlOk P W enc fs.toList 0 g q)(hn:∀a,(g a).length=P.cellsOf t) :
  cu P W enc t (fun a=>.agg (g a)) q:=by
 intro sp fuel cs x h hwt;obtain⟨xs,n,rfl,hxe,hl,hxl,hel⟩:=DataW.trod_struct ht h
 obtain⟨a,m,ha,hc,hm⟩:=hf.rep (cs:=cs) (sp:=sp) (fuel:=n) (fun fl hfl=>by
  obtain⟨i,hi⟩:=ada hfl;have hi':fs[i]?=some fl:=by simpa using hi
  have h1:=hel i fl hi';have h2:i<xs.length:=by rw[hxl];exact(Array.getElem?_eq_some_iff.1 hi').1
  refine⟨xs[i],by rw[h1,afr h2],fun k hk=>hwt k ?_⟩;rw[hxe];simp only[DataW.weights,ht];exact DataW.weights_mem_each (j:=i) (by simpa using⟨fl,hi',rfl⟩) (by rw[afu,afr h2];rfl) k hk)
 refine⟨a,ha,?_⟩;rw[hm,hn a,<- hl,agw,af1]at hc;exact hc
theorem kU{t:aha}{n:Nat}{fs:Array Field}{α:Type}{g:α->List AV}{q:α->Prop}(ht:P.underlying t=some (.struct fs))(hc:P.cellsOf t=n)(hf:FlOk P W enc fs.toList 0 g q)(hn:∀a,(g a).length=n) :
  cu P W enc t (fun a=>.agg (g a)) q:=ZU ht hf (fun a=>(hn a).trans hc.symm)
theorem F9{α:Type}{q:Nat->α->Prop}:∀(n:Nat),(∀i,i<n->∃a,q i a)->∃l:List α,l.length=n/\∀i a,l[i]?=some a->q i a
 |0,_=>⟨[],rfl,fun i a h=>by simp at h⟩
 |n+1,h=>by
  obtain⟨l,h1,h2⟩:=F9 n (fun i hi=>h i oz);obtain⟨a,ha⟩:=h n oz;refine⟨l++[a],by simp[h1],fun i b hb=>?_⟩;rcases afv i l.length with g |g
  ·rw[af6 g]at hb;exact h2 i b hb
  ·rw[af5 g]at hb
   have hi:i-l.length=0:=by
    rcases abu (i-l.length)with g |g
    ·exact g
    ·rw[af0 (by simp only[af9,agj];omega)]at hb;cases hb
   rw[hi]at hb;cases hb;have:i=n:=by omega
   rw[this];exact ha
theorem YL{a:Addr}{v:ag9}(h:W.cell? a=some v):∃b off,a=⟨b,off,none⟩:=by
 obtain⟨b,off,s⟩:=a;unfold World.cell? at h;split at h
 ·cases s with
  |none=>exact⟨b,off,rfl⟩
  |some s=>simp at h
 ·cases h
theorem KD{b off:Nat}{v:ag9}(h:W.cell? ⟨b,off,none⟩=some v):∃c t fr,W.heap[b]?=some (.cells c t fr)/\c[off]?=some v:=by
 unfold World.cell? at h;split at h
 ·rename_i c t fr hb;exact⟨c,t,fr,hb,by simpa using h⟩
 ·cases h
theorem L4{e:aha}:∀{l:List (DataW H)}{d:DataW H},d∈l->∀n∈d.weights P e,n∈DataW.weightsAll P e l
 |x::l,d,hd,n,hn=>by
  simp only[DataW.weightsAll,aft];rcases agd.1 hd with rfl |hd
  ·exact .inl hn
  ·exact .inr (L4 hd n hn)
theorem lc{t e:aha}{n:Nat}{α:Type}{f:α->AV}{p:α->Prop}(ht:P.underlying t=some (.slice e))(hc:P.cellsOf e=n)(hn:0<n)(hby:acm 0 (P.bytesOf e)=true)(hel:cu P W enc e f p)(hln:∀a,(f a).cells.length=n) :
  cu P W enc t (fun l:List α=>.lst n (l.map f)) (fun l=>(∀a∈l,p a)/\l.length<=281474976710656):=by
 intro sp fuel cs x h hwt;rcases DataW.trod_slice ht h with⟨rfl,_⟩ |⟨a,len,cap,elems,rest,m,_,rfl,hxe,_,hl,hm,hlen,hE,_,_⟩
 ·exact⟨[],⟨fun a ha=>by(cases ha),afz _⟩,vp (.lst0 _ _ _) rfl⟩
 ·obtain⟨l,hll,hq⟩:=F9 (q:=fun i a'=>p a'/\∃cs',W.cells? 0 (a.add (i*n)) n=some cs'/\oB W cs' (f a').cells) len (fun i hi=>by
   have h1:=hE i hi;rw[hc,afr oz,Option.bind_eq_some_iff]at h1;obtain⟨cs',h2,h3⟩:=h1
   obtain⟨a',ha,hc'⟩:=hel _ _ _ _ h3 (fun k hk=>hwt k (by
    rw[hxe];simp only[DataW.weights,ht];exact agi _ (List.mem_append_left _ (L4 (ac6.2 ⟨_,adn (by omega:i<elems.length),rfl⟩) k hk))))
   exact⟨a',ha,cs',h2,hc'⟩)
  have hcm:len<=281474976710656:=by
   have h1:=hwt ((elems.length+rest.length)*P.bytesOf e) (by
    rw[hxe];simp only[DataW.weights,ht,afm];exact agt ..)
   rw[ab7]at hby;have h2:elems.length+rest.length<=(elems.length+rest.length)*P.bytesOf e:=Nat.le_mul_of_pos_right _ hby;have h3:reachBytes<=281474976710656:=by decide
   omega
  refine⟨l,⟨fun a' ha=>?_,by omega⟩,vp ?_ rfl⟩
  ·obtain⟨i,hi⟩:=ada ha;exact(hq i a' hi).1
  ·by_cases h0:len=0
   ·subst h0;have:l=[]:=ac9 hll;subst this;exact .lst0 _ _ _
   ·-- the block
    have hget:∀(i j:Nat)(e' c':AV),(l.map f)[i]?=some e'->e'.cells[j]?=some c'->∃v,W.cell? ((a.add (i*n)).add j)=some v/\Rep (Gw W) (Sz W) dc v c':=by
     intro i j e' c' he hc';rw[afu,afs]at he;obtain⟨a',ha,rfl⟩:=he;obtain⟨_,cs',h2,h3⟩:=hq i a' ha;obtain⟨_,h4,h5⟩:=World.cells?_some h2;have hj:j<n:=by rw[<- hln a'];exact(adw.1 hc').1
     have h6:=h5 j hj;rw[afr oz]at h6;exact⟨_,h6,h3.2.2 j _ c' (afr oz) hc'⟩
    obtain⟨a0,ha0⟩:∃a0,l[0]?=some a0:=⟨l[0]'oz,afr oz⟩
    obtain⟨c0,hc0⟩:∃c0,(f a0).cells[0]?=some c0:=⟨(f a0).cells[0]'(by rw[hln];omega),afr (by rw[hln];omega)⟩
    obtain⟨v0,hv0,_⟩:=hget 0 0 _ _ (by rw[afu,ha0];rfl) hc0;have e0:(a.add (0*n)).add 0=a:=by simp[Addr.add]
    rw[e0]at hv0;obtain⟨b,off,rfl⟩:=YL hv0;obtain⟨c,t',fr,hb,_⟩:=KD hv0;have hll':(l.map f).length=len:=by rw[afm,hll]
    have hcell:∀(i j:Nat)(e' c':AV),(l.map f)[i]?=some e'->e'.cells[j]?=some c'->∃v,c[off+i*n+j]?=some v/\Rep (Gw W) (Sz W) dc v c':=by
     intro i j e' c' he hc';obtain⟨v,hv,hr⟩:=hget i j e' c' he hc';rw[jb,jb]at hv;obtain⟨c2,t2,Ai,hb2,hv2⟩:=KD hv;rw[hb]at hb2;cases hb2;exact⟨v,hv2,hr⟩
    have:=Rep.lst (g:=Gw W) (S:=Sz W) (m:=dc) (b:=b) (off:=off) (cap:=cap) (sz:=n) (es:=l.map f) (cs:=c) (fun i j=>c.getD (off+i*n+j) undef) (Pk hb) oz (by rw[hll']; exact hcm)
     (fun i e' he=>by
      rw[afu,afs]at he;obtain⟨a',_,rfl⟩:=he;exact hln a')
     (fun i j e' c' he hc'=>by
      rw[afu,afs]at he;obtain⟨a',ha,rfl⟩:=he;obtain⟨_,cs',_,h3⟩:=hq i a' ha;exact h3.2.1 j c' hc')
     (fun i j e' c' he hc'=>by
      obtain⟨v,hv,_⟩:=hcell i j e' c' he hc';rw[afx,hv];rfl)
     (fun i j e' c' he hc'=>by
      obtain⟨v,hv,hr⟩:=hcell i j e' c' he hc';rw[afx,hv];exact hr)
    rwa [hll']at this
theorem LE{t:aha}{fs:Array Field}{α:Type}{g:α->List AV}{q:α->Prop}{v:ag9}{d:DataW H}{ps:List MemPlace}{sp:Nat->Bool}{b0:Nat}(ht:P.underlying t=some (.struct fs))
  (ho:cu P W enc t (fun a=>.agg (g a)) q) (hval:Value.okWide P W .any b0 t v) (hd:DataW.Trod enc P W 0 sp true t v d ps) (hwt:∀n∈d.weights P t,n<=reachBytes):∃a,q a/\Rep (Gw W) (Sz W) dc v (.agg (g a)):=by
 unfold Value.okWide at hval;rw[ht]at hval;obtain⟨cs,rfl,_,_⟩:=hval;obtain⟨fuel,hf⟩:=hd;obtain⟨a,ha,hc⟩:=ho _ _ _ _ hf hwt;exact⟨a,ha,.agg (by have:=hc.1;simpa[Value.cells,AV.cells]using this) (fun j c h=>hc.2.1 j c h) (fun j u c hu h=>hc.2.2 j u c (by simpa[Value.cells]using hu) h)⟩
theorem NM{t:aha}{α:Type}{f:α->AV}{q:α->Prop}{v:ag9}{d:DataW H}{ps:List MemPlace}{sp:Nat->Bool}(ho:cu P W enc t f q)(h1:∀a,(f a).cells=[f a])(hv:v.cells=#[v])
  (hd:DataW.Trod enc P W 0 sp true t v d ps) (hwt:∀n∈d.weights P t,n<=reachBytes):∃a,q a/\Rep (Gw W) (Sz W) dc v (f a):=by
 obtain⟨fuel,hf⟩:=hd;rw[hv]at hf;obtain⟨a,ha,hc⟩:=ho _ _ _ _ hf hwt;rw[h1]at hc;exact⟨a,ha,hc.2.2 0 v _ rfl rfl⟩
theorem je.calls{f:FuncId}{args:List AV}{b:Bool}(h:je P f args (.v (.bool b))){vs:Array ag9}(hn:vs.size=args.length)
  (hr:∀(j:Nat) v x,vs[j]?=some v->args[j]?=some x->Rep (Gw W) (Sz W) dc v x) :
  Calls P f vs W fun e W'=>e=.returned (.bool b)/\RowKit.Below W.heap.size W W':=by
 have h0:=h.ret KI dc W vs (fun b h=>h.elim) ⟨fun k x h=>by(cases h),fun k k' x x' b h=>by(cases h),fun k x b h=>by(cases h)⟩ hn hr;refine h0.mono (fun e W' ⟨v,m',he,hf,_,_,_,hv⟩=>?_);cases hv;refine⟨he,hf.os,hf.tape,hf.output,hf.size,fun k hk=>hf.keep k hk ?_⟩;rintro⟨k',x,h9,_⟩;cases h9
open Go.ChangeShapes in
theorem Ti{f:Func}{s:ChangeSpec}{apart fresh handsOn again:Bool}{W':ahc}{args:Array ag9}{v:ag9}{ds gs:List (DataW H)}{before:List MemPlace}
  (hW:DataW.Whole enc P f.params.toList s.vars apart W args.toList ds gs before) (hvs:s.vars=[]) (hgs:gs=[])
  (hres:∀(b:Nat)(sp:Nat->Bool)(hd:Bool),DataW.TrodAll enc P W' b sp hd f.resultTypes.toList (v.resultList f.resultTypes.size) (s.fn H (ds++gs)).results [])
  (hargs:∀sp:Nat->Bool,(∀p∈before,sp p.block=true)->DataW.TrodAll enc P W' 0 sp true f.params.toList args.toList (s.fn H (ds++gs)).args before)
  (hv0:(s.fn H (ds++gs)).vars=[]) (hb:RowKit.Below W.heap.size W W')
  (hok:∀(j:Nat)(t:aha)(r:ag9),f.resultTypes[j]?=some t->(v.resultList f.resultTypes.size)[j]?=some r->Value.okWide P W' .any 0 t r) :
  s.post enc P f apart fresh handsOn again W args v W':=by
 have hlt:=fun p hp=>hW.lt p hp
 have hold:∀p∈before,(fun b=>decide (b<W.heap.size)) p.block=true:=fun p hp=>by simpa using hlt p hp
 have hvars:∀sp:Nat->Bool,DataW.TrodVars enc P W' sp s.vars (s.fn H (ds++gs)).vars []:=fun sp=>by rw[hvs,hv0];rfl
 refine⟨ds,gs,before,[],before,[],hW,hres _ _ _,hargs _ hold,hvars _,World.keptBut_mono (fun p hp=>⟨hp,Or.inr (by simpa using hp)⟩) (hb.frame (·∈before)),fun _=>?_⟩;obtain⟨_,_,_,_,_,hz,hn⟩:=hW;refine⟨hok,_,_,([]++before)++[],⟨[]++before,[],trodAll_append (hargs _ (fun _ _=>rfl)) (hres _ _ _),hvars _,rfl,?_,?_⟩,?_⟩
 ·intro b off hp;have hp':MemPlace.cell b off∈before:=by simpa using hp
  rw[hb.frozen (hlt _ hp')];exact hz b off hp'
 ·intro ha;simpa using hn ha
 ·intro p hp _;simpa using hp
end
theorem ma{l:List Nat}{i x:Nat}(h:i<l.length):val ((l.set i x).take (i+1))=val (l.take i)+4294967296^i*x:=by
 rw[HQ (x:=x) (by simp[h]),List.take_set_of_le (afq _)]
theorem gh{l:List Nat}{i x:Nat}(h:Ws l)(hx:x<4294967296):Ws (l.set i x):=by
 intro y hy;rcases ac4 hy with h1 |h1
 ·exact h y h1
 ·omega
theorem lG(n:Nat):Ws (ad7 n 0):=fun x hx=>by rw[(ad4.1 hx).2];omega
theorem vi:Ws []:=fun _ h=>nomatch h
theorem f9{l:List Nat}(h:Ws l)(n:Nat):Ws (l.take n):=fun x hx=>h x (agr hx)
theorem uM{x:Nat}(h:x<4294967296):Ws [x]:=fun y hy=>by rw[adc.1 hy];exact h
structure Wh where
  neg:Bool
  mag:List Nat
namespace Wh
def valid(w:Wh):Bool:=if w.mag=[]then !w.neg else w.mag.getLast? != some 0
def m(w:Wh):List Nat:=if w.valid then w.mag else[]
def n(w:Wh):Bool:=w.valid&&w.neg
def z(w:Wh):Int:=if w.n then -(val w.m:Int)else val w.m
def av(w:Wh):AV:=.agg [bl w.neg,ws w.mag]
def ok(w:Wh):Prop:=Ws w.mag/\w.mag.length<=aS
end Wh
def sgn(b:Bool)(n:Nat):Int:=if b then -(n:Int)else n
def ofInt(z:Int):Wh:=⟨decide (z<0),ofNat z.natAbs⟩
def zA(z:Int):AV:=(ofInt z).av
theorem Wh.nz(w:Wh):Nz w.m:=by
 unfold Wh.m Wh.valid;intro x hx
 by_cases h:w.mag=[]
 ·rw[h]at hx;split at hx <;> simp at hx
 ·rw[agy h]at hx;split at hx
  ·next h'=>rw[hx]at h';simpa using h'
  ·simp at hx
theorem Wh.ws{w:Wh}(h:w.ok):Ws w.m:=by
 unfold Wh.m;split
 ·exact h.1
 ·exact vi
theorem Wh.m_le{w:Wh}:w.m.length<=w.mag.length:=by
 unfold Wh.m;split <;> simp
theorem Wh.ofNat_m{w:Wh}(h:w.ok):ofNat (val w.m)=w.m:=sR (Wh.ws h) w.nz
theorem Wh.n_val{w:Wh}(hn:w.n=true):val w.m≠0:=by
 have h1:w.m≠[]:=by
  intro h0;unfold Wh.n at hn;rw[afp]at hn;unfold Wh.m at h0;rw[agz hn.1]at h0;have:=hn.1;unfold Wh.valid at this;rw[agz h0,hn.2]at this;cases this
 have:=oP w.nz h1;omega
theorem Wh.n_eq{w:Wh}:w.n=decide (w.z<0):=by
 unfold Wh.z;cases h:w.n with
 |true=>have:=Wh.n_val h;simp;omega
 |false=>simp
theorem Wh.abs{w:Wh}:w.z.natAbs=val w.m:=by
 unfold Wh.z;split <;> omega
theorem Wh.z_eq{w:Wh}:w.z=sgn w.n (val w.m):=rfl
theorem H2(z:Int):(ofInt z).valid=true:=by
 unfold ofInt Wh.valid;dsimp only;split
 ·next h =>
  have h1:=cc z.natAbs;rw[h]at h1;have:z=0:=by simp[val]at h1;omega
  subst this;rfl
 ·next h =>
  have:=qR z.natAbs;cases hl:(ofNat z.natAbs).getLast? with
  |none=>rfl
  |some x=>have:=this x hl;simp[this]
theorem TQ(z:Int):(ofInt z).m=ofNat z.natAbs:=by unfold Wh.m;rw[agz (H2 z)];rfl
theorem Xb(z:Int):(ofInt z).n=decide (z<0):=by unfold Wh.n;rw[H2 z];rfl
theorem dV(z:Int):(ofInt z).z=z:=by
 unfold Wh.z;rw[Xb,TQ,cc];split
 ·next h=>simp at h;omega
 ·next h=>simp at h;omega
def Lz(k:Nat)(z:Int):Prop:=z.natAbs<4294967296^k
theorem Lz.len{k:Nat}{z:Int}(h:Lz k z):(ofNat z.natAbs).length<=k:=fv h
theorem Wh.lz{w:Wh}(h:w.ok):Lz w.mag.length w.z:=by
 unfold Lz;rw[Wh.abs];have h1:=b7 w.m (Wh.ws h);exact af3 h1 (acr oz Wh.m_le)
theorem Lz.mono{k l:Nat}{z:Int}(h:Lz k z)(hk:k<=l):Lz l z:=af3 h (acr oz hk)
theorem Lz.add{k l:Nat}{x y:Int}(h:Lz k x)(h':Lz l y):Lz (max k l+1) (x+y):=by
 have h1:=h.mono (Nat.le_max_left k l);have h2:=h'.mono (Nat.le_max_right k l);unfold Lz at *;rw[acq];have:=Int.natAbs_add_le x y;omega
theorem Lz.neg{k:Nat}{x:Int}(h:Lz k x):Lz k (-x):=by unfold Lz at *;omega
theorem Lz.sub{k l:Nat}{x y:Int}(h:Lz k x)(h':Lz l y):Lz (max k l+1) (x-y):=Int.sub_eq_add_neg▸h.add h'.neg
theorem Lz.mul{k l:Nat}{x y:Int}(h:Lz k x)(h':Lz l y):Lz (k+l) (x*y):=by
 unfold Lz at *;rw[aee,agk];exact ac2 h h'
theorem Lz.of_le{k:Nat}{x y:Int}(h:Lz k x)(h':y.natAbs<=x.natAbs):Lz k y:=aga h' h
theorem ui{a b:List Nat}(ha:Ws a)(hb:Nz b)(h:a.length<b.length):val a<val b:=by
 have h1:=b7 a ha;have hb0:b≠[]:=by intro h0;rw[h0]at h;simp at h
 have h2:∃c x,b=c++[x]:=⟨b.dropLast,b.getLast hb0,(adk hb0).symm⟩
 obtain⟨c,x,rfl⟩:=h2;have hx:x≠0:=hb x (by simp);rw[sY];simp at h;have h3:4294967296^a.length<=4294967296^c.length:=acr oz oz;have h4:4294967296^c.length*1<=4294967296^c.length*val [x]:=afw _ (by simp[val];omega);omega
theorem Jn{a b:List Nat}{i:Nat}(ha:Ws a)(hx:ak a i<ak b i):val (a.take (i+1))<val (b.take (i+1)):=by
 rw[db,db];have h1:=b7 (a.take i) (f9 ha i);have h2:4294967296^(a.take i).length<=4294967296^i:=acr oz (by simp;omega);have h3:4294967296^i*(ak a i+1)<=4294967296^i*ak b i:=afw _ hx;rw[acp,Nat.mul_one]at h3;omega
theorem uy(l:List Nat)(i:Nat):val l=val (l.take i)+4294967296^(min i l.length)*val (l.drop i):=by
 conv=>lhs;rw[<- adm i l]
 rw[sY,agu]
theorem EZ{a b:List Nat}{i:Nat}(ha:Ws a)(hl:a.length=b.length)(hi:i<a.length)(he:a.drop (i+1)=b.drop (i+1))(hx:ak a i<ak b i):val a<val b:=by
 rw[uy a (i+1),uy b (i+1),he,hl];have:=Jn ha hx;omega
theorem DP{o c P x y u w:Nat}(h:o+c*P=x+y) :
  (o+P*((c+(u+w))%4294967296))+((c+(u+w))/4294967296)*(P*4294967296)=(x+P*u)+(y+P*w):=by
 have:=ac0 (c+(u+w)) 4294967296;generalize(c+(u+w))%4294967296=r at *;generalize(c+(u+w))/4294967296=q at *;grind
theorem IP{a b out:List Nat}{c n:Nat}(ha:Ws a)(hb:Ws b)(hn:n=max a.length b.length+1)(ho:out.length=n)
  (h:val (out.take n)+c*4294967296^n=val (a.take n)+val (b.take n)):val out=val a+val b:=by
 rw[eY oz,eY oz,eY oz]at h;have h1:=b7 a ha;have h2:=b7 b hb;have h3:4294967296^a.length<=4294967296^max a.length b.length:=acr oz oz;have h4:4294967296^b.length<=4294967296^max a.length b.length:=acr oz oz;subst hn;rw[acq]at h;cases c with
 |zero=>omega
 |succ c =>
  rw[ack]at h;omega
theorem M6{o c P x y u w:Nat}(hu:u<4294967296)(hw:w<4294967296)(hc:c<=1)(h:o+y=x+c*P) :
  let d:=if w+c<=u then u-w-c else u+18446744073709551616-w-c
  (o+P*(d%4294967296))+(y+P*w)=(x+P*u)+(d/2^63)*(P*4294967296):=by
 intro d
 have h0:d%4294967296+w+c=u+(d/2^63)*4294967296:=by
  show d%4294967296+w+c=_
  by_cases h1:w+c<=u
  ·rw[show d=u-w-c from agz h1];omega
  ·rw[show d=u+18446744073709551616-w-c from agy h1];omega
 generalize d/2^63=q at *;generalize d%4294967296=r at *;grind
theorem NT{a b out:List Nat}{c:Nat}(ha:Ws out)(ho:out.length=a.length)(hle:val b<=val a)(hlb:b.length<=a.length)
  (h:val (out.take a.length)+val (b.take a.length)=val (a.take a.length)+c*4294967296^a.length):val out=val a-val b:=by
 rw[eY oz,eY oz,eY oz]at h;have h1:=b7 out ha;rw[ho]at h1;cases c with
 |zero=>omega
 |succ c=>rw[ack]at h;omega
theorem vT{x y:Nat}(hx:x<18446744073709551616)(hy:y<18446744073709551616):mR .or .u64 (x:Int) (y:Int)=((x ||| y:Nat):Int):=by
 show IntKind.u64.wrap (((BitVec.ofInt 64 (x:Int)) ||| (BitVec.ofInt 64 (y:Int))).toNat:Int)=_;simp only[BitVec.toNat_or,BitVec.ofInt_natCast,BitVec.toNat_ofNat];rw[ab4 oz,ab4 oz];exact u64_in (Nat.or_lt_two_pow (n:=64) hx hy)
theorem BS{x y:Nat}(hx:x<4294967296)(hy:y<4294967296):mR .or .u32 (x:Int) (y:Int)=((x ||| y:Nat):Int):=by
 show IntKind.u32.wrap (((BitVec.ofInt 32 (x:Int)) ||| (BitVec.ofInt 32 (y:Int))).toNat:Int)=_;simp only[BitVec.toNat_or,BitVec.ofInt_natCast,BitVec.toNat_ofNat];rw[ab4 oz,ab4 oz];exact u32_in (Nat.or_lt_two_pow (n:=32) hx hy)
theorem It{x y:Nat}(hx:x<4294967296)(hy:y<4294967296):mR .and .u32 (x:Int) (y:Int)=((x &&& y:Nat):Int):=by
 show IntKind.u32.wrap (((BitVec.ofInt 32 (x:Int)) &&& (BitVec.ofInt 32 (y:Int))).toNat:Int)=_;simp only[BitVec.toNat_and,BitVec.ofInt_natCast,BitVec.toNat_ofNat];rw[ab4 oz,ab4 oz];exact u32_in (aga Nat.and_le_left hx)
theorem uN{q y n:Nat}(hy:y<2^n):q*2^n ||| y=q*2^n+y:=by
 rw[acb,Nat.two_pow_add_eq_or_of_lt hy]
theorem EA{q y n:Nat}(hy:y<2^n):y ||| q*2^n=y+q*2^n:=by
 rw[Nat.or_comm,uN hy,acu]
theorem qM{x n:Nat}(hn:n<=64)(h:x*2^n<18446744073709551616):IntKind.u64.wrap ((x:Int)*2^(min (n:Int).toNat IntKind.u64.bits))=((x*2^n:Nat):Int):=by
 have:min (n:Int).toNat IntKind.u64.bits=n:=by simp[IntKind.bits];omega
 rw[this,show(x:Int)*2^n=((x*2^n:Nat):Int) by simp,u64_in h]
theorem FH{x n:Nat}(hn:n<=32):IntKind.u32.wrap ((x:Int)*2^(min (n:Int).toNat IntKind.u32.bits))=((x*2^n%4294967296:Nat):Int):=by
 have:min (n:Int).toNat IntKind.u32.bits=n:=by simp[IntKind.bits];omega
 rw[this,show(x:Int)*2^n=((x*2^n:Nat):Int) by simp,dq]
theorem qr(x n:Nat)(hn:n<=32):(x:Int).fdiv (2^(min (n:Int).toNat IntKind.u32.bits))=((x/2^n:Nat):Int):=by
 have:min (n:Int).toNat IntKind.u32.bits=n:=by simp[IntKind.bits];omega
 rw[this,aej _ (Int.le_of_lt (Int.pow_pos (by decide)))];simp
theorem Ix{x y:Nat}(hx:x<18446744073709551616):IntKind.u64.wrap ((x:Int).tdiv y)=((x/y:Nat):Int):=by
 rw[<- Int.ofNat_tdiv,u64_in (aga (aca _ _) hx)]
theorem K6{x y:Nat}:(x:Int).tmod y=((x%y:Nat):Int):=(Int.ofNat_tmod _ _).symm
theorem Bw:∀{l:List Nat}{i x:Nat},i<l.length->val (l.set i x)+4294967296^i*ak l i=val l+4294967296^i*x
 |a::l,0,x,_=>by simp[val,ak];omega
 |a::l,i+1,x,h=>by
  have ih:=Bw (l:=l) (i:=i) (x:=x) (by simpa using h);simp only[List.set_cons_succ,val];have hw:ak (a::l) (i+1)=ak l i:=by simp[ak]
  rw[hw,acq];grind
theorem Lr{l:List Nat}{i n x:Nat}(h:i<l.length)(hn:i<n):val ((l.set i x).take n)+4294967296^i*ak l i=val (l.take n)+4294967296^i*x:=by
 rw[List.take_set];have h1:ak (l.take n) i=ak l i:=by simp[ak,hn]
 rw[<- h1];exact Bw (by simp;omega)
theorem Iu{o o' c V P u y w S:Nat}(ho:o'+P*w=o+P*(S%4294967296))(hS:S=c+(u*y+w))(h:o+c*P=V) :
  o'+(S/4294967296)*(P*4294967296)=V+P*(u*y):=by
 have:=ac0 S 4294967296;generalize S%4294967296=r at *;generalize S/4294967296=q at *;subst hS;grind
theorem xS{x y:Nat}(hx:x<4294967296)(hy:y<4294967296):x*y<=18446744065119617025:=by
 have:=abx (show x<=4294967295 by omega) (show y<=4294967295 by omega);omega
theorem Q6{l:List Nat}{i:Nat}(h:i<l.length):l.drop i=ak l i::l.drop (i+1):=by
 rw[adr h];congr 1;have:=jG h;rw[afr h]at this;exact Option.some.inj this
theorem r9{l:List Nat}{i:Nat}(h:i<l.length):val (l.drop i)=ak l i+4294967296*val (l.drop (i+1)):=by
 rw[Q6 h];rfl
theorem HK{l:List Nat}{i x:Nat}(h:i<l.length):val ((l.set i x).drop i)=x+4294967296*val (l.drop (i+1)):=by
 rw[r9 (by simpa using h)];have h1:ak (l.set i x) i=x:=by simp[ak,h]
 have h2:(l.set i x).drop (i+1)=l.drop (i+1):=by rw[List.drop_set_of_lt oz]
 rw[h1,h2]
theorem aE.own1{s:AS}{k d sz off len:Nat}{es es':List AV}(h:lk s.hp k=some (.row sz es))(hd:acm d 1000=true)(he:es=es') :
  aE s (dh [.ms k sz off len]) (.ms d sz off len) [(d,some (.row sz es'))]:=by
 subst he;rw[ab7]at hd;intro ext m w v hh hext hx
 have hown:∀(k':Nat)(z:Blk),lk [(d,some (Blk.row sz es))] k'=some z->k'=d/\z=.row sz es:=by
  intro k' z hz;rw[aD]at hz;split at hz
  ·rename_i h1;cases hz;exact⟨h1,rfl⟩
  ·cases hz
 have him:=fg (ext:=ext) (Frame.refl (aW s.hp m) w) (hp':=[(d,some (.row sz es))]) (m':=fun x=>if x=d then m k else none) (by
  intro k' z b hz hb;obtain⟨rfl,rfl⟩:=hown k' z hz;have hb':(if k'=k' then m k else none)=some b:=hb;rw[agz rfl]at hb';exact .inl ⟨k,_,h,hb'⟩)
 refine⟨fun x=>if x=d then m k else none,⟨?_,?_,?_⟩,?_,?_,?_⟩
 ·intro k' z hz;obtain⟨rfl,rfl⟩:=hown k' z hz;rw[agz rfl];have h1:BlkRep (Im ext s.hp m w) (Sz w) m w (m k) (.row sz es):=hh.blk k _ h
  revert h1
  generalize hmk:m k=o
  suffices h2:∀o,BlkRep (Im ext s.hp m w) (Sz w) m w o (.row sz es)->BlkRep (Im ext [(k',some (.row sz es))] (fun x=>if x=k' then m k else none) w) (Sz w) (fun x=>if x=k' then m k else none) w o (.row sz es) by
   rw[hmk]at h2;exact h2 o
  clear hmk o;intro o h1;cases h1 with
  |none=>exact .none _
  |row hw hn hl hs h1 hr=>exact .row hw hn hl hs h1 (fun i j e u x he hx hu=>(hr i j e u x he hx hu).mono him (fun _ _ h=>h) (fun _ _ _ h=>h))
 ·intro k1 k2 z z' b h1 h2 _ _;rw[(hown _ _ h1).1,(hown _ _ h2).1]
 ·intro k' z b hz hb;obtain⟨rfl,rfl⟩:=hown k' z hz;have hb':(if k'=k' then m k else none)=some b:=hb;rw[agz rfl]at hb';exact hh.sep k _ b h hb'
 ·intro k' z b hz hb;obtain⟨rfl,rfl⟩:=hown k' z hz;have hb':(if k'=k' then m k else none)=some b:=hb;rw[agz rfl]at hb';exact⟨k,_,h,hb'⟩
 ·intro k' z hk hz;obtain⟨rfl,rfl⟩:=hown k' z hz;omega
 ·cases hx with
  |ms0 a=>exact .ms0 a _ _ _
  |ms hm hc hS=>exact .ms (by simp;exact hm) hc hS
theorem cO{k:Nat}{x:Option Blk}{z:Blk}(h:lk [(1000,x)] k=some z):1000<=k:=by
 rw[aD]at h;split at h
 ·omega
 ·cases h
end Go.Lw
