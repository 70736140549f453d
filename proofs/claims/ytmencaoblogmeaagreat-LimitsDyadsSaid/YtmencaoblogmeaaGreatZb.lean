/- LimitsDyads: for any linkage and any turn the law returns true and leaves its arguments as they were. No other condition. Part 2 of 9: what the later parts need -/
import Derived.Test.YtmencaoblogmeaaGreatZa
import Derived.KernelRfl
import Derived.Laws.StructEq
import Derived.Test.YtmencaoblogmeaaGreatProg
import Derived.Eval
import Derived.RangeFuncIn
import Derived.Carry
import Derived.ChangeArms
import Derived.DataReads
import Derived.ChangeShapes
import Derived.RowKit
import Derived.ProofKit
import Derived.OpenShut
import Derived.Handed
import Derived.SizedLaws
set_option linter.unusedVariables false
open List (cons_append nil_append map_nil drop_drop)
open List renaming mem_of_getElem? → ar1, mem_cons_of_mem → ass, mem_append → ar9, map_cons → atb, mem_cons → asj, length_cons → asi, mem_cons_self → as2, length_append → asx, length_nil → asu, getD_eq_getElem?_getD → ar2, getElem?_append_left → asq, getElem?_eq_none → asg, all_eq_true → asd, getElem?_take → asy, getElem?_drop → as3, getElem?_map → asa, append_assoc → atc, getElem?_append_right → asm, getElem?_eq_getElem → ar7, drop_eq_nil_of_le → as0, map_append → asz, length_take → aso, take_of_length_le → asn, drop_zero → as8, take_length → asK, not_mem_nil → asf, length_map → ar3, replicate → apf, mem_of_mem_take → apg, getLast?_cons_cons → apl, mem_or_eq_of_mem_set → apo, size_toArray → apr, dropLast_concat_getLast → aps, getElem?_toArray → ap2, append_nil → ap4, mem_iff_getElem → ap5, drop_eq_getElem_cons → ap7, getElem?_eq_some_iff → ap9, eq_nil_of_length_eq_zero → aqc, mem_map → aqd, take_append_drop → aqe, mem_singleton → aqf, getElem_mem → aqh
open Nat renaming eq_of_beq_eq_true → ar4, le_refl → ar8, lt_of_lt_of_le → asp, lt_or_ge → asb, le_trans → asv, mul_le_mul_right → asl, mul_le_mul_left → ash, zero_le → ase, pow_add → as6, lt_of_le_of_lt → asw, add_mul → an5, ble_eq → an7, div_add_mod → aoa, blt → aob, ble_eq_true_of_le → aof, mul_comm → aog, blt_eq → aoh, zero_add → aoj, pow_le_pow_right → aok, mod_eq_of_lt → aol, mul_add → aom, min_eq_left → aon, div_le_self → aop, ne_of_beq_eq_false → aor, div_lt_iff_lt_mul → aos, mod_lt → aou, eq_zero_or_pos → aov, add_zero → aoy, mul_le_mul → aoz, add_assoc → ao0, pow_succ → ao1, pow_mul → ao3, beq → ao6, add_comm → ao7, mul_lt_mul'' → apb, beq_refl → apc, succ_mul → ape
open Option renaming map_eq_some_iff → ar6, map_some → arz
open Bool renaming and_eq_true → ar5, or_eq_true → ata, false_eq_true → aq9, false_and → ard
open Array renaming getD_eq_getD_getElem? → asc, length_toList → arm, getElem?_toList → arn, getElem?_eq_getElem → aro, getElem?_extract → arp, toList_inj → arq, getElem?_append → ars, size_append → art, getElem?_push → aru
open Int renaming toNat_natCast → as4, fdiv_eq_ediv_of_nonneg → aqo, natAbs_mul → aqv
open Go renaming Operand → atn, Value → ato, TypeId → atp, Program → atq, World → atr
open Go.Result renaming andThen_ok → ats
open Go.Sem renaming run_bind → att, run_pure → atu
open Go.Proofs.Tryz
namespace Go.Lw
variable{P:atq}{N:Nat}{s:AS}
theorem Sub.refl(x:AV):Sub x x:=fun _ _ _ _ h=>h
inductive SlW(sl:bN):bN->Prop
  |nil:SlW sl []
  |cons {t:Nat} {x y:AV} {l:bN} (h:lk sl t=some y) (hs:Sub y x) (hl:SlW sl l):SlW sl ((t,some x)::l)
theorem SlW.get{sl l:bN}(h:SlW sl l){t:Nat}{x:AV}(hx:lk l t=some x):∃y,lk sl t=some y/\Sub y x:=by
 induction h with
 |nil=>cases hx
 | @cons t' x' y l h1 h2 _ ih =>
  rw[aE]at hx;split at hx
  ·cases hx;subst_vars;exact⟨y,h1,h2⟩
  ·exact ih hx
theorem SlW.same{sl l:bN}{t:Nat}{x:AV}(h:lk sl t=some x)(hl:SlW sl l):SlW sl ((t,some x)::l):=.cons h (.refl x) hl
def jN(e e':AV):Prop:=e.cells.length=e'.cells.length/\∀(j:Nat)(x y:AV),e.cells[j]?=some x->e'.cells[j]?=some y->y.one=true/\Sub x y
inductive BlkSub:Blk->Blk->Prop
  |refl (x:Blk):BlkSub x x
  |row {sz:Nat} {es es':List AV} (hn:es.length=es'.length) (h:∀(i:Nat)(e e':AV),es[i]?=some e->es'[i]?=some e'->jN e e'):BlkSub (.row sz es) (.row sz es')
  |box {cs cs':List AV} (hn:cs.length=cs'.length) (h1:∀(j:Nat)(x:AV),cs'[j]?=some x->x.one=true)
      (h:∀(j:Nat)(x y:AV),cs[j]?=some x->cs'[j]?=some y->Sub x y):BlkSub (.box cs) (.box cs')
  |vecRow {vs:List ato} (hl:vs.length<=aF):BlkSub (.vec vs) (.row 1 (vs.map .v))
inductive HpW(hp:Hp):Hp->Prop
  |nil:HpW hp []
  |cons {k:Nat} {x y:Blk} {l:Hp} (h:lk hp k=some y) (hs:BlkSub y x) (hl:HpW hp l):HpW hp ((k,some x)::l)
theorem HpW.k{hp l:Hp}{k:Nat}{x:Blk}(hl:HpW hp l)(h:lk hp k=some x:=by exact rfl):HpW hp ((k,some x)::l):=.cons h (.refl x) hl
theorem HpW.same{hp l:Hp}{k:Nat}{x:Blk}(h:lk hp k=some x)(hl:HpW hp l):HpW hp ((k,some x)::l):=.cons h (.refl x) hl
theorem HpW.get{hp l:Hp}(h:HpW hp l){k:Nat}{x:Blk}(hx:lk l k=some x):∃y,lk hp k=some y/\BlkSub y x:=by
 induction h with
 |nil=>cases hx
 | @cons t' x' y l h1 h2 _ ih =>
  rw[aE]at hx;split at hx
  ·cases hx;subst_vars;exact⟨y,h1,h2⟩
  ·exact ih hx
theorem lc{α β:Type}{l:List α}{l':List β}(hn:l.length=l'.length){j:Nat}{x:α}(hx:l[j]?=some x):∃y,l'[j]?=some y:=by
 have hj:j<l.length:=by
  rcases asb j l.length with h |h
  ·exact h
  ·rw[asg h]at hx;cases hx
 exact⟨_,ar7 oz⟩
theorem BlkSub.rep{g:Nat->Array ato->Prop}{S:Nat->Nat->Prop}{m:Nat->Option Nat}{w:atr}{o:Option Nat}{x y:Blk}(h:BlkSub x y)(hr:BlkRep g S m w o x):BlkRep g S m w o y:=by
 cases h with
 |refl=>exact hr
 | @row sz es es' hn h =>
  cases hr with
  |none =>
   have:es'=[]:=aqc hn.symm;subst this;exact .none _
  |row hw hn' hl hs h1 aV =>
   refine .row hw (by rw[<- hn];exact hn') oz ?_ ?_ ?_
   ·intro i e' he';obtain⟨e,he⟩:=lc hn.symm he';rw[<- (h i e e' he he').1];exact hs i e he
   ·intro i j e' x' he' hx';obtain⟨e,he⟩:=lc hn.symm he';obtain⟨x,hx⟩:=lc (h i e e' he he').1.symm hx';exact((h i e e' he he').2 j x x' hx hx').1
   ·intro i j e' u x' he' hx' hu;obtain⟨e,he⟩:=lc hn.symm he';obtain⟨x,hx⟩:=lc (h i e e' he he').1.symm hx';exact((h i e e' he he').2 j x x' hx hx').2 _ _ _ _ (aV i j e u x he hx hu)
 |box hn h1 h =>
  cases hr with
  |box hw hn' h1' aV =>
   refine .box hw oz h1 (fun j u y hu hy=>?_);obtain⟨z,hz⟩:=lc hn.symm hy;exact h j z y hz hy _ _ _ _ (aV j u z hu hz)
 | @vecRow vs hl =>
  cases hr with
  | @vec _ _ c t hw hc h1 =>
   have gh:c.size=vs.length:=by rw[<- hc];simp
   refine .row hw (by simp;omega) (by simpa using hl) ?_ ?_ ?_
   ·intro i e he;obtain⟨v,hv,rfl⟩:=aqd.1 (ar1 he);rfl
   ·intro i j e x he hx;obtain⟨v,hv,rfl⟩:=aqd.1 (ar1 he);cases j with
    |zero=>cases hx;exact h1 v hv
    |succ j=>cases hx
   ·intro i j e u x he hx hu;rw[asa,ar6]at he;obtain⟨v,hv,rfl⟩:=he;cases j with
    |zero =>
     cases hx;have:c[i]?=some v:=by rw[<- arn,hc];exact hv
     have hu':c[i]?=some u:=by simpa using hu
     rw[this]at hu';cases hu';exact .v _
    |succ j=>cases hx
theorem RelM.weak{C:Ctx}{m:Nat->Option Nat}{a:Act}{w:atr}(h:RelM C s m a w){s':AS}(h1:∀t x,s'.get t=some x->∃y,s.get t=some y/\Sub y x)
  (h2:∀k x,lk s'.hp k=some x->∃y,lk s.hp k=some y/\BlkSub y x):RelM C s' m a w:=by
 have hf:=Frame.refl (aW s.hp m) w
 have bG:∀k' z b,lk s'.hp k'=some z->m k'=some b->aW s.hp m b\/w.heap.size<=b:=fun k' z b hz hb=>by
  obtain⟨y,hy,_⟩:=h2 k' z hz;exact .inl ⟨k',y,hy,hb⟩
 have hu:=h.update hf (hp':=s'.hp) (fun _ _ _ _ _ _ hb=>hb) bG (fun k' z _ hz=>by obtain⟨y,hy,_⟩:=h2 k' z hz;exact⟨⟨y,hy⟩,rfl⟩) ⟨?_,?_,?_⟩
 ·refine⟨?_,hu.heap,hu.frame,hu.new,hu.keep,hu.defers,hu.nt⟩;intro t x hx;obtain⟨y,hy,hs⟩:=h1 t x hx;obtain⟨g1,g2⟩:=hu.slots t y hy;exact⟨g1,hs _ _ _ _ g2⟩
 ·intro k' z hz;obtain⟨y,hy,hs⟩:=h2 k' z hz;exact hs.rep (BlkRep.mono (w:=w) (f0 hf bG) hf.sz (fun _ _ _ h=>h) rfl (fun _ _=>rfl) (h.heap.blk k' y hy))
 ·intro k1 k2 z1 z2 b g1 g2;obtain⟨y1,uA,_⟩:=h2 k1 z1 g1;obtain⟨y2,qD,_⟩:=h2 k2 z2 g2;exact h.heap.inj k1 k2 y1 y2 b uA qD
 ·intro k' z b hz hb;obtain⟨y,hy,_⟩:=h2 k' z hz;exact h.heap.sep k' y b hy hb
theorem Wk.of{sl:bN}{hp:Hp}(h1:SlW s.sl sl)(h2:HpW s.hp hp):Wk s ⟨sl,hp⟩ :=
 fun C m a w hr=>⟨m,hr.weak (fun t x hx=>h1.get hx) (fun k x hx=>h2.get hx)⟩
mutual
def AV.fz(k sz:Nat)(es:List AV):AV->AV
  | .ms k' sz' off len=>match ao6 k' k&&ao6 sz' sz&&Nat.ble (off+len) es.length with
    |true=>.lst sz ((es.drop off).take len)
    |false=>.ms k' sz' off len
  | .agg cs=>.agg (AV.fzs k sz es cs)
  | .tup cs=>.tup (AV.fzs k sz es cs)
  | .fn f cs=>.fn f (AV.fzs k sz es cs)
  | .opt b x=>.opt b (AV.fz k sz es x)
  | .v x=>.v x
  | .lst sz l=>.lst sz l
  | .iptr l=>.iptr l
  | .ptr k off=>.ptr k off
  | .eptr k sz i off=>.eptr k sz i off
  | .yl k=>.yl k
  | .cl f cs ds=>.cl f cs ds
def AV.fzs(k sz:Nat)(es:List AV):List AV->List AV
  |[]=>[]
  |x::l=>AV.fz k sz es x::AV.fzs k sz es l
end
theorem AV.fzs_eq(k sz:Nat)(es:List AV):∀l,AV.fzs k sz es l=l.map (AV.fz k sz es)
 |[]=>rfl
 |x::l=>by simp only[AV.fzs,atb,AV.fzs_eq k sz es l]
theorem AV.fz_one(k sz:Nat)(es:List AV)(x:AV)(h:x.one=true):(x.fz k sz es).one=true:=by
 cases x <;> simp only[AV.fz] <;> first |exact h |(split <;> rfl)
theorem xt{g:Nat->Array ato->Prop}{S:Nat->Nat->Prop}{k sz:Nat}{es:List AV}{m:Nat->Option Nat}{v:ato}{x:AV}(h:Rep g S m v x)
  (hb:∀b,m k=some b->∃c:Array ato,g b c/\es.length*sz<=c.size/\es.length<=aF/\(∀(i:Nat)(e:AV),es[i]?=some e->e.cells.length=sz) /\
   (∀(i j:Nat)(e x:AV),es[i]?=some e->e.cells[j]?=some x->x.one=true) /\
   ∀(i j:Nat)(e:AV)(u:ato)(x:AV),es[i]?=some e->e.cells[j]?=some x->c[i*sz+j]?=some u->Rep g S dO u x):Rep g S m v (x.fz k sz es):=by
 induction h with
 |v x=>exact .v x
 |lst0 a cap sz'=>exact .lst0 a cap sz'
 |lst u hb' hc hl hs h1 hu hr _=>exact .lst u hb' hc hl hs h1 hu hr
 |iptr u hb' h1 hu hr _=>exact .iptr u hb' h1 hu hr
 |ptr h=>exact .ptr h
 |eptr h=>exact .eptr h
 |yl h=>exact .yl h
 |opt h h' ih=>exact .opt (fun pv=>ih pv hb) h'
 |agg hn h1 hr ih =>
  simp only[AV.fz,AV.fzs_eq];refine .agg (by simpa using hn) ?_ ?_
  ·intro j c hc;simp only[asa,ar6]at hc;obtain⟨y,hy,rfl⟩:=hc;exact AV.fz_one _ _ _ _ (h1 j y hy)
  ·intro j u c hu hc;simp only[asa,ar6]at hc;obtain⟨y,hy,rfl⟩:=hc;exact ih j u y hu hy hb
 |tup hn hr ih =>
  simp only[AV.fz,AV.fzs_eq];refine .tup (by simpa using hn) ?_;intro j u c hu hc;simp only[asa,ar6]at hc;obtain⟨y,hy,rfl⟩:=hc;exact ih j u y hu hy hb
 |fn hn hr ih =>
  simp only[AV.fz,AV.fzs_eq];refine .fn (by simpa using hn) ?_;intro j u c hu hc;simp only[asa,ar6]at hc;obtain⟨y,hy,rfl⟩:=hc;exact ih j u y hu hy hb
 |cl hn hr hn' hr' _ _=>exact .cl hn hr hn' hr'
 |ms0 a k' sz' off =>
  simp only[AV.fz];split
  ·simp;exact .lst0 _ _ _
  ·exact .ms0 _ _ _ _
 | @ms mm k' sz' off len cap b hm hc hS =>
  simp only[AV.fz];split
  ·rename_i TP;simp only [ar5,an7] at TP;obtain ⟨⟨h1,h2⟩,h3⟩:=TP;obtain rfl:=ar4 h1;obtain rfl:=ar4 h2;obtain ⟨c,JE,a5,jf,hs,ho,hr⟩:=hb b hm;have cm:((es.drop off).take len).length = len:=by simp; omega
   have dB:∀(i:Nat)(e:AV),((es.drop off).take len)[i]?=some e->es[off+i]?=some e:=by
    intro i e he;rw[asy]at he;split at he
    ·rwa [as3]at he
    ·cases he
   have gj:∀(i j:Nat)(e x:AV),es[i]?=some e->e.cells[j]?=some x->∃u,c[i*sz'+j]?=some u:=by
    intro i j e x he hx
    have hi:i<es.length:=by
     rcases asb i es.length with h |h
     ·exact h
     ·rw[asg h]at he;cases he
    have hj:j<e.cells.length:=by
     rcases asb j e.cells.length with h |h
     ·exact h
     ·rw[asg h]at hx;cases hx
    rw[hs i e he]at hj;have:=oJ (sz:=sz') hi;exact⟨_,aro oz⟩
   have:=Rep.lst (g:=g) (S:=S) (m:=mm) (b:=b) (off:=off*sz') (cap:=cap) (sz:=sz') (es:=(es.drop off).take len) (cs:=c)
    (fun i j=>c.getD ((off+i)*sz'+j) undef) JE oz oz (fun i e he=>hs _ e (dB i e he)) (fun i j e x he hx=>ho _ j e x (dB i e he) hx)
    (fun i j e x he hx=>by
     obtain⟨u,hu⟩:=gj _ j e x (dB i e he) hx;rw[asc,hu,<- an5,hu];rfl)
    (fun i j e x he hx=>by
     obtain⟨u,hu⟩:=gj _ j e x (dB i e he) hx;rw[asc,hu];exact hr _ j e u x (dB i e he) hx hu)
   rwa [cm]at this
  ·exact .ms hm hc hS
def kj(f:AV->AV):bN->bN
  |[]=>[]
  |(t,x)::l=>(t,match x with |some x=>some (f x) |none=>none)::kj f l
theorem tY(f:AV->AV):∀(l:bN)(t:Nat),lk (kj f l) t=(lk l t).map f
 |[],t=>rfl
 |(t',x)::l,t=>by
  simp only[kj,aE,tY f l t];split
  ·cases x <;> rfl
  ·rfl
def Blk.map(f:AV->AV):Blk->Blk
  | .box cs=>.box (cs.map f)
  | .row sz es=>.row sz es
  | .loop d st pe sl=>.loop d st pe (kj f sl)
  | .vec vs=>.vec vs
theorem BlkRep.mapLoop{g g':Nat->Array ato->Prop}{S S':Nat->Nat->Prop}{m m':Nat->Option Nat}{w:atr}{o:Option Nat}{d:LpD}{st:LoopState}{pe:Option Code}{sl:bN}(f:AV->AV)
  (h:BlkRep g S m w o (.loop d st pe sl)) (hf:∀t x v,lk sl t=some x->Rep g S m v x->Rep g' S' m' v (f x)):BlkRep g' S' m' w o (.loop d st pe (kj f sl)):=by
 cases h with
 |loop h h1 h2 h3 h4 h5 hn hr =>
  refine .loop h h1 h2 h3 h4 h5 hn (fun t x hx=>?_);rw[tY,ar6]at hx;obtain⟨y,hy,rfl⟩:=hx;exact⟨(hr t y hy).1,hf t y _ hy (hr t y hy).2⟩
def gp(f:AV->AV)(k:Nat):Hp->Hp
  |[]=>[]
  |(k',x)::l=>(k',match ao6 k' k with |true=>none |false=>match x with |some x=>some (x.map f) |none=>none)::gp f k l
theorem oN(f:AV->AV)(k:Nat):∀(l:Hp)(t:Nat),lk (gp f k l) t=if t=k then none else(lk l t).map (Blk.map f)
 |[],t=>by simp[gp,lk]
 |(k',x)::l,t=>by
  simp only[gp,aE,oN f k l t]
  by_cases h1:t=k'
  ·subst h1;rw[ate rfl,ate rfl];cases hb:ao6 t k with
   |true=>rw[ate (ar4 hb)]
   |false=>rw[atd (aor hb)];cases x <;> rfl
  ·rw[atd h1,atd h1]
theorem Wk.freeze{k sz:Nat}{es:List AV}(hk:s.blk k=some (.row sz es)):Wk s ⟨kj (AV.fz k sz es) s.sl,gp (AV.fz k sz es) k s.hp⟩:=by
 intro C m a w hr;refine⟨m,?_⟩
 have uB:∀k' z,lk ((k,none)::s.hp) k'=some z->lk s.hp k'=some z:=by
  intro k' z hz;rw[aE]at hz;split at hz
  ·cases hz
  ·exact hz
 have a8:=hr.fewer uB
 have hb:∀b,m k=some b->∃c:Array ato,Im C.ext ((k,none)::s.hp) m w b c/\es.length*sz<=c.size/\es.length<=aF/\(∀(i:Nat)(e:AV),es[i]?=some e->e.cells.length=sz) /\
   (∀(i j:Nat)(e x:AV),es[i]?=some e->e.cells[j]?=some x->x.one=true) /\
   ∀(i j:Nat)(e:AV)(u:ato)(x:AV),es[i]?=some e->e.cells[j]?=some x->c[i*sz+j]?=some u->Rep (Im C.ext ((k,none)::s.hp) m w) (Sz w) dO u x:=by
  intro b hm;obtain⟨c,t,hw,hn,hl,hs,ho,aV⟩:=vU hr.heap hk hm;have dD:=f0 (ext:=C.ext) (Frame.refl (aW s.hp m) w) (hp':=(k,none)::s.hp) (m':=m) (fun k' z b' hz hb'=>.inl ⟨k',z,uB k' z hz,hb'⟩);refine⟨c,⟨(hr.heap.sep k _ b hk hm).1,?_,t,(0,0),hw⟩,hn,hl,hs,ho,fun i j e u x he hx hu=>(aV i j e u x he hx hu).mono dD (fun _ _ h=>h) (fun _ _ _ h=>h)⟩;rintro⟨k',z,hz,hb'⟩;have:=hr.heap.inj k k' _ z b hk (uB k' z hz) hm hb';subst this;rw[aE,ate rfl]at hz;cases hz
 have dZ:∀k' z,lk (gp (AV.fz k sz es) k s.hp) k'=some z->∃y,lk ((k,none)::s.hp) k'=some y/\z=y.map (AV.fz k sz es):=by
  intro k' z hz;rw[oN]at hz;split at hz
  ·cases hz
  ·rename_i aO;simp only[ar6]at hz;obtain⟨y,hy,rfl⟩:=hz;exact⟨y,by rw[aE,atd aO];exact hy,rfl⟩
 have ux:∀k' y,lk ((k,none)::s.hp) k'=some y->lk (gp (AV.fz k sz es) k s.hp) k'=some (y.map (AV.fz k sz es)):=by
  intro k' y hy;rw[aE]at hy;split at hy
  ·cases hy
  ·rename_i aO;rw[oN,atd aO,hy];rfl
 have e1:aW (gp (AV.fz k sz es) k s.hp) m=aW ((k,none)::s.hp) m:=by
  funext b;apply propext;constructor
  ·rintro⟨k',z,hz,hb⟩;obtain⟨y,hy,_⟩:=dZ k' z hz;exact⟨k',y,hy,hb⟩
  ·rintro⟨k',y,hy,hb⟩;exact⟨k',_,ux k' y hy,hb⟩
 have e2:Im C.ext (gp (AV.fz k sz es) k s.hp) m w=Im C.ext ((k,none)::s.hp) m w:=by funext b cs;simp only[Im,e1]
 refine⟨?_,⟨?_,?_,?_⟩,a8.frame,?_,?_,a8.defers,a8.nt⟩
 ·intro t x hx;simp only[AS.get,tY,ar6]at hx;obtain⟨y,hy,rfl⟩:=hx;obtain⟨g1,g2⟩:=a8.slots t y hy;refine⟨g1,?_⟩;show Rep (Im C.ext (gp (AV.fz k sz es) k s.hp) m w) _ _ _ _;rw[e2];exact xt g2 hb
 ·intro k' z hz;obtain⟨y,hy,rfl⟩:=dZ k' z hz;rw[e2];have:=a8.heap.blk k' y hy;cases y with
  |row sz' es'=>exact this
  |vec vs =>
   simp only[Blk.map];generalize m k'=o at this;cases this with
   |vec hw hc h1=>exact .vec hw hc h1
  |loop=>exact this.mapLoop _ (fun _ _ _ _ h=>xt h hb)
  |box cs =>
   simp only[Blk.map];generalize m k'=o at this;cases this with
   |box hw hn h1 aV =>
    refine .box hw (by simpa using hn) ?_ ?_
    ·intro j x hx;simp only[asa,ar6]at hx;obtain⟨y,hy,rfl⟩:=hx;exact AV.fz_one _ _ _ _ (h1 j y hy)
    ·intro j u x hu hx;simp only[asa,ar6]at hx;obtain⟨y,hy,rfl⟩:=hx;exact xt (aV j u y hu hy) hb
 ·intro k1 k2 z1 z2 b g1 g2;obtain⟨y1,uA,_⟩:=dZ k1 z1 g1;obtain⟨y2,qD,_⟩:=dZ k2 z2 g2;exact a8.heap.inj k1 k2 y1 y2 b uA qD
 ·intro k' z b hz hb;obtain⟨y,hy,_⟩:=dZ k' z hz;exact a8.heap.sep k' y b hy hb
 ·intro k' z b hz hb;obtain⟨y,hy,_⟩:=dZ k' z hz;exact a8.new k' y b hy hb
 ·intro k' z qw hz;obtain⟨y,hy,_⟩:=dZ k' z hz;exact a8.keep k' y qw hy
mutual
def AV.rn(k d:Nat):AV->AV
  | .ms k' sz off len=>match ao6 k' k with
    |true=>.ms d sz off len
    |false=>.ms k' sz off len
  | .ptr k' off=>match ao6 k' k with
    |true=>.ptr d off
    |false=>.ptr k' off
  | .eptr k' sz i off=>match ao6 k' k with
    |true=>.eptr d sz i off
    |false=>.eptr k' sz i off
  | .agg cs=>.agg (AV.rns k d cs)
  | .tup cs=>.tup (AV.rns k d cs)
  | .fn f cs=>.fn f (AV.rns k d cs)
  | .opt b x=>.opt b (AV.rn k d x)
  | .yl k'=>match ao6 k' k with
    |true=>.yl d
    |false=>.yl k'
  | .cl f cs ds=>.cl f cs ds
  | .v x=>.v x
  | .lst sz l=>.lst sz l
  | .iptr l=>.iptr l
def AV.rns(k d:Nat):List AV->List AV
  |[]=>[]
  |x::l=>AV.rn k d x::AV.rns k d l
end
theorem AV.rns_eq(k d:Nat):∀l,AV.rns k d l=l.map (AV.rn k d)
 |[]=>rfl
 |x::l=>by simp only[AV.rns,atb,AV.rns_eq k d l]
theorem AV.rn_one(k d:Nat)(x:AV)(h:x.one=true):(x.rn k d).one=true:=by
 cases x <;> simp only[AV.rn] <;> first |exact h |(split <;> rfl)
theorem afd{g:Nat->Array ato->Prop}{S:Nat->Nat->Prop}{k d:Nat}{m m':Nat->Option Nat}{v:ato}{x:AV}(h:Rep g S m v x)(hd:¬x.Names d)
  (h1:m' d=m k) (h2:∀k',k'≠d->m' k'=m k'):Rep g S m' v (x.rn k d):=by
 induction h with
 |v x=>exact .v x
 |lst0 a cap sz'=>exact .lst0 a cap sz'
 |lst u hb hc hl hs ho hu hr _=>exact .lst u hb hc hl hs ho hu hr
 |iptr u hb ho hu hr _=>exact .iptr u hb ho hu hr
 | @ptr _ k' off b hm =>
  simp only[AV.rn];split
  ·rename_i hk;obtain rfl:=ar4 hk;exact .ptr (h1.trans hm)
  ·exact .ptr ((h2 _ (fun e=>hd (e▸.ptr _ _))).trans hm)
 | @eptr _ k' sz i off b hm =>
  simp only[AV.rn];split
  ·rename_i hk;obtain rfl:=ar4 hk;exact .eptr (h1.trans hm)
  ·exact .eptr ((h2 _ (fun e=>hd (e▸.eptr _ _ _ _))).trans hm)
 |ms0 a k' sz' off =>
  simp only[AV.rn];split <;> exact .ms0 _ _ _ _
 |cl hn hr hn' hr' _ _=>exact .cl hn hr hn' hr'
 | @yl _ k' b hm =>
  simp only[AV.rn];split
  ·rename_i hk;obtain rfl:=ar4 hk;exact .yl (h1.trans hm)
  ·exact .yl ((h2 _ (fun e=>hd (e▸.yl _))).trans hm)
 | @ms _ k' sz' off len cap b hm hc hS =>
  simp only[AV.rn];split
  ·rename_i hk;obtain rfl:=ar4 hk;exact .ms (h1.trans hm) hc hS
  ·exact .ms ((h2 _ (fun e=>hd (e▸.ms _ _ _ _))).trans hm) hc hS
 |opt h h' ih=>exact .opt (fun hb=>ih hb (fun hn=>hd (.opt hn)) h1 h2) h'
 |agg hn h1' hr ih =>
  simp only[AV.rn,AV.rns_eq];refine .agg (by simpa using hn) ?_ ?_
  ·intro j c hc;simp only[asa,ar6]at hc;obtain⟨y,hy,rfl⟩:=hc;exact AV.rn_one _ _ _ (h1' j y hy)
  ·intro j u c hu hc;simp only[asa,ar6]at hc;obtain⟨y,hy,rfl⟩:=hc;exact ih j u y hu hy (fun hn=>hd (.agg (ar1 hy) hn)) h1 h2
 |tup hn hr ih =>
  simp only[AV.rn,AV.rns_eq];refine .tup (by simpa using hn) ?_;intro j u c hu hc;simp only[asa,ar6]at hc;obtain⟨y,hy,rfl⟩:=hc;exact ih j u y hu hy (fun hn=>hd (.tup (ar1 hy) hn)) h1 h2
 |fn hn hr ih =>
  simp only[AV.rn,AV.rns_eq];refine .fn (by simpa using hn) ?_;intro j u c hu hc;simp only[asa,ar6]at hc;obtain⟨y,hy,rfl⟩:=hc;exact ih j u y hu hy (fun hn=>hd (.fn (ar1 hy) hn)) h1 h2
def pJ(k d:Nat)(y:Blk)(hp:Hp):Hp:=(d,some (y.map (AV.rn k d)))::gp (AV.rn k d) k hp
theorem sZ{k d:Nat}{y:Blk}{hp:Hp}{k':Nat}{z:Blk}(h:lk (pJ k d y hp) k'=some z) :
  ∃y',lk ((d,some y)::(k,none)::hp) k'=some y'/\z=y'.map (AV.rn k d):=by
 unfold pJ at h;rw[aE]at h ⊢;split at h
 ·rename_i he;rw[ate he];cases h;exact⟨y,rfl,rfl⟩
 ·rename_i he;rw[atd he,aE];rw[oN]at h;split at h
  ·cases h
  ·rename_i hk;rw[atd hk];simp only[ar6]at h;obtain⟨y',hy',rfl⟩:=h;exact⟨y',hy',rfl⟩
theorem Wk.rk{k d:Nat}{y:Blk}(hk:s.blk k=some y)(hd:s.freshB d=true):Wk s ⟨kj (AV.rn k d) s.sl,pJ k d y s.hp⟩:=by
 intro C m a w hr;have hfr:=AS.fresh_of hd;have a8:=hr.rk hk hfr;refine⟨fun k'=>if k'=d then m k else m k',?_⟩
 have ux:∀k' y',lk ((d,some y)::(k,none)::s.hp) k'=some y'->lk (pJ k d y s.hp) k'=some (y'.map (AV.rn k d)):=by
  intro k' y' h;unfold pJ;rw[aE]at h ⊢;split at h
  ·rename_i he;rw[ate he];cases h;rfl
  ·rename_i he;rw[atd he,oN];rw[aE]at h;split at h
   ·cases h
   ·rename_i hk';rw[atd hk',h];rfl
 have e1:aW (pJ k d y s.hp) (fun k'=>if k'=d then m k else m k')=aW ((d,some y)::(k,none)::s.hp) (fun k'=>if k'=d then m k else m k'):=by
  funext b;apply propext;constructor
  ·rintro⟨k',z,hz,hb⟩;obtain⟨y',hy',_⟩:=sZ hz;exact⟨k',y',hy',hb⟩
  ·rintro⟨k',y',hy',hb⟩;exact⟨k',_,ux k' y' hy',hb⟩
 have e2:Im C.ext (pJ k d y s.hp) (fun k'=>if k'=d then m k else m k') w=Im C.ext ((d,some y)::(k,none)::s.hp) (fun k'=>if k'=d then m k else m k') w:=by
  funext b cs;simp only[Im,e1]
 have dD:=f0 (ext:=C.ext) (Frame.refl (aW s.hp m) w) (hp':=(d,some y)::(k,none)::s.hp) (m':=fun k'=>if k'=d then m k else m k') (by
  intro k' z b hz hb;rw[aE]at hz;split at hz
  ·rename_i he;rw[ate he]at hb;exact .inl ⟨k,y,hk,hb⟩
  ·rename_i he;rw[atd he]at hb
   rw[aE]at hz;split at hz
   ·cases hz
   ·exact .inl ⟨k',z,hz,hb⟩)
 have JF:∀v x,¬AV.Names x d->Rep (Im C.ext s.hp m w) (Sz w) m v x->Rep (Im C.ext ((d,some y)::(k,none)::s.hp) (fun k'=>if k'=d then m k else m k') w) (Sz w) (fun k'=>if k'=d then m k else m k') v (x.rn k d):=by
  intro v x hx h;exact afd (h.mono dD (fun _ _ h=>h) (fun _ _ _ h=>h)) hx (ate rfl) (fun k' aO=>atd aO)
 refine⟨?_,⟨?_,?_,?_⟩,a8.frame,?_,?_,a8.defers,a8.nt⟩
 ·intro t x hx;simp only[AS.get,tY,ar6]at hx;obtain⟨z,hz,rfl⟩:=hx;obtain⟨g1,g2⟩:=hr.slots t z hz;refine⟨g1,?_⟩;show Rep (Im C.ext (pJ k d y s.hp) _ w) _ _ _ _;rw[e2];exact JF _ _ (hfr.2.2.1 t z hz) g2
 ·intro k' z hz;obtain⟨y',hy',rfl⟩:=sZ hz;rw[e2]
  have JG:∃k0,lk s.hp k0=some y'/\(if k'=d then m k else m k')=m k0:=by
   rw[aE]at hy';split at hy'
   ·rename_i he;cases hy';exact⟨k,hk,ate he⟩
   ·rename_i he;rw[aE]at hy';split at hy'
    ·cases hy'
    ·exact⟨k',hy',atd he⟩
  obtain⟨k0,lB,hm0⟩:=JG;rw[hm0];have hb:=hr.heap.blk k0 y' lB;have cE:=hfr.2.2.2 k0 y' lB;cases y' with
  |row sz es=>exact BlkRep.mono (w:=w) dD (fun _ _ h=>h) (fun _ _ h=>h.elim) rfl (fun _ _=>rfl) hb
  |vec vs=>exact BlkRep.mono (w:=w) dD (fun _ _ h=>h) (fun _ _ h=>h.elim) rfl (fun _ _=>rfl) hb
  |loop=>exact hb.mapLoop _ (fun t x v hx h=>JF v x (fun hn=>cE ⟨t,x,sj hx,hn⟩) h)
  |box cs =>
   simp only[Blk.map];generalize m k0=o at hb;cases hb with
   |box hw hn h1 aV =>
    refine .box hw (by simpa using hn) ?_ ?_
    ·intro j x hx;simp only[asa,ar6]at hx;obtain⟨z,hz,rfl⟩:=hx;exact AV.rn_one _ _ _ (h1 j z hz)
    ·intro j u x hu hx;simp only[asa,ar6]at hx;obtain⟨z,hz,rfl⟩:=hx;exact JF u z (fun hn=>cE ⟨z,ar1 hz,hn⟩) (aV j u z hu hz)
 ·intro k1 k2 z1 z2 b g1 g2;obtain⟨y1,uA,_⟩:=sZ g1;obtain⟨y2,qD,_⟩:=sZ g2;exact a8.heap.inj k1 k2 y1 y2 b uA qD
 ·intro k' z b hz hb;obtain⟨y',hy',_⟩:=sZ hz;exact a8.heap.sep k' y' b hy' hb
 ·intro k' z b hz hb;obtain⟨y',hy',_⟩:=sZ hz;exact a8.new k' y' b hy' hb
 ·intro k' z qw hz;obtain⟨y',hy',_⟩:=sZ hz;exact a8.keep k' y' qw hy'
theorem Wk.virt(d sz:Nat)(hd:s.freshB d=true):Wk s ⟨s.sl,(d,some (.row sz []))::s.hp⟩ :=
 fun C m a w hr=>⟨_,hr.virt sz (AS.fresh_of hd)⟩
theorem Sub.nM(a:Option Addr)(d sz:Nat):Sub (.v (.slice a 0 0)) (.ms d sz 0 0):=fun g S m v h=>by cases h;exact .ms0 _ _ _ _
theorem Sub.trans{x y z:AV}(h:Sub x y)(h':Sub y z):Sub x z:=fun g S m v hr=>h' g S m v (h g S m v hr)
theorem aD.keep{x:AV}{H':Hp}(h:∀k z,lk H' k=some z->lk s.hp k=some z):aD s x x H':=by
 intro ext m w v hh hext hx;have dD:=f0 (ext:=ext) (Frame.refl (aW s.hp m) w) (hp':=H') (m':=m) (fun k' z b hz hb=>.inl ⟨k',z,h k' z hz,hb⟩);refine⟨m,⟨?_,?_,?_⟩,fun k z b hz hb=>⟨k,z,h k z hz,hb⟩,fun k z _ hz=>⟨⟨z,h k z hz⟩,rfl⟩,hx.mono dD (fun _ _ h=>h) (fun _ _ _ h=>h)⟩
 ·intro k z hz;exact BlkRep.mono (w:=w) dD (fun _ _ h=>h) (fun _ _ _ h=>h) rfl (fun _ _=>rfl) (hh.blk k z (h k z hz))
 ·intro k k' z z' b h1 h2;exact hh.inj k k' z z' b (h _ _ h1) (h _ _ h2)
 ·intro k z b hz hb;exact hh.sep k z b (h k z hz) hb
theorem aD.sub{x r r':AV}{H':Hp}(h:aD s x r H')(hs:Sub r r'):aD s x r' H':=by
 intro ext m w v hh hext hx;obtain⟨m',h1,h2,h3,h4⟩:=h ext m w v hh hext hx;exact⟨m',h1,h2,h3,hs _ _ _ _ h4⟩
theorem aD.pure{x:AV}:aD s x x []:=.keep (fun k z h=>by cases h)
end Go.Lw
namespace Go.Lw
abbrev B:Nat:=4294967296
def val:List Nat->Nat
  |[]=>0
  |x::l=>x+4294967296*val l
def Ws(l:List Nat):Prop:=∀x∈l,x<4294967296
def lS:Nat->Nat->List Nat
  |0,_=>[]
  |f+1,n=>match n with
    |0=>[]
    |n+1=>((n+1)%4294967296)::lS f ((n+1)/4294967296)
def ofNat(n:Nat):List Nat:=lS (n.log2/32+1) n
def Nz(l:List Nat):Prop:=∀x,l.getLast?=some x->x≠0
theorem vY(a b:List Nat):val (a++b)=val a+4294967296^a.length*val b:=by
 induction a with
 |nil=>simp[val]
 |cons x a ih=>simp only[cons_append,val,ih,asi,ao1];grind
theorem co(l:List Nat)(h:Ws l):val l<4294967296^l.length:=by
 induction l with
 |nil=>simp[val]
 |cons x l ih =>
  have h1:=h x (by simp);have h2:=ih (fun y hy=>h y (by simp[hy]));simp only[val,asi,ao1];omega
theorem C0(n:Nat):val (apf n 0)=0:=by
 induction n with
 |zero=>rfl
 |succ n ih=>simp[List.replicate_succ,val,ih]
theorem ahc(f:Nat):lS f 0=[]:=by cases f <;> rfl
theorem Ho(f n:Nat)(h:n≠0):lS (f+1) n=(n%4294967296)::lS f (n/4294967296):=by
 cases n with
 |zero=>exact atk rfl h
 |succ n=>rfl
theorem ST:∀(f n:Nat),n<4294967296^f->val (lS f n)=n:=by
 intro f
 induction f with
 |zero=>intro n h;simp at h;subst h;rfl
 |succ f ih =>
  intro n h
  by_cases h0:n=0
  ·subst h0;rfl
  ·rw[Ho f n h0];simp only[val];rw[ih _ (by rw[ao1]at h;exact Nat.div_lt_of_lt_mul (by rw[aog];exact h))];omega
theorem XH:∀(f n:Nat),Ws (lS f n):=by
 intro f
 induction f with
 |zero=>intro n x h;simp[lS]at h
 |succ f ih =>
  intro n
  by_cases h0:n=0
  ·subst h0;intro x h;simp[lS]at h
  ·rw[Ho f n h0];intro x h;rcases asj.1 h with rfl |h
   ·omega
   ·exact ih _ x h
theorem aa4:∀(f n:Nat),n<4294967296^f->Nz (lS f n):=by
 intro f
 induction f with
 |zero=>intro n h x hx;simp[lS]at hx
 |succ f ih =>
  intro n h
  by_cases h0:n=0
  ·subst h0;intro x hx;simp[lS]at hx
  ·rw [Ho f n h0];have hd:n / 4294967296 < 4294967296 ^ f:=by rw [ao1] at h; exact Nat.div_lt_of_lt_mul (by rw [aog]; exact h)
   intro x hx
   by_cases h1:n/4294967296=0
   ·rw[h1,ahc]at hx;simp at hx;omega
   ·have h2:=ih _ hd x;cases hq:lS f (n/4294967296)with
    |nil =>
     have:=ST f _ hd;rw[hq]at this;simp[val]at this;omega
    |cons y ys =>
     rw[hq]at hx h2;rw[apl]at hx;exact h2 hx
theorem Mn(n:Nat):n<4294967296^(n.log2/32+1):=by
 have h1:n<2^(n.log2+1):=Nat.lt_log2_self;have h2:(4294967296:Nat)=2^32:=by decide
 rw[h2,<- ao3];exact asp h1 (aok (by decide) oz)
theorem cD(n:Nat):val (ofNat n)=n:=ST _ _ (Mn n)
theorem dT(n:Nat):Ws (ofNat n):=XH _ _
theorem vG(n:Nat):Nz (ofNat n):=aa4 _ _ (Mn n)
theorem C6{x:Nat}{l:List Nat}(h:Nz (x::l)):Nz l:=by
 intro y hy;cases l with
 |nil=>simp at hy
 |cons z l=>exact h y (by rw[apl];exact hy)
theorem akr:∀(a b:List Nat),Ws a->Ws b->Nz a->Nz b->val a=val b->a=b:=by
 have key:∀(l:List Nat),Nz l->val l=0->l=[]:=by
  intro l
  induction l with
  |nil=>intro _ _;rfl
  |cons x l ih =>
   intro hn hv;simp only[val]at hv;have:=ih (C6 hn) oz;subst this;exact atk (by omega:x=0) (hn x rfl)
 intro a
 induction a with
 |nil=>intro b _ _ _ hb hv;exact(key b hb hv.symm).symm
 |cons x a ih =>
  intro b ha hb Ew uw hv;cases b with
  |nil=>exact key _ Ew hv
  |cons y b =>
   have h1:=ha x (by simp);have h2:=hb y (by simp);simp only[val]at hv;have:=ih b (fun z hz=>ha z (by simp[hz])) (fun z hz=>hb z (by simp[hz])) (C6 Ew) (C6 uw) oz;subst this;rw[show x=y by omega]
theorem vz{l:List Nat}(h:Ws l)(hn:Nz l):ofNat (val l)=l :=
 akr _ _ (dT _) h (vG _) hn (cD _)
theorem M3{l:List Nat}{n:Nat}(h:Ws l)(hn:Nz l)(hv:val l=n):l=ofNat n:=by subst hv;exact(vz h hn).symm
theorem Xb:ofNat 0=[]:=rfl
theorem ut{l:List Nat}(hn:Nz l)(h:l≠[]):0<val l:=by
 rcases aov (val l)with h0 |h0
 ·exfalso
  induction l with
  |nil=>exact h rfl
  |cons x l ih =>
   simp only[val]at h0
   by_cases hl:l=[]
   ·subst hl;exact hn x rfl oz
   ·exact ih (C6 hn) hl oz
 ·exact h0
theorem gB{n k:Nat}(h:n<4294967296^k):(ofNat n).length<=k:=by
 have hv:=cD n;rcases asb k (ofNat n).length with hlt |hge
 ·exfalso;have aO:ofNat n ≠ []:=by intro e; rw [e] at hlt; simp at hlt
  have qF:ofNat n=(ofNat n).dropLast++[(ofNat n).getLast aO]:=(aps aO).symm;have Ex:(ofNat n).getLast aO≠0:=vG n _ (List.getLast?_eq_some_getLast aO)
  have kt:val (ofNat n)=val (ofNat n).dropLast+4294967296^(ofNat n).dropLast.length*(ofNat n).getLast aO:=by
   conv=>lhs;rw[qF]
   rw[vY];simp[val]
  have cm:(ofNat n).dropLast.length=(ofNat n).length-1:=List.length_dropLast;have h1:4294967296^k<=4294967296^(ofNat n).dropLast.length:=aok (by decide) oz;have h2:4294967296^(ofNat n).dropLast.length*1<=4294967296^(ofNat n).dropLast.length*(ofNat n).getLast aO:=ash _ oz;omega
 ·exact hge
theorem MK{l:List Nat}{i x:Nat}(h:l[i]?=some x):val (l.take (i+1))=val (l.take i)+4294967296^i*x:=by
 have hi:i<l.length:=by
  rcases asb i l.length with h' |h'
  ·exact h'
  ·rw[asg h']at h;cases h
 rw[List.take_add_one,h,vY];simp[val,aso];rw[aon oz]
theorem fX{l:List Nat}{i:Nat}(h:l.length<=i):val (l.take i)=val l:=by rw[asn h]
variable{P:atq}{N:Nat}{R:Array Oper}{s:AS}{pos:String}{after:Array Edge}
def Fz(s:AS)(u:Out):Bool:=u.upd.all fun p=>u.rd.contains p.1||s.freshB p.1
theorem yF{u:Out}(h:Fz s u=true):k9 s u:=by
 intro k hk;obtain⟨p,hp,rfl⟩:=aqd.1 hk;have:=asd.1 h p hp;simp only[ata]at this;rcases this with h |h
 ·exact .inl (by simpa using h)
 ·exact .inr (AS.fresh_of h)
theorem alp{f:FuncId}{fn:Func}{c:Code}{rs:List ResultVar}{args:List AV}{r:AV}(hf:P.funcs[f]?=some fn)(hb:fn.body=some c)
  (hn : (fn.name == "runtime.NumGoroutine") = false) (hrs : fn.results = rs.toArray) (hN : fn.ntmps = N)
  (h:bC P N c (ql P rs r []) ⟨pS 0 args,[]⟩):kU P f args r :=
 Jp hf hb hn hrs hN (fun k z h=>by cases h) h
theorem Nu{x r:AV}(h:x=r):aD s (d7 [x]) r []:=h▸aD.pure
theorem nk{x r:AV}(h:Sub x r):aD s (d7 [x]) r []:=aD.pure.sub h
theorem pO{x y r:AV}(h:AV.tup [x,y]=r):aD s (d7 [x,y]) r []:=h▸aD.pure
theorem zH{x y z r:AV}(h:AV.tup [x,y,z]=r):aD s (d7 [x,y,z]) r []:=h▸aD.pure
theorem ft{x r:AV}(h:Sub x r):aD s x r []:=aD.pure.sub h
theorem fZ{d:Nat}{x y:atn}{k k':IntKind}{a b c:Int}{S T t:atp}
  (hx:Ev s x (.v (.int k a))) (hy:Ev s y (.v (.int k' b))) (hb:0<=b) (hc:a.fdiv (2^(min b.toNat k.bits))=c) (hN:aob d N=true) :
  Step P N R s ⟨some d,.binOp .shr S x y T,t,pos,after,none⟩ ⟨some (.v (.int k c)),[],aj x++aj y,[]⟩:=hc▸Oj hx hy hb hN
theorem nQ{d:Nat}{x y:atn}{k k':IntKind}{a b c:Int}{S T t:atp}
  (hx:Ev s x (.v (.int k a))) (hy:Ev s y (.v (.int k' b))) (hb:0<=b) (hc:k.wrap (a*2^(min b.toNat k.bits))=c) (hN:aob d N=true) :
  Step P N R s ⟨some d,.binOp .shl S x y T,t,pos,after,none⟩ ⟨some (.v (.int k c)),[],aj x++aj y,[]⟩:=hc▸Tt hx hy hb hN
theorem nG{d:Nat}{x y:atn}{k:IntKind}{a b c:Int}{S T t:atp}
  (hx:Ev s x (.v (.int k a))) (hy:Ev s y (.v (.int k b))) (hb:b≠0) (hc:k.wrap (a.tdiv b)=c) (hN:aob d N=true) :
  Step P N R s ⟨some d,.binOp .quo S x y T,t,pos,after,none⟩ ⟨some (.v (.int k c)),[],aj x++aj y,[]⟩:=hc▸Nd hx hy hb hN
theorem AN{d:Nat}{x y:atn}{k:IntKind}{a b c:Int}{S T t:atp}
  (hx:Ev s x (.v (.int k a))) (hy:Ev s y (.v (.int k b))) (hb:b≠0) (hc:a.tmod b=c) (hN:aob d N=true) :
  Step P N R s ⟨some d,.binOp .rem S x y T,t,pos,after,none⟩ ⟨some (.v (.int k c)),[],aj x++aj y,[]⟩:=hc▸Pr hx hy hb hN
theorem lP{d:Nat}{op:BinOp}{x y:atn}{k:IntKind}{a b c:Int}{S T t:atp}
  (hx:Ev s x (.v (.int k a))) (hy:Ev s y (.v (.int k b))) (cS:(match op with | .and | .or | .xor | .andNot=>true |_=>false)=true) (hc:p5 op k a b=c) (hN:aob d N=true) :
  Step P N R s ⟨some d,.binOp op S x y T,t,pos,after,none⟩ ⟨some (.v (.int k c)),[],aj x++aj y,[]⟩:=hc▸Ny hx hy cS hN
theorem dS{x y:atn}{k sz i:Nat}{es:List AV}{e v:AV}{T t:atp}{ti:TI}
  (hx:Ev s x (.eptr k sz i 0)) (hk:s.blk k=some (.row sz es)) (he:es[i]?=some e) (oi:e.cells.length=sz) (hy:Ev s y v) (hv:v.ok=true) (hnm:v.nm=[]) (hT:au P T=some ti)
  (a5:ao6 v.cells.length ti.size=true) (hs:ao6 ti.size sz=true) :
  Step P N R s ⟨none,.store T x y,t,pos,after,none⟩ ⟨none,[(k,some (.row sz (es.set i v)))],aj x++aj y,[k]⟩:=by
 have h1:=ar4 a5;have h2:=ar4 hs;refine El hx hk he hy hv hnm hT a5 (by rw[an7];omega) ?_;unfold over;rw[List.take_zero,nil_append,as0 oz,ap4]
theorem Sub.int{k:IntKind}{a b:Int}(h:a=b):Sub (.v (.int k a)) (.v (.int k b)):=h▸.refl _
theorem BlkSub.of{x y:Blk}(h:x=y):BlkSub x y:=h▸.refl _
theorem Sub.of{x y:AV}(h:x=y):Sub x y:=h▸.refl _
theorem aJ{α:Type}{l:List α}{i:Nat}(h:i<l.length):∃x,l[i]?=some x:=⟨_,ar7 h⟩
theorem aw{α:Type}{f:α->AV}{l:List α}{i:Nat}{x:α}(h:l[i]?=some x):(l.map f)[i]?=some (f x):=by simp[h]
theorem ZY{c:Code}{Q:Exit->AS->Prop}{t sz:Nat}{es:List AV}(ht:s.get t=some (.lst sz es))(h:es.length<=aF->bC P N c Q s):bC P N c Q s:=by
 refine ZM (p:=es.length<=aF) ?_ h;intro C m a w hr;obtain⟨_,h2⟩:=hr.slots t _ ht;generalize a.tmps.getD t undef=u at h2;cases h2 with
 |lst0=>exact ase _
 |lst u hb hc hl=>exact hl
theorem kK{x y:Nat}(h:x+y<18446744073709551616):IntKind.u64.wrap (gw .add (x:Int) (y:Int))=((x+y:Nat):Int):=by
 show IntKind.u64.wrap ((x:Int)+y)=_;rw[IntWalk.u64_in _ oz];simp
theorem Bh{x y:Nat}(h:x*y<18446744073709551616):IntKind.u64.wrap (gw .mul (x:Int) (y:Int))=((x*y:Nat):Int):=by
 show IntKind.u64.wrap ((x:Int)*y)=_;rw[<- Int.natCast_mul,IntWalk.u64_in _ oz]
theorem nW{x y:Nat}(hx:x<18446744073709551616)(hy:y<18446744073709551616) :
  IntKind.u64.wrap (gw .sub (x:Int) (y:Int))=((if y<=x then x-y else x+18446744073709551616-y:Nat):Int):=by
 show IntKind.u64.wrap ((x:Int)-y)=_;simp only[IntKind.wrap,IntKind.signed,IntKind.bits,ard,if_false,aq9];split <;> omega
theorem ef(x:Nat):IntKind.u32.wrap (x:Int)=((x%4294967296:Nat):Int):=by
 simp only[IntKind.wrap,IntKind.signed,IntKind.bits,ard,if_false,aq9];omega
theorem u64_in{x:Nat}(h:x<18446744073709551616):IntKind.u64.wrap (x:Int)=(x:Int):=IntWalk.u64_in _ oz
theorem u32_in{x:Nat}(h:x<4294967296):IntKind.u32.wrap (x:Int)=(x:Int):=IntWalk.u32_in _ oz
theorem i64_in{x:Int}(h:-9223372036854775808<=x/\x<=9223372036854775807):IntKind.i64.wrap x=x:=IntWalk.i64_in _ h
theorem jv(x n:Nat)(hn:n<=64):(x:Int).fdiv (2^(min (n:Int).toNat IntKind.u64.bits))=((x/2^n:Nat):Int):=by
 have:min (n:Int).toNat IntKind.u64.bits=n:=by simp[IntKind.bits];omega
 rw[this,aqo _ (Int.le_of_lt (Int.pow_pos (by decide)))];simp
theorem gG{x:Nat}(h:0<x)(hx:x<=aF):IntKind.i64.wrap (gw .sub (x:Int) 1)=((x-1:Nat):Int):=by
 show IntKind.i64.wrap ((x:Int)-1)=_;unfold aF at hx;rw[IntWalk.i64_in _ oz];omega
theorem AI{x:Nat}(hx:x<=aF):IntKind.i64.wrap (gw .add (x:Int) 1)=((x+1:Nat):Int):=by
 show IntKind.i64.wrap ((x:Int)+1)=_;unfold aF at hx;rw[IntWalk.i64_in _ oz];omega
theorem aL{x:Nat}(hx:x<=aF:=by unfold aF;omega):IntKind.i64.wrap (gw .add (x:Int) 1)=((x+1:Nat):Int):=AI hx
theorem gy{x y:Nat}(hx:x<=aF)(hy:y<=aF):IntKind.i64.wrap (gw .add (x:Int) (y:Int))=((x+y:Nat):Int):=by
 show IntKind.i64.wrap ((x:Int)+y)=_;unfold aF at hx hy;rw[IntWalk.i64_in _ oz];omega
theorem NE{x y:Nat}(h:y<=x)(hx:x<=aF):IntKind.i64.wrap (gw .sub (x:Int) (y:Int))=((x-y:Nat):Int):=by
 show IntKind.i64.wrap ((x:Int)-y)=_;unfold aF at hx;rw[IntWalk.i64_in _ oz];omega
abbrev aA:Nat:=1099511627776
def i64(n:Int):AV:=.v (.int .i64 n)
def u32(n:Nat):AV:=.v (.int .u32 n)
def u64(n:Nat):AV:=.v (.int .u64 n)
def bl(b:Bool):AV:=.v (.bool b)
def ws(l:List Nat):AV:=.lst 1 (l.map u32)
def ak(m:List Nat)(i:Nat):Nat:=m.getD i 0
theorem bX{m:List Nat}(h:Ws m)(i:Nat):ak m i<4294967296:=by
 unfold ak;rw[ar2];cases hi:m[i]? with
 |none=>simp
 |some x=>exact h x (ar1 hi)
theorem lI{m:List Nat}{i:Nat}(h:i<m.length):m[i]?=some (ak m i):=by
 rw[ar7 h,ak,ar2,ar7 h];rfl
theorem vc{m:List Nat}{i:Nat}(h:m.length<=i):ak m i=0:=by
 rw[ak,ar2,asg h];rfl
theorem cB{m:List Nat}{i:Nat}(h:i<m.length):(m.map u32)[i]?=some (u32 (ak m i)):=aw (lI h)
theorem dU{l:List Nat}{i:Nat}:val (l.take (i+1))=val (l.take i)+4294967296^i*ak l i:=by
 rcases asb i l.length with h |h
 ·exact MK (lI h)
 ·rw[vc h,fX h,fX oz];simp
theorem af8{c:Code}{Q:Exit->AS->Prop}{α:Type}{f:α->AV}{l:List α}{t sz:Nat}(ht:s.get t=some (.lst sz (l.map f)))(h:l.length<=aF->bC P N c Q s):bC P N c Q s :=
 ZY ht (fun hl=>h (by simpa using hl))
theorem tl{k sz off len:Nat}{es:List AV}(h:off+len<=es.length):AV.fz k sz es (.ms k sz off len)=.lst sz ((es.drop off).take len):=by
 have h1:Nat.ble (off+len) es.length=true:=aof h;have h2:∀n,ao6 n n=true:=fun n=>apc n
 simp only[AV.fz,h1,h2,Bool.and_self]
theorem cq{k sz len:Nat}{es:List AV}(h:len=es.length):AV.fz k sz es (.ms k sz 0 len)=.lst sz es:=by
 subst h;rw[tl oz,as8,asK]
theorem jy{m:List Nat}{i:Int}{n:Nat}(h:i=n)(hn:n<m.length):(m.map u32)[i.toNat]?=some (u32 (ak m n)):=by
 subst h;exact cB hn
theorem eI{α:Type}{f:α->AV}{l:List α}{i:Int}{n:Nat}{x:α}(h:i=n)(hx:l[n]?=some x):(l.map f)[i.toNat]?=some (f x):=by
 subst h;exact aw hx
theorem r5{d:Nat}{x ix:atn}{kk:IntKind}{i:Int}{k sz off len n:Nat}{T E t:atp}{ti te:TI}
  (hx:Ev s x (.ms k sz off len)) (hi:Ev s ix (.v (.int kk i))) (hT:au P T=some ti) (hk:ti.k=.slice E) (hE:au P E=some te) (a5:te.size=sz)
  (h0:i=(n:Int)) (he:n<len) (hN:aob d N=true) :
  Step P N R s ⟨some d,.indexAddr T x ix,t,pos,after,none⟩ ⟨some (.eptr k sz (off+n) 0),[],aj x++aj ix,[]⟩:=by
 subst h0;have:=mL (R:=R) (t:=t) (pos:=pos) (after:=after) hx hi hT hk hE a5 oz oz hN
 rwa [as4]at this
theorem acy{a b:List Nat}{i:Nat}(ha:i<a.length)(hb:i<b.length)(h:ak a i=ak b i):a[i]=b[i]:=by
 have h1:=lI ha;have h2:=lI hb;rw[ar7 ha]at h1;rw[ar7 hb]at h2;rw[Option.some.inj h1,Option.some.inj h2,h]
theorem dx{x y:Int}(h:-9223372036854775808<=x+y/\x+y<=9223372036854775807):IntKind.i64.wrap (gw .add x y)=x+y:=i64_in h
theorem eO{x y:Int}(h:-9223372036854775808<=x-y/\x-y<=9223372036854775807):IntKind.i64.wrap (gw .sub x y)=x-y:=i64_in h
theorem P8{x y:Int}(h:-9223372036854775808<=x*y/\x*y<=9223372036854775807):IntKind.i64.wrap (gw .mul x y)=x*y:=i64_in h
theorem bI{d:Nat}{x ix:atn}{kk:IntKind}{i:Int}{k sz len n:Nat}{T E t:atp}{ti te:TI}
  (hx:Ev s x (.ms k sz 0 len)) (hi:Ev s ix (.v (.int kk i))) (hT:au P T=some ti) (hk:ti.k=.slice E) (hE:au P E=some te) (a5:te.size=sz)
  (h0:i=(n:Int)) (he:n<len) (hN:aob d N=true) :
  Step P N R s ⟨some d,.indexAddr T x ix,t,pos,after,none⟩ ⟨some (.eptr k sz n 0),[],aj x++aj ix,[]⟩:=by
 have:=r5 (R:=R) (t:=t) (pos:=pos) (after:=after) hx hi hT hk hE a5 h0 he hN
 rwa [aoj]at this
theorem o1{x w:Bool}(h:x=w):(x==w)=true:=by subst h;exact beq_self_eq_true x
theorem o2{c x w:Bool}(hc:c=true)(h:x=w):(c&&x==w)=true:=by subst h;subst hc;simp
theorem o3{c x w:Bool}(h:(c&&x==w)=true):c=true:=by cases c <;> simp_all
end Go.Lw
namespace Go.Lw
variable{P:atq}{N:Nat}{R:Array Oper}{s:AS}{pos:String}{after:Array Edge}
mutual
theorem AV.fz_id(k sz:Nat)(es:List AV):∀x:AV,¬x.Names k->x.fz k sz es=x
 | .ms k' sz' off len,h=>by
  have:ao6 k' k=false:=by
   cases hb:ao6 k' k
   ·rfl
   ·obtain rfl:=ar4 hb;exact atk (AV.Names.ms _ _ _ _) h
  simp only[AV.fz,this,ard]
 | .agg cs,h=>by simp only[AV.fz];rw[AV.fzs_id k sz es cs (fun c hc hn=>h (.agg hc hn))]
 | .tup cs,h=>by simp only[AV.fz];rw[AV.fzs_id k sz es cs (fun c hc hn=>h (.tup hc hn))]
 | .fn f cs,h=>by simp only[AV.fz];rw[AV.fzs_id k sz es cs (fun c hc hn=>h (.fn hc hn))]
 | .cl f cs ds,_=>by simp only[AV.fz]
 | .opt b x,h=>by simp only[AV.fz];rw[AV.fz_id k sz es x (fun hn=>h (.opt hn))]
 | .v x,_=>by simp only[AV.fz]
 | .lst sz l,_=>by simp only[AV.fz]
 | .iptr l,_=>by simp only[AV.fz]
 | .ptr k off,_=>by simp only[AV.fz]
 | .eptr k sz i off,_=>by simp only[AV.fz]
 | .yl k,_=>by simp only[AV.fz]
theorem AV.fzs_id(k sz:Nat)(es:List AV):∀l:List AV,(∀c∈l,¬c.Names k)->AV.fzs k sz es l=l
 |[],_=>by simp only[AV.fzs]
 |x::l,h=>by simp only[AV.fzs];rw[AV.fz_id k sz es x (h x (by simp)),AV.fzs_id k sz es l (fun c hc=>h c (by simp[hc]))]
end
theorem K0{k sz:Nat}{es:List AV}{x:Blk}(h:¬x.Names k):x.map (AV.fz k sz es)=x:=by
 cases x with
 |row=>rfl
 |vec=>rfl
 |box cs =>
  simp only[Blk.map];congr 1;rw[<- AV.fzs_eq];exact AV.fzs_id k sz es cs (fun c hc hn=>h ⟨c,hc,hn⟩)
 |loop d st pe sl =>
  simp only[Blk.map];congr 1
  induction sl with
  |nil=>rfl
  |cons p sl ih =>
   obtain⟨t,x⟩:=p;simp only[kj];rw[ih (fun⟨t',x',h1,h2⟩=>h ⟨t',x',ass _ h1,h2⟩)];cases x with
   |none=>rfl
   |some x=>simp only[AV.fz_id k sz es x (fun hn=>h ⟨t,x,as2 ..,hn⟩)]
theorem ama{o:Oper}{d k sz n:Nat}{es:List AV}{rt rd:List Nat}(hd:o.dst=some d)(hn:n=es.length)(Ey:d∉rd)(jg:d≠k)
  (h:Step P N R s o ⟨some (.ms d sz 0 n),[(d,some (.row sz es)),(k,none)],rt,rd⟩):Step P N R s o ⟨some (.lst sz es),[(d,none),(k,none)],rt,rd⟩:=by
 refine⟨fun s' ao bP C m a w Q next hC hr hnext=>?_⟩
 have hfr:s'.Fresh d:=by
  rcases bP d (by simp)with h |h
  ·exact atk h Ey
  ·exact h
 refine h.run s' ao bP C m a w Q next hC hr (fun m' a' w' hr'=>?_);rw[hd]at hr'
 have hk:(s'.app (some d) ⟨some (.ms d sz 0 n),[(d,some (.row sz es)),(k,none)],rt,rd⟩).blk d=some (.row sz es):=by
  simp[AS.blk,AS.app,aE]
 obtain⟨m2,fy⟩:=Wk.freeze hk C m' a' w' hr';refine hnext m2 a' w' ?_;rw[hd];refine fy.congr ?_ ?_
 ·intro t;simp only[AS.get,tY,AS.app,aE];split
  ·subst hn;have e1:ao6 d d=true:=apc d;have e2:ao6 sz sz=true:=apc sz;have e3:Nat.ble (0+es.length) es.length=true:=aof oz;simp only[arz,AV.fz,e1,e2,e3,Bool.and_self,as8,asK]
  ·cases hx:lk s'.sl t with
   |none=>rfl
   |some x=>simp only[arz];rw[AV.fz_id _ _ _ _ (hfr.2.2.1 t x hx)]
 ·intro k';simp only[AS.blk,oN,AS.app,cons_append,nil_append,aE]
  by_cases h1:k'=d
  ·rw[ate h1,ate h1]
  ·rw[atd h1,atd h1,atd h1];split
   ·rfl
   ·cases hx:lk s'.hp k' with
    |none=>rfl
    |some x=>simp only[arz];rw[K0 (hfr.2.2.2 k' x hx)]
theorem Gi{d k sz len:Nat}{es xs:List AV}{x y:atn}{T E t:atp}{ti te:TI}
  (hx:Ev s x (.ms k sz 0 len)) (hk:s.blk k=some (.row sz es)) (cm:len=es.length) (hy:Ev s y (.lst sz xs)) (hT:au P T=some ti) (jG:ti.k=.slice E) (hE:au P E=some te)
  (a5:te.size=sz) (bb:(ao6 te.zero.length te.size&&aob 0 te.size&&aob 0 te.bytes)=true) (hb:(len+xs.length)*te.bytes<=140737488355328) (jg:ao6 d k=false)
  (hN:aob d N=true) :
  Step P N R s ⟨some d,.call ⟨.builtin .append,#[x,y],#[T,T]⟩,t,pos,after,none⟩
   ⟨some (.lst sz (es++xs)),[(d,none),(k,none)],aj x++aj y,[k]⟩ :=
 ama rfl (by rw[asx,cm]) (by simpa using aor jg) (aor jg) (eQ hx hk cm hy hT jG hE a5 bb hb jg hN)
theorem NY{ρ:atn->ato}{d:Option Tmp}{x y:atn}{T t:atp}{w w':atr}{v:ato}
  (h:(Builtin.copy_ #[T,T] t #[ρ x,ρ y]).run P w=.ok v w') :
  (execOp ρ ⟨d,.call ⟨.builtin .copy,#[x,y],#[T,T]⟩,t,pos,after,none⟩).run P w=.ok (.value v) w':=by
 simp[execOp,resolve,invoke,builtin,h]
set_option maxHeartbeats 1000000 in
theorem ac0{d k sz len:Nat}{es xs:List AV}{x y:atn}{T E t:atp}{ti te:TI}
  (hx:Ev s x (.ms k sz 0 len)) (hk:s.blk k=some (.row sz es)) (cm:len=es.length) (hy:Ev s y (.lst sz xs)) (hT:au P T=some ti) (jG:ti.k=.slice E) (hE:au P E=some te)
  (a5:te.size=sz) (df:aob 0 te.size=true) (hb:xs.length<=len) (hN:aob d N=true) :
  Step P N R s ⟨some d,.call ⟨.builtin .copy,#[x,y],#[T,T]⟩,t,pos,after,none⟩
   ⟨some (.v (.int .i64 xs.length)),[(k,some (.row sz (xs++es.drop xs.length)))],aj x++aj y,[k]⟩:=by
 refine zE rfl ?_;intro s' ao bP C m a w next hC hr hnext;subst a5;subst cm
 rw[aoh]at hN df;have dg:lk s'.hp k=some (.row te.size es):=(ao.2 k (by simp)).trans hk;have hd:d<C.nt:=by omega
 have et:=(hx.agree ao (fun _ h=>ar9.2 (.inl h))).rep hr;have mW:=(hy.agree ao (fun _ h=>ar9.2 (.inr h))).rep hr;obtain⟨dd2,h3,h4,-,hu⟩:=dX hT w;obtain rfl:=i9 (h4.trans jG);obtain⟨ll,iM⟩:∃ll,ll=es.length:=⟨_,rfl⟩
 rw[<- iM]at et
 have z9:∀(w':atr),RelM C ⟨s'.sl,(k,some (.row te.size (xs++es.drop xs.length)))::s'.hp⟩ m a w'->next (a.put (some d) (goInt xs.length)) w':=by
  intro w' hr';refine hnext m _ _ ?_;have:=hr'.put d (.int .i64 xs.length) (some (.v (.int .i64 xs.length))) (fun z hz=>by cases hz;exact⟨asp hd hr'.nt,.v _⟩);simpa[AS.app,Act.put,goInt]using this
 have Aa:∀(b1 a1:Option Addr)(c1 c2 l1:Nat),a.eval x=.slice b1 l1 c1->a.eval y=.slice a1 0 c2->xs=[] ->
   (⟨some d,.call ⟨.builtin .copy,#[x,y],#[T,T]⟩,t,pos,after,none⟩:Oper).upon P a next (fun _ _ _=>False) ((execOp a.eval ⟨some d,.call ⟨.builtin .copy,#[x,y],#[T,T]⟩,t,pos,after,none⟩).run P w):=by
  intro b1 a1 c1 c2 l1 e1 e2 e3;subst e3
  have jX:(Builtin.firstCells te.size 0 (.slice a1 0 c2)).run P w=.ok #[] w:=by
   cases a1 with
   |none=>rfl
   |some a1=>exact run_firstCells_some w _ _ a1 _ _ [] (by simp) (by simp)
  have eW:(Builtin.copy_ #[T,T] t #[.slice b1 l1 c1,.slice a1 0 c2]).run P w=.ok (goInt 0) w:=by
   have e0:Nat.min 0 l1=0:=Nat.zero_min _;cases b1 with
   |none=>simp[Builtin.copy_,h3,gd hE,Builtin.lenOf,e0,jX]
   |some b1=>simp[Builtin.copy_,h3,gd hE,Builtin.lenOf,e0,jX,storeCells]
  rw[NY (ρ:=a.eval) (by rw[e1,e2];exact eW)];refine z9 w ?_;refine RelM.congr (s:=s') (fun t=>rfl) ?_ hr;intro k';simp only[AS.blk,aE];split
  ·subst_vars;rw[dg];rfl
  ·rfl
 rcases I6 mW df with⟨rfl,a1,cap1,iN⟩ |⟨b1,off1,cap1,cs,iN,mZ,dD,TF,sr,fL,iO,a8⟩
 ·generalize d8:a.eval x=u at et;cases et with
  |ms0 a0=>exact Aa _ _ _ _ _ d8 iN rfl
  |ms hm hc hS=>exact Aa _ _ _ _ _ d8 iN rfl
 ·obtain ⟨TG, TH, t1, f1, lw⟩:=dD;have cT:(cs.extract off1 (off1 + xs.length * te.size)).toList.length = xs.length * te.size:=by simp; omega
  have pp:∀(j:Nat) v,(cs.extract off1 (off1+xs.length*te.size)).toList[j]?=some v->w.cell? ((⟨b1,off1,none⟩:Addr).add j)=some v:=by
   intro j v hj;rw[kg,tR lw];rw[arn,arp]at hj;split at hj
   ·exact hj
   ·cases hj
  have jY:∀u∈(cs.extract off1 (off1+xs.length*te.size)).toList,u.oneCell'=true:=by
   intro u hu;obtain⟨p,hp,rfl⟩:=ap5.1 hu;rw[cT]at hp;have hi':p/te.size<xs.length:=by rw[aos df];exact hp
   have he:=ar7 hi';have oi:=fL _ _ he;have mY:p%te.size<te.size:=aou _ df;have lr:=ar7 (show p%te.size<(xs[p/te.size]).cells.length by omega);have ph:p/te.size*te.size+p%te.size=p:=by rw[aog];exact aoa _ _
   have m7:cs[off1+p/te.size*te.size+p%te.size]?=some ((cs.extract off1 (off1+xs.length*te.size)).toList[p]'oz):=by
    rw[ao0,ph];simp only[Array.getElem_toList,Array.getElem_extract];exact aro oz
   exact(a8 _ _ _ _ _ he lr m7).one (iO _ _ _ _ he lr)
  generalize d8:a.eval x=u at et;cases et with
  |ms0 a0=>omega
  | @ms _ _ _ _ _ cap b hm hc hS =>
   subst iM;obtain⟨c,t2,hw,hn,hl,gO,ss,ku⟩:=vU hr.heap dg hm;have Eu:xs.length*te.size<=es.length*te.size:=asl _ hb;have jX:=run_firstCells_some (P:=P) w te.size xs.length ⟨b1,off1,none⟩ xs.length cap1 _ cT pp;have cR:=A9 (P:=P) (cs.extract off1 (off1+xs.length*te.size)).toList c w 0 0 hw (by rw[cT];omega) jY;simp only[aoy]at cR;have JI:Nat.min xs.length es.length=xs.length:=aon hb
   have eW:(Builtin.copy_ #[T,T] t #[.slice (some ⟨b,0*te.size,none⟩) es.length cap,.slice (some ⟨b1,off1,none⟩) xs.length cap1]).run P w =
     .ok (goInt xs.length) { w with heap:=w.heap.setIfInBounds b (.cells (over c.toList 0 (cs.extract off1 (off1+xs.length*te.size)).toList).toArray t2 (0,0)) }:=by
    rw[Nat.zero_mul];generalize(cs.extract off1 (off1+xs.length*te.size)).toList=news at jX cR ⊢;simp[Builtin.copy_,h3,gd hE,Builtin.lenOf,JI,jX,cR]
   rw[NY (ρ:=a.eval) (by rw[d8,iN];exact eW)];refine z9 _ ?_
   have bU:(over c.toList 0 (cs.extract off1 (off1+xs.length*te.size)).toList).toArray.size=c.size:=by
    simp only[apr];rw[vD _ _ _ (by rw[cT];simp;omega)];simp
   refine hr.write (x':=.row te.size (xs++es.drop xs.length)) dg hm hw bU rfl (fun g S hg hS hw'=>?_)
   have qF:∀(i:Nat)(e:AV),(xs++es.drop xs.length)[i]?=some e->(i<xs.length/\xs[i]?=some e)\/(xs.length<=i/\es[i]?=some e):=by
    intro i e he;rcases asb i xs.length with h |h
    ·rw[asq h]at he;exact .inl ⟨h,he⟩
    ·rw[asm h,as3,show xs.length+(i-xs.length)=i by omega]at he;exact .inr ⟨h,he⟩
   refine .row hw' ?_ (by simp;omega) ?_ ?_ ?_
   ·rw [bU];have:(xs ++ es.drop xs.length).length = es.length:=by simp; omega
    rw[this];exact hn
   ·intro i e he;rcases qF i e he with⟨_,h⟩ |⟨_,h⟩
    ·exact fL i e h
    ·exact gO i e h
   ·intro i j e z he hz;rcases qF i e he with⟨_,h⟩ |⟨_,h⟩
    ·exact iO i j e z h hz
    ·exact ss i j e z h hz
   ·intro i j e u z he hz hu;refine Rep.mono hg hS ?_ (fun _ _ _ h=>h);rw [ap2,kZ _ _ _ (by rw [cT]; simp; omega),atd oz,cT] at hu;rcases qF i e he with ⟨hi,h⟩ | ⟨hi,h⟩
    ·have hj:j<te.size:=by
      rw[<- fL i e h];rcases asb j e.cells.length with h |h
      ·exact h
      ·rw[asg h]at hz;cases hz
     have:=oJ (sz:=te.size) hi;rw[ate oz,arn,arp,ate oz]at hu;exact a8 i j e z u h hz (by rw[<- hu];congr 1;omega)
    ·have h9:xs.length*te.size<=i*te.size:=asl _ hi;rw[atd oz,arn]at hu;exact ku i j e u z h hz hu
theorem Sub.lst{sz:Nat}{es es':List AV}(hn:es.length=es'.length)(h:∀(i:Nat)(e e':AV),es[i]?=some e->es'[i]?=some e'->jN e e'):Sub (.lst sz es) (.lst sz es'):=by
 intro g S m v hv;cases hv with
 |lst0 a cap =>
  have:es'=[]:=aqc (by rw[<- hn];rfl);subst this;exact .lst0 _ _ _
 | @lst _ b off cap _ _ cs u hb hc hl hs h1 hu hr =>
  have hg:∀(i:Nat)(e':AV),es'[i]?=some e'->∃e,es[i]?=some e/\jN e e':=by
   intro i e' he';obtain⟨e,he⟩:=lc hn.symm he';exact⟨e,he,h i e e' he he'⟩
  have:=Rep.lst (g:=g) (S:=S) (m:=m) (b:=b) (off:=off) (cap:=cap) (sz:=sz) (es:=es') u hb oz oz
   (fun i e' he'=>by obtain⟨e,he,hc⟩:=hg i e' he';rw[<- hc.1];exact hs i e he)
   (fun i j e' x' he' hx'=>by
    obtain⟨e,he,hc⟩:=hg i e' he';obtain⟨x,hx⟩:=lc hc.1.symm hx';exact(hc.2 j x x' hx hx').1)
   (fun i j e' x' he' hx'=>by
    obtain⟨e,he,hc⟩:=hg i e' he';obtain⟨x,hx⟩:=lc hc.1.symm hx';exact hu i j e x he hx)
   (fun i j e' x' he' hx'=>by
    obtain⟨e,he,hc⟩:=hg i e' he';obtain⟨x,hx⟩:=lc hc.1.symm hx';exact(hc.2 j x x' hx hx').2 _ _ _ _ (hr i j e x he hx))
  rwa [<- hn]at this
end Go.Lw
namespace Go.Lw
variable{P:atq}{N:Nat}{R:Array Oper}{s:AS}{pos:String}{after:Array Edge}
mutual
def AV.fb(k:Nat)(xs:List AV):AV->AV
  | .ptr k' off=>match ao6 k' k with
    |true=>.iptr (xs.drop off)
    |false=>.ptr k' off
  | .agg cs=>.agg (AV.fbs k xs cs)
  | .tup cs=>.tup (AV.fbs k xs cs)
  | .fn f cs=>.fn f (AV.fbs k xs cs)
  | .opt b x=>.opt b (AV.fb k xs x)
  | .v x=>.v x
  | .lst sz l=>.lst sz l
  | .iptr l=>.iptr l
  | .ms k sz off len=>.ms k sz off len
  | .eptr k sz i off=>.eptr k sz i off
  | .yl k=>.yl k
  | .cl f cs ds=>.cl f cs ds
def AV.fbs(k:Nat)(xs:List AV):List AV->List AV
  |[]=>[]
  |x::l=>AV.fb k xs x::AV.fbs k xs l
end
theorem AV.fbs_eq(k:Nat)(xs:List AV):∀l,AV.fbs k xs l=l.map (AV.fb k xs)
 |[]=>rfl
 |x::l=>by simp only[AV.fbs,atb,AV.fbs_eq k xs l]
theorem AV.fb_one(k:Nat)(xs:List AV)(x:AV)(h:x.one=true):(x.fb k xs).one=true:=by
 cases x <;> simp only[AV.fb] <;> first |exact h |(split <;> rfl)
theorem HL{g:Nat->Array ato->Prop}{S:Nat->Nat->Prop}{k:Nat}{xs:List AV}{m:Nat->Option Nat}{v:ato}{x:AV}(h:Rep g S m v x)
  (hb:∀b,m k=some b->∃c:Array ato,g b c/\c.size=xs.length/\(∀(j:Nat)(x:AV),xs[j]?=some x->x.one=true) /\
   ∀(j:Nat)(u:ato)(x:AV),c[j]?=some u->xs[j]?=some x->Rep g S dO u x):Rep g S m v (x.fb k xs):=by
 induction h with
 |v x=>exact .v x
 |lst0 a cap sz'=>exact .lst0 a cap sz'
 |lst u hb' hc hl hs h1 hu hr _=>exact .lst u hb' hc hl hs h1 hu hr
 |iptr u hb' h1 hu hr _=>exact .iptr u hb' h1 hu hr
 |ms0 a k' sz' off=>exact .ms0 _ _ _ _
 |ms hm hc hS=>exact .ms hm hc hS
 |eptr h=>exact .eptr h
 |yl h=>exact .yl h
 |opt h h' ih=>exact .opt (fun pv=>ih pv hb) h'
 |agg hn h1 hr ih =>
  simp only[AV.fb,AV.fbs_eq];refine .agg (by simpa using hn) ?_ ?_
  ·intro j c hc;simp only[asa,ar6]at hc;obtain⟨y,hy,rfl⟩:=hc;exact AV.fb_one _ _ _ (h1 j y hy)
  ·intro j u c hu hc;simp only[asa,ar6]at hc;obtain⟨y,hy,rfl⟩:=hc;exact ih j u y hu hy hb
 |tup hn hr ih =>
  simp only[AV.fb,AV.fbs_eq];refine .tup (by simpa using hn) ?_;intro j u c hu hc;simp only[asa,ar6]at hc;obtain⟨y,hy,rfl⟩:=hc;exact ih j u y hu hy hb
 |fn hn hr ih =>
  simp only[AV.fb,AV.fbs_eq];refine .fn (by simpa using hn) ?_;intro j u c hu hc;simp only[asa,ar6]at hc;obtain⟨y,hy,rfl⟩:=hc;exact ih j u y hu hy hb
 |cl hn hr hn' hr' _ _=>exact .cl hn hr hn' hr'
 | @ptr mm k' off b hm =>
  simp only[AV.fb];split
  ·rename_i h1;obtain rfl:=ar4 h1;obtain⟨c,JE,a5,ho,hr⟩:=hb b hm
   have gj:∀(j:Nat)(x:AV),(xs.drop off)[j]?=some x->∃u,c[off+j]?=some u:=by
    intro j x hx;rw[as3]at hx
    have hi:off+j<xs.length:=by
     rcases asb (off+j) xs.length with h |h
     ·exact h
     ·rw[asg h]at hx;cases hx
    exact⟨_,aro oz⟩
   refine .iptr (fun j=>c.getD (off+j) undef) JE (fun j x hx=>?_) (fun j x hx=>?_) (fun j x hx=>?_)
   ·rw[as3]at hx;exact ho _ x hx
   ·obtain⟨u,hu⟩:=gj j x hx;rw[asc,hu];rfl
   ·obtain⟨u,hu⟩:=gj j x hx;rw[as3]at hx;rw[asc,hu];exact hr _ u x hu hx
  ·exact .ptr hm
theorem Wk.freezeB{k:Nat}{xs:List AV}(hk:s.blk k=some (.box xs))(hnm:(xs.all fun x=>x.nm.isEmpty)=true):Wk s ⟨kj (AV.fb k xs) s.sl,gp (AV.fb k xs) k s.hp⟩:=by
 intro C m a w hr;refine⟨m,?_⟩
 have uB:∀k' z,lk ((k,none)::s.hp) k'=some z->lk s.hp k'=some z:=by
  intro k' z hz;rw[aE]at hz;split at hz
  ·cases hz
  ·exact hz
 have a8:=hr.fewer uB
 have hb:∀b,m k=some b->∃c:Array ato,Im C.ext ((k,none)::s.hp) m w b c/\c.size=xs.length/\(∀(j:Nat)(x:AV),xs[j]?=some x->x.one=true) /\
   ∀(j:Nat)(u:ato)(x:AV),c[j]?=some u->xs[j]?=some x->Rep (Im C.ext ((k,none)::s.hp) m w) (Sz w) dO u x:=by
  intro b hm;obtain⟨c,t,hw,hn,ho,aV⟩:=B6 hr.heap hk hm;have dD:=f0 (ext:=C.ext) (Frame.refl (aW s.hp m) w) (hp':=(k,none)::s.hp) (m':=m) (fun k' z b' hz hb'=>.inl ⟨k',z,uB k' z hz,hb'⟩);refine⟨c,⟨(hr.heap.sep k _ b hk hm).1,?_,t,(0,0),hw⟩,hn,ho,fun j u x hu hx=>(aV j u x hu hx).mono dD (fun _ _ h=>h) (fun k' _ hn _=>?_)⟩
  ·rintro⟨k',z,hz,hb'⟩;have:=hr.heap.inj k k' _ z b hk (uB k' z hz) hm hb';subst this;rw[aE,ate rfl]at hz;cases hz
  ·have h9:=asd.1 hnm x (ar1 hx);have h8:=AV.Names.mem hn;rw[List.isEmpty_iff.1 h9]at h8;cases h8
 have dZ:∀k' z,lk (gp (AV.fb k xs) k s.hp) k'=some z->∃y,lk ((k,none)::s.hp) k'=some y/\z=y.map (AV.fb k xs):=by
  intro k' z hz;rw[oN]at hz;split at hz
  ·cases hz
  ·rename_i aO;simp only[ar6]at hz;obtain⟨y,hy,rfl⟩:=hz;exact⟨y,by rw[aE,atd aO];exact hy,rfl⟩
 have ux:∀k' y,lk ((k,none)::s.hp) k'=some y->lk (gp (AV.fb k xs) k s.hp) k'=some (y.map (AV.fb k xs)):=by
  intro k' y hy;rw[aE]at hy;split at hy
  ·cases hy
  ·rename_i aO;rw[oN,atd aO,hy];rfl
 have e1:aW (gp (AV.fb k xs) k s.hp) m=aW ((k,none)::s.hp) m:=by
  funext b;apply propext;constructor
  ·rintro⟨k',z,hz,hb⟩;obtain⟨y,hy,_⟩:=dZ k' z hz;exact⟨k',y,hy,hb⟩
  ·rintro⟨k',y,hy,hb⟩;exact⟨k',_,ux k' y hy,hb⟩
 have e2:Im C.ext (gp (AV.fb k xs) k s.hp) m w=Im C.ext ((k,none)::s.hp) m w:=by funext b cs;simp only[Im,e1]
 refine⟨?_,⟨?_,?_,?_⟩,a8.frame,?_,?_,a8.defers,a8.nt⟩
 ·intro t x hx;simp only[AS.get,tY,ar6]at hx;obtain⟨y,hy,rfl⟩:=hx;obtain⟨g1,g2⟩:=a8.slots t y hy;refine⟨g1,?_⟩;show Rep (Im C.ext (gp (AV.fb k xs) k s.hp) m w) _ _ _ _;rw[e2];exact HL g2 hb
 ·intro k' z hz;obtain⟨y,hy,rfl⟩:=dZ k' z hz;rw[e2];have:=a8.heap.blk k' y hy;cases y with
  |row sz' es'=>exact this
  |vec vs =>
   simp only[Blk.map];generalize m k'=o at this;cases this with
   |vec hw hc h1=>exact .vec hw hc h1
  |loop=>exact this.mapLoop _ (fun _ _ _ _ h=>HL h hb)
  |box cs =>
   simp only[Blk.map];generalize m k'=o at this;cases this with
   |box hw hn h1 aV =>
    refine .box hw (by simpa using hn) ?_ ?_
    ·intro j x hx;simp only[asa,ar6]at hx;obtain⟨y,hy,rfl⟩:=hx;exact AV.fb_one _ _ _ (h1 j y hy)
    ·intro j u x hu hx;simp only[asa,ar6]at hx;obtain⟨y,hy,rfl⟩:=hx;exact HL (aV j u y hu hy) hb
 ·intro k1 k2 z1 z2 b g1 g2;obtain⟨y1,uA,_⟩:=dZ k1 z1 g1;obtain⟨y2,qD,_⟩:=dZ k2 z2 g2;exact a8.heap.inj k1 k2 y1 y2 b uA qD
 ·intro k' z b hz hb;obtain⟨y,hy,_⟩:=dZ k' z hz;exact a8.heap.sep k' y b hy hb
 ·intro k' z b hz hb;obtain⟨y,hy,_⟩:=dZ k' z hz;exact a8.new k' y b hy hb
 ·intro k' z qw hz;obtain⟨y,hy,_⟩:=dZ k' z hz;exact a8.keep k' y qw hy
def xr(P:atq)(t:atp):Bool:=match P.underlying t with |some (.int .i64)=>true |_=>false
theorem Ia{P:atq}{t:atp}(h:xr P t=true):P.underlying t=some (.int .i64):=by
 unfold xr at h;split at h
 ·assumption
 ·cases h
def Dz(P:atq)(T:atp):Bool:=match P.underlying T with
  |some (.struct fs)=>(match fs.toList with
    | [f, g] => f.name != "_" && g.name != "_" && ao6 f.offset 0 && ao6 g.offset 1 && xr P f.type && xr P g.type
    |_=>false)&&!P.stoodInHeld T&&!P.eqGuardType P.depth T
  |_=>false
theorem Vs{P:atq}{T:atp}(h:Dz P T=true)(w:atr)(a b c d:Int) :
  (Op.equalIn 10000 T (.agg #[.int .i64 a,.int .i64 b]) (.agg #[.int .i64 c,.int .i64 d])).run P w=.ok (a==c&&b==d) w/\P.eqGuardType P.depth T=false:=by
 unfold Dz at h;split at h
 ·rename_i fs hu;rw[ar5,ar5]at h;obtain⟨⟨h,h1⟩,h2⟩:=h;split at h
  ·rename_i f g hfs;simp only [ar5] at h;obtain ⟨⟨⟨⟨⟨g1,g2⟩,g3⟩,g4⟩,g5⟩,g6⟩:=h;have hF:P.fieldsOf T = fs:=by unfold Program.fieldsOf; rw [hu]
   have hs:P.stoodInHeld T=false:=by simpa using h1
   refine ⟨?_,by simpa using h2⟩;have u5:=Ia g5;have u6:=Ia g6;have o3:=ar4 g3;have o4:=ar4 g4;have n1 : f.name ≠ "_" := by simpa using g1
   have n2 : g.name ≠ "_" := by simpa using g2
   rw[run_equalIn_struct w 9999 T _ _ (by rw[hF];exact hu) hs,hF,hfs]
   have e1:∀(x:Int)(y:Int),(part f.type #[.int .i64 x,.int .i64 y] f.offset).run P w=.ok (.int .i64 x) w:=by
    intro x y;simp[part,isAgg,run_underlying u5,o3]
   have e2:∀(x:Int)(y:Int),(part g.type #[.int .i64 x,.int .i64 y] g.offset).run P w=.ok (.int .i64 y) w:=by
    intro x y;simp[part,isAgg,run_underlying u6,o4]
   have e3:∀(x y:Int),(Op.equalIn 9999 f.type (.int .i64 x) (.int .i64 y)).run P w=.ok (x==y) w:=fun x y=>run_equalIn_int w 9998 f.type .i64 .i64 x y u5
   have e4:∀(x y:Int),(Op.equalIn 9999 g.type (.int .i64 x) (.int .i64 y)).run P w=.ok (x==y) w:=fun x y=>run_equalIn_int w 9998 g.type .i64 .i64 x y u6
   simp only[Op.eqFields,n1,n2,ne_eq,not_false_eq_true,if_true,att,e1,e2,e3,e4,ats,Sem.run_ite];cases(a==c) <;> cases(b==d) <;> simp
  ·cases h
 ·cases h
theorem aiy{d:Nat}{x y:atn}{a b c e:Int}{S T t:atp}(hx:Ev s x (.agg [.v (.int .i64 a),.v (.int .i64 b)]))(hy:Ev s y (.agg [.v (.int .i64 c),.v (.int .i64 e)]))
  (hS:Dz P S=true) (hN:aob d N=true) :
  Step P N R s ⟨some d,.binOp .eql S x y T,t,pos,after,none⟩ ⟨some (.v (.bool (a==c&&b==e))),[],aj x++aj y,[]⟩ :=
 dw rfl rfl hN fun s' ao C m ac w hr=>⟨.bool (a==c&&b==e),by
  have h:=(hx.agree ao (fun _ h=>ar9.2 (.inl h))).rep hr;have h':=(hy.agree ao (fun _ h=>ar9.2 (.inr h))).rep hr
  have pair:∀{v:ato}{p q:Int},Rep (Im C.ext s'.hp m w) (Sz w) m v (.agg [.v (.int .i64 p),.v (.int .i64 q)])->v=.agg #[.int .i64 p,.int .i64 q]:=by
   intro v p q hv;cases hv with
   | @agg _ vs _ hn h1 aV =>
    have i0:0<vs.size:=by rw[hn];simp
    have i1:1<vs.size:=by rw[hn];simp
    have r0:=aV 0 vs[0] _ (by simp[i0]) rfl;have r1:=aV 1 vs[1] _ (by simp[i1]) rfl;generalize bb:vs[0]=z0 at r0;generalize df:vs[1]=z1 at r1;cases r0;cases r1
    congr 1;refine Array.ext (by rw[hn];rfl) (fun i hi _=>?_)
    match i,hi with
    |0,_=>exact bb
    |1,_=>exact df
    |i+2,hi=>rw[hn]at hi;simp at hi;omega
  have hu:=pair h;have hv:=pair h';obtain⟨r1,r2⟩:=Vs hS w a b c e;simp only[execOp,hu,hv,att,run_eqGuard_agg w .eql S x y _ _ r2,ats,run_eql_struct,r1,atu],.v _⟩
theorem ah7{d n e:Nat}{x y:atn}{kk:IntKind}{i:Int}{k off sz:Nat}{T t:atp}{ti te:TI}(hx:Ev s x (.ptr k off))(hi:Ev s y (.v (.int kk i)))
  (hT:au P T=some ti) (hk:ti.k=.array n e) (hE:au P e=some te) (a5:te.size=sz) (h0:0<=i) (he:i<(n:Int)) (hN:aob d N=true) :
  Step P N R s ⟨some d,.indexAddr T x y,t,pos,after,none⟩ ⟨some (.ptr k (off+i.toNat*sz)),[],aj x++aj y,[]⟩ :=
 dw rfl rfl hN fun s' ao C m a w hr=>by
  obtain⟨b,hm,hv⟩:=wY hr (hx.agree ao (fun _ h=>ar9.2 (.inl h)));have zV:=pV hr (hi.agree ao (fun _ h=>ar9.2 (.inr h)));obtain⟨d2,h2,h3,-,-⟩:=dX hT w;obtain rfl:=aef (h3.trans hk);subst a5;refine⟨.pointer (some ⟨b,off+i.toNat*te.size,none⟩),?_,.ptr hm⟩;simp[execOp,hv,zV,Instr.indexAt,Instr.sureAddr,asIntOf,h2,h0,he,gd hE,kg]
end Go.Lw
namespace Go.Lw
theorem SlW.k {sl l : bN} {x y : AV} {t : Nat} (hl : SlW sl l) (h : lk sl t = some y := by exact rfl)
  (hs:Sub y x:=by first |exact Sub.refl _ |exact Sub.nil _ _ _ |exact Sub.nM _ _ _ |exact Sub.int oz):SlW sl ((t,some x)::l):=.cons h hs hl
open Go.Proofs
abbrev FP(f:FuncId)(a:List AV)(r:AV):Prop:=kU prog f a r
theorem Wj:prog.follows .mixedOrders=true:=by kernel_rfl
theorem T2:au prog 2=some ⟨1,8,[.int .i64 0],.int .i64,[]⟩:=by kernel_rfl
theorem T3:au prog 3=some ⟨1,8,[.int .i64 0],.int .i64,[]⟩:=by kernel_rfl
theorem T4:au prog 4=some ⟨1,1,[.bool false],.bool,[]⟩:=by kernel_rfl
theorem T5:au prog 5=some ⟨1,1,[.int .u8 0],.int .u8,[]⟩:=by kernel_rfl
theorem T9:au prog 9=some ⟨1,16,[.string ⟨#[]⟩],.string,[]⟩:=by kernel_rfl
theorem T22:au prog 22=some ⟨1,24,[.slice none 0 0],.slice 83,[]⟩:=by kernel_rfl
theorem T23:au prog 23=some ⟨1,24,[.slice none 0 0],.slice 102,[]⟩:=by kernel_rfl
theorem T24:au prog 24=some ⟨1,24,[.slice none 0 0],.slice 73,[]⟩:=by kernel_rfl
theorem T26:au prog 26=some ⟨4,88,[.string ⟨#[]⟩,.slice none 0 0,.slice none 0 0,.slice none 0 0],.struct,[(0,1),(1,1),(2,1),(3,1)]⟩:=by kernel_rfl
theorem T29:au prog 29=some ⟨1,24,[.slice none 0 0],.slice 41,[]⟩:=by kernel_rfl
theorem T30:au prog 30=some ⟨1,24,[.slice none 0 0],.slice 3,[]⟩:=by kernel_rfl
theorem T32:au prog 32=some ⟨1,16,[.nilIface],.iface 1,[]⟩:=by kernel_rfl
theorem T40:au prog 40=some ⟨1,24,[.slice none 0 0],.slice 44,[]⟩:=by kernel_rfl
theorem T41:au prog 41=some ⟨1,24,[.slice none 0 0],.slice 44,[]⟩:=by kernel_rfl
theorem T42:au prog 42=some ⟨1,24,[.slice none 0 0],.slice 87,[]⟩:=by kernel_rfl
theorem T44:au prog 44=some ⟨3,56,[.bool false,.slice none 0 0,.slice none 0 0],.struct,[(0,1),(1,1),(2,1)]⟩:=by kernel_rfl
theorem T46:au prog 46=some ⟨4,64,[.bool false,.slice none 0 0,.slice none 0 0,.bool false],.struct,[(0,3),(3,1)]⟩:=by kernel_rfl
theorem T53:au prog 53=some ⟨1,24,[.slice none 0 0],.slice 104,[]⟩:=by kernel_rfl
theorem T56:au prog 56=some ⟨1,24,[.slice none 0 0],.slice 66,[]⟩:=by kernel_rfl
theorem T57:au prog 57=some ⟨1,24,[.slice none 0 0],.slice 62,[]⟩:=by kernel_rfl
theorem T59:au prog 59=some ⟨1,24,[.slice none 0 0],.struct,[(0,1)]⟩:=by kernel_rfl
theorem T61:au prog 61=some ⟨3,72,[.slice none 0 0,.slice none 0 0,.slice none 0 0],.struct,[(0,1),(1,1),(2,1)]⟩:=by kernel_rfl
theorem T62:au prog 62=some ⟨1,24,[.slice none 0 0],.slice 44,[]⟩:=by kernel_rfl
theorem T66:au prog 66=some ⟨4,96,[.slice none 0 0,.slice none 0 0,.slice none 0 0,.slice none 0 0],.struct,[(0,1),(1,1),(2,1),(3,1)]⟩:=by kernel_rfl
theorem T67:au prog 67=some ⟨1,24,[.slice none 0 0],.slice 71,[]⟩:=by kernel_rfl
theorem T71:au prog 71=some ⟨3,56,[.slice none 0 0,.slice none 0 0,.int .i64 0],.struct,[(0,1),(1,1),(2,1)]⟩:=by kernel_rfl
theorem T73:au prog 73=some ⟨2,24,[.string ⟨#[]⟩,.int .i64 0],.struct,[(0,1),(1,1)]⟩:=by kernel_rfl
theorem T81:au prog 81=some ⟨1,24,[.slice none 0 0],.slice 85,[]⟩:=by kernel_rfl
theorem T83:au prog 83=some ⟨2,40,[.string ⟨#[]⟩,.slice none 0 0],.struct,[(0,1),(1,1)]⟩:=by kernel_rfl
theorem T85:au prog 85=some ⟨7,128,[.string ⟨#[]⟩,.bool false,.slice none 0 0,.slice none 0 0,.bool false,.slice none 0 0,.slice none 0 0],.struct,[(0,1),(1,3),(4,3)]⟩:=by kernel_rfl
theorem T87:au prog 87=some ⟨1,4,[.int .u32 0],.int .u32,[]⟩:=by kernel_rfl
theorem T91:au prog 91=some ⟨1,24,[.slice none 0 0],.slice 179,[]⟩:=by kernel_rfl
theorem T92:au prog 92=some ⟨1,24,[.slice none 0 0],.slice 4,[]⟩:=by kernel_rfl
theorem T94:au prog 94=some ⟨4,80,[.slice none 0 0,.bool false,.slice none 0 0,.slice none 0 0],.struct,[(0,1),(1,1),(2,1),(3,1)]⟩:=by kernel_rfl
theorem T102:au prog 102=some ⟨7,64,[.string ⟨#[]⟩,.int .i64 0,.int .i64 0,.int .i64 0,.int .i64 0,.int .i64 0,.int .i64 0],.struct,[(0,1),(1,1),(2,1),(3,1),(4,1),(5,1),(6,1)]⟩:=by kernel_rfl
theorem T104:au prog 104=some ⟨4,64,[.int .i64 0,.slice none 0 0,.slice none 0 0,.int .i64 0],.struct,[(0,1),(1,1),(2,1),(3,1)]⟩:=by kernel_rfl
theorem T107:au prog 107=some ⟨1,8,[.int .i64 0],.int .i64,[]⟩:=by kernel_rfl
theorem T116:au prog 116=some ⟨1,8,[.pointer none],.pointer 121,[]⟩:=by kernel_rfl
theorem T121:au prog 121=some ⟨8,184,[.string ⟨#[]⟩,.slice none 0 0,.slice none 0 0,.slice none 0 0,.slice none 0 0,.slice none 0 0,.slice none 0 0,.slice none 0 0],.struct,[(0,4),(4,1),(5,1),(6,1),(7,1)]⟩:=by kernel_rfl
theorem T126:au prog 126=some ⟨2,32,[.bool false,.slice none 0 0],.struct,[(0,1),(1,1)]⟩:=by kernel_rfl
theorem T133:au prog 133=some ⟨12,240,[.string ⟨#[]⟩,.slice none 0 0,.slice none 0 0,.slice none 0 0,.int .i64 0,.slice none 0 0,.slice none 0 0,.int .i64 0,.slice none 0 0,.slice none 0 0,.slice none 0 0,.nilIface],.struct,[(0,4),(4,4),(8,3),(11,1)]⟩:=by kernel_rfl
theorem T138:au prog 138=some ⟨2,40,[.slice none 0 0,.nilIface],.struct,[(0,1),(1,1)]⟩:=by kernel_rfl
theorem T141:au prog 141=some ⟨6,112,[.bool false,.slice none 0 0,.slice none 0 0,.bool false,.slice none 0 0,.slice none 0 0],.struct,[(0,3),(3,3)]⟩:=by kernel_rfl
theorem T143:au prog 143=some ⟨2,48,[.slice none 0 0,.slice none 0 0],.struct,[(0,1),(1,1)]⟩:=by kernel_rfl
theorem T145:au prog 145=some ⟨14,272,[.bool false,.slice none 0 0,.slice none 0 0,.bool false,.slice none 0 0,.slice none 0 0,.slice none 0 0,.slice none 0 0,.bool false,.slice none 0 0,.slice none 0 0,.bool false,.slice none 0 0,.slice none 0 0],.struct,[(0,6),(6,2),(8,6)]⟩:=by kernel_rfl
theorem T151:au prog 151=some ⟨3,72,[.slice none 0 0,.slice none 0 0,.slice none 0 0],.struct,[(0,2),(2,1)]⟩:=by kernel_rfl
theorem T161:au prog 161=some ⟨19,392,[.bool false,.slice none 0 0,.slice none 0 0,.bool false,.slice none 0 0,.slice none 0 0,.slice none 0 0,.slice none 0 0,.bool false,.slice none 0 0,.slice none 0 0,.bool false,.slice none 0 0,.slice none 0 0,.slice none 0 0,.slice none 0 0,.slice none 0 0,.slice none 0 0,.slice none 0 0],.struct,[(0,6),(6,2),(8,6),(14,1),(15,1),(16,1),(17,2)]⟩:=by kernel_rfl
theorem T177:au prog 177=some ⟨6,112,[.bool false,.slice none 0 0,.slice none 0 0,.bool false,.slice none 0 0,.slice none 0 0],.struct,[(0,3),(3,3)]⟩:=by kernel_rfl
theorem T179:au prog 179=some ⟨7,136,[.slice none 0 0,.bool false,.slice none 0 0,.slice none 0 0,.bool false,.slice none 0 0,.slice none 0 0],.struct,[(0,1),(1,6)]⟩:=by kernel_rfl
theorem T184:au prog 184=some ⟨6,128,[.string ⟨#[]⟩,.slice none 0 0,.slice none 0 0,.slice none 0 0,.slice none 0 0,.nilIface],.struct,[(0,4),(4,1),(5,1)]⟩:=by kernel_rfl
theorem T194:au prog 194=some ⟨2,48,[.slice none 0 0,.slice none 0 0],.struct,[(0,1),(1,1)]⟩:=by kernel_rfl
theorem T220:au prog 220=some ⟨1,8,[.int .u64 0],.int .u64,[]⟩:=by kernel_rfl
theorem T222:au prog 222=some ⟨1,8,[.int .u64 0],.int .u64,[]⟩:=by kernel_rfl
theorem T235:au prog 235=some ⟨1,24,[.slice none 0 0],.slice 143,[]⟩:=by kernel_rfl
theorem T237:au prog 237=some ⟨2,48,[.slice none 0 0,.slice none 0 0],.struct,[(0,1),(1,1)]⟩:=by kernel_rfl
theorem T250:au prog 250=some ⟨2,40,[.slice none 0 0,.nilIface],.struct,[(0,1),(1,1)]⟩:=by kernel_rfl
theorem T260:au prog 260=some ⟨2,40,[.slice none 0 0,.nilIface],.struct,[(0,1),(1,1)]⟩:=by kernel_rfl
theorem T286:au prog 286=some ⟨2,48,[.slice none 0 0,.slice none 0 0],.struct,[(0,1),(1,1)]⟩:=by kernel_rfl
theorem T316:au prog 316=some ⟨1,24,[.slice none 0 0],.slice 141,[]⟩:=by kernel_rfl
theorem T323:au prog 323=some ⟨1,24,[.slice none 0 0],.slice 145,[]⟩:=by kernel_rfl
theorem T327:au prog 327=some ⟨1,24,[.slice none 0 0],.slice 151,[]⟩:=by kernel_rfl
theorem T336:au prog 336=some ⟨1,24,[.slice none 0 0],.slice 177,[]⟩:=by kernel_rfl
theorem T372:au prog 372=some ⟨1,8,[.nilFunc],.other,[]⟩:=by kernel_rfl
theorem T382:au prog 382=some ⟨1,8,[.int .i64 0],.int .i64,[]⟩:=by kernel_rfl
theorem T413:au prog 413=some ⟨1,8,[.int .u64 0],.int .u64,[]⟩:=by kernel_rfl
theorem mJ{k:Nat}{x:Blk}{m:Nat->Option Nat}{b:Nat}:aW [(k,some x)] m b↔m k=some b:=by
 constructor
 ·rintro⟨k',y,hy,hb⟩;rw[aE]at hy;split at hy
  ·rename_i e;rw[<- e]at *;exact hb
  ·cases hy
 ·intro h;exact⟨k,x,by rw[aE,ate rfl],h⟩
theorem io{k k':Nat}{x:Option Blk}{z:Blk}(h:lk [(k,x)] k'=some z):k'=k/\x=some z:=by
 rw[aE]at h;split at h
 ·rename_i e;exact⟨e,h⟩
 ·cases h
theorem me{ext:Nat->Prop}{k d:Nat}{x y:Blk}{m m2:Nat->Option Nat}{w:atr}(h:m2 d=m k):Im ext [(d,some y)] m2 w=Im ext [(k,some x)] m w:=by
 funext b cs;apply propext;have:aW [(d,some y)] m2 b↔aW [(k,some x)] m b:=by rw[mJ,mJ,h]
 simp only[Im,this]
theorem uP{ext:Nat->Prop}{k d sz:Nat}{es:List AV}{m m2:Nat->Option Nat}{w:atr}(h:m2 d=m k)(hr:HeapRel ext [(k,some (.row sz es))] m w):HeapRel ext [(d,some (.row sz es))] m2 w:=by
 refine⟨?_,?_,?_⟩
 ·intro k' z hz;obtain⟨rfl,h9⟩:=io hz;cases h9;have h1:=hr.blk k _ (by rw[aE,ate rfl]);rw[me h (y:=.row sz es) (x:=.row sz es)];exact BlkRep.mono (w:=w) (fun _ _ h=>h) (fun _ _ h=>h) (fun _ _ hn=>hn.elim) h (fun _ _=>rfl) h1
 ·intro k1 k2 z z' b h1 h2 _ _;rw[(io h1).1,(io h2).1]
 ·intro k' z b hz hb;obtain⟨rfl,h9⟩:=io hz;cases h9;exact hr.sep k _ b (by rw[aE,ate rfl]) (h▸hb)
mutual
def AV.sc:AV->Bool
  | .v _=>true
  | .agg cs=>AV.scs cs
  | .tup cs=>AV.scs cs
  |_=>false
def AV.scs:List AV->Bool
  |[]=>true
  |x::l=>x.sc&&AV.scs l
end
theorem AV.scs_mem:∀{l:List AV}{c:AV},AV.scs l=true->c∈l->c.sc=true
 |x::l,c,h,hc=>by
  simp only[AV.scs,ar5]at h;rcases asj.1 hc with rfl |hc
  ·exact h.1
  ·exact AV.scs_mem h.2 hc
theorem GE{g g':Nat->Array ato->Prop}{S S':Nat->Nat->Prop}{m m':Nat->Option Nat}{v:ato}{x:AV}(hx:x.sc=true)(h:Rep g S m v x):Rep g' S' m' v x:=by
 induction h with
 |v=>exact .v _
 |agg hn h1 hr ih=>exact .agg hn h1 (fun j u c hu hc=>ih j u c hu hc (AV.scs_mem hx (ar1 hc)))
 |tup hn hr ih=>exact .tup hn (fun j u c hu hc=>ih j u c hu hc (AV.scs_mem hx (ar1 hc)))
 |_=>cases hx
def Blk.sc:Blk->Bool
  | .row _ es=>es.all fun e=>e.cells.all AV.sc
  | .box cs=>cs.all AV.sc
  | .loop _ _ _ _=>false
  | .vec _=>true
theorem adp{g g':Nat->Array ato->Prop}{S S':Nat->Nat->Prop}{m m':Nat->Option Nat}{w:atr}{o:Option Nat}{x:Blk}(hx:x.sc=true)(h:BlkRep g S m w o x):BlkRep g' S' m' w o x:=by
 cases h with
 |none=>exact .none _
 |box hw hn h1 hr =>
  refine .box hw hn h1 (fun j u x hu hc=>GE ?_ (hr j u x hu hc));exact asd.1 hx x (ar1 hc)
 |row hw hn hl hs h1 hr =>
  refine .row hw hn hl hs h1 (fun i j e u x he hc hu=>GE ?_ (hr i j e u x he hc hu));exact asd.1 (asd.1 hx e (ar1 he)) x (ar1 hc)
 |loop=>cases hx
 |vec hw hc h1=>exact .vec hw hc h1
theorem kN{g:Nat->Array ato->Prop}{S:Nat->Nat->Prop}{m m':Nat->Option Nat}{v:ato}{x:AV}(hx:x.nm=[])(h:Rep g S m v x):Rep g S m' v x :=
 h.mono (fun _ _ h=>h) (fun _ _ h=>h) (fun k b hk=>by have:=hk.mem;rw[hx]at this;cases this)
theorem Con.rk{P:atq}{f:FuncId}{k sz off len:Nat}{xs es es':List AV}{r:AV}(d:Nat)(ji:(xs.all fun x=>x.nm.isEmpty)=true)(hr:r.nm=[])
  (h:Con P f (.ms k sz off len::xs) [(k,some (.row sz es))] r [(k,some (.row sz es'))]):Con P f (.ms d sz off len::xs) [(d,some (.row sz es))] r [(d,some (.row sz es'))]:=by
 refine⟨h.ok,?_⟩;intro ext m w vs hext ch cV db
 have h1 := h.ret ext (fun _ => m d) w vs hext (uP (k := d) rfl ch) (by simpa using cV) (by
  intro j v x hv hx;rw[me (d:=k) (k:=d) (y:=.row sz es) (x:=.row sz es) (m2:=fun _=>m d) (m:=m) rfl]
  match j,hx with
  |0,hx =>
   cases hx;have h2:=db 0 v _ hv rfl;cases h2 with
   |ms0 a=>exact .ms0 a _ _ _
   |ms hm hc hS=>exact .ms hm hc hS
  |j+1,hx =>
   have h2:=db (j+1) v x hv hx;refine kN ?_ h2;have:=asd.1 ji x (ar1 hx);simpa using this)
 refine Calls.mono h1 ?_;rintro e w' ⟨v,m',rfl,hf,hh,hn,hk,aV⟩
 have ho:aW [(k,some (Blk.row sz es))] (fun _=>m d)=aW [(d,some (Blk.row sz es))] m:=by
  funext b;apply propext;rw[mJ,mJ]
 refine⟨v,fun _=>m' k,rfl,ho▸hf,uP (k:=k) rfl hh,?_,?_,?_⟩
 ·intro k' x b hx hb;rw[<- ho];exact hn k _ b (by rw[aE,ate rfl]) hb
 ·intro k' x y hx hy;obtain⟨rfl,_⟩:=io hx;exact hk k _ _ (by rw[aE,ate rfl]) (by rw[aE,ate rfl])
 ·rw[me (d:=d) (k:=k) (y:=.row sz es') (x:=.row sz es') (m2:=fun _=>m' k) (m:=m') rfl];exact kN hr aV
theorem Con.borrowF{P:atq}{f:FuncId}{args args':List AV}{H H':Hp}{r:AV}(k sz:Nat)(es:List AV)(hk:lk H k=none)(hk':lk H' k=none)(hl:args'.length=args.length)
  (sC:∀(j:Nat)(x':AV),args'[j]?=some x'->args[j]?=some x'\/args[j]?=some (x'.fz k sz es))
  (hr:r.sc=true) (hH':∀k' x,lk H' k'=some x->x.sc=true) (h:Con P f args H r H') :
  Con P f args' ((k,some (.row sz es))::H) r ((k,some (.row sz es))::H'):=by
 refine⟨h.ok,?_⟩;intro ext m w vs hext ch cV db
 have je:∀k' z,lk H k'=some z->lk ((k,some (.row sz es))::H) k'=some z:=by
  intro k' z hz;rw[aE];split
  ·rename_i e;rw[e,hk]at hz;cases hz
  ·exact hz
 have JJ:∀b,aW H m b->aW ((k,some (.row sz es))::H) m b:=fun b ⟨k',z,h1,h2⟩=>⟨k',z,je k' z h1,h2⟩
 have dD:∀b cs,Im ext ((k,some (.row sz es))::H) m w b cs->Im ext H m w b cs:=fun b cs ⟨h1,h2,h3⟩=>⟨h1,fun h'=>h2 (JJ b h'),h3⟩
 have am0:HeapRel ext H m w:=by
  refine⟨?_,?_,?_⟩
  ·intro k' z hz;exact BlkRep.mono (w:=w) dD (fun _ _ h=>h) (fun _ _ _ h=>h) rfl (fun _ _=>rfl) (ch.blk k' z (je k' z hz))
  ·intro k1 k2 z z' b h1 h2;exact ch.inj k1 k2 z z' b (je _ _ h1) (je _ _ h2)
  ·intro k' z b hz;exact ch.sep k' z b (je _ _ hz)
 have dg:lk ((k,some (Blk.row sz es))::H) k=some (.row sz es):=by rw[aE,ate rfl]
 have pi:=ch.blk k _ dg
 have JK:∀b,m k=some b->¬aW H m b:=by
  rintro b hb ⟨k',z,hz,hb'⟩;have:=ch.inj k k' _ _ b dg (je _ _ hz) hb hb';subst this;rw[hk]at hz;cases hz
 have h1 := h.ret ext m w vs hext am0 (by rw [cV, hl]) (by
  intro j v x hv hx
  have hj:j<args'.length:=by
   rw[hl];rcases asb j args.length with h |h
   ·exact h
   ·rw[asg h]at hx;cases hx
  have hx':=ar7 hj;have h2:=db j v _ hv hx';rcases sC j _ hx' with h3 |h5
  ·rw[hx]at h3;cases h3
   exact h2.mono dD (fun _ _ h=>h) (fun _ _ _ h=>h)
  ·rw[hx]at h5;cases h5
   have h6:=xt (g:=Im ext H m w) (k:=k) (sz:=sz) (es:=es) (h2.mono dD (fun _ _ h=>h) (fun _ _ _ h=>h)) (by
    intro b hb;rw[hb]at pi;cases pi with
    | @row _ _ _ c t hw hn hl hs h1 hr =>
     exact⟨c,⟨(ch.sep k _ b dg hb).1,JK b hb,t,_,hw⟩,hn,hl,hs,h1,fun i j e u x he hx hu=>(hr i j e u x he hx hu).mono dD (fun _ _ h=>h) (fun _ _ _ h=>h)⟩)
   exact h6)
 refine Calls.mono h1 ?_;rintro e w' ⟨v,m',rfl,hf,hh,hn,uy,aV⟩
 have xb:∀k' z,lk ((k,some (Blk.row sz es))::H') k'=some z->(k'=k/\z=.row sz es)\/(k'≠k/\lk H' k'=some z):=by
  intro k' z hz;rw[aE]at hz;split at hz
  ·rename_i e;cases hz;exact .inl ⟨e,rfl⟩
  ·rename_i e;exact .inr ⟨e,hz⟩
 have Ab:Frame (aW ((k,some (.row sz es))::H) m) w w':=⟨hf.os,hf.tape,hf.output,hf.size,hf.sz,fun b h1 h2=>hf.keep b h1 (fun h'=>h2 (JJ b h'))⟩
 have bP:∀k' x b,lk ((k,some (Blk.row sz es))::H') k'=some x->(if k'=k then m k else m' k')=some b->aW ((k,some (.row sz es))::H) m b\/w.heap.size<=b:=by
  intro k' x b hx hb;rcases xb k' x hx with⟨rfl,rfl⟩ |⟨h2,h3⟩
  ·rw[ate rfl]at hb;exact .inl ⟨k',_,dg,hb⟩
  ·rw[atd h2]at hb;rcases hn k' x b h3 hb with h4 |h4
   ·exact .inl (JJ b h4)
   ·exact .inr h4
 have am1:=f0 (ext:=ext) Ab (hp':=(k,some (.row sz es))::H') (m':=fun k'=>if k'=k then m k else m' k') bP;refine⟨v,fun k'=>if k'=k then m k else m' k',rfl,Ab,⟨?_,?_,?_⟩,bP,?_,GE hr aV⟩
 ·intro k' z hz;rcases xb k' z hz with⟨rfl,rfl⟩ |⟨h2,h3⟩
  ·rw[ate rfl];exact BlkRep.mono am1 (fun b n h=>hf.sz b n h) (fun _ _ hn=>hn.elim) rfl (fun b hb=>hf.keep b (ch.sep k' _ b dg hb).2 (JK b hb)) pi
  ·rw[atd h2];exact adp (hH' k' z h3) (hh.blk k' z h3)
 ·intro k1 k2 z z' b h1 h2 bM bg
  have key:∀k' z,k'≠k->lk H' k'=some z->m k=some b->m' k'=some b->False:=by
   intro k' z aO hz hb hb';rcases hn k' z b hz hb' with h4 |h4
   ·exact JK b hb h4
   ·have:=(ch.sep k _ b dg hb).2;omega
  rcases xb k1 z h1 with⟨rfl,rfl⟩ |⟨h3,h4⟩ <;> rcases xb k2 z' h2 with⟨h5,rfl⟩ |⟨h5,h6⟩
  ·exact h5.symm
  ·rw[ate rfl]at bM;rw[atd h5]at bg
   exact(key k2 z' h5 h6 bM bg).elim
  ·rw[atd h3]at bM;rw[ate h5]at bg
   exact(key k1 z h3 h4 bg bM).elim
  ·rw[atd h3]at bM;rw[atd h5]at bg
   exact hh.inj k1 k2 z z' b h4 h6 bM bg
 ·intro k' z b hz hb;rcases xb k' z hz with⟨rfl,rfl⟩ |⟨h2,h3⟩
  ·rw[ate rfl]at hb;have:=ch.sep k' _ b dg hb;exact⟨this.1,asp this.2 hf.size⟩
  ·rw[atd h2]at hb;exact hh.sep k' z b h3 hb
 ·intro k' x y hx hy;rcases xb k' y hy with⟨rfl,rfl⟩ |⟨h2,h3⟩
  ·exact ate rfl
  ·have hx' : lk H k' = some x := by rw [aE, atd h2] at hx; exact hx
   exact(atd h2).trans (uy k' x y hx' h3)
theorem afo{k sz off len:Nat}{es:List AV}(h:off+len<=es.length):AV.fz k sz es (.ms k sz off len)=.lst sz ((es.drop off).take len):=by
 have e1:Nat.ble (off+len) es.length=true:=aof h;have e2:∀n,ao6 n n=true:=fun n=>apc n
 simp only[AV.fz,e1,e2,Bool.and_self]
theorem Con.borrow{P:atq}{f:FuncId}{args args':List AV}{H H':Hp}{r:AV}(k sz:Nat)(es:List AV)(hk:lk H k=none)(hk':lk H' k=none)(hl:args'.length=args.length)
  (sC:∀(j:Nat)(x':AV),args'[j]?=some x'->args[j]?=some x'\/(∃off len,x'=.ms k sz off len/\off+len<=es.length/\args[j]?=some (.lst sz ((es.drop off).take len))))
  (hr:r.sc=true) (hH':∀k' x,lk H' k'=some x->x.sc=true) (h:Con P f args H r H') :
  Con P f args' ((k,some (.row sz es))::H) r ((k,some (.row sz es))::H') :=
 Con.borrowF k sz es hk hk' hl (fun j x' hj=>by
  rcases sC j x' hj with h |⟨off,len,rfl,h1,h2⟩
  ·exact .inl h
  ·exact .inr (by rw[afo h1];exact h2)) hr hH' h
theorem Con.freeze{P:atq}{f:FuncId}{args:List AV}{k sz off len:Nat}{es:List AV}(hl:off+len<=es.length)
  (h:Con P f args [] (.ms k sz off len) [(k,some (.row sz es))]):kU P f args (.lst sz ((es.drop off).take len)):=by
 refine⟨h.ok,?_⟩;intro ext m w vs hext ch cV db;refine Calls.mono (h.ret ext m w vs hext ch cV db) ?_;rintro e w' ⟨v,m',rfl,hf,hh,hn,uy,aV⟩;have dg:lk [(k,some (Blk.row sz es))] k=some (.row sz es):=by rw[aE,ate rfl]
 have pi:=hh.blk k _ dg;have dD:∀b cs,Im ext [(k,some (.row sz es))] m' w' b cs->Im ext [] m' w' b cs:=fun b cs ⟨h1,h2,h3⟩=>⟨h1,(fun⟨_,_,h',_⟩=>by cases h'),h3⟩
 refine⟨v,m',rfl,hf,⟨(fun k z h=>by cases h),(fun k k' z z' b h=>by cases h),(fun k z b h=>by cases h)⟩,(fun k x b h=>by cases h),(fun k x y h=>by cases h),?_⟩
 have h6:=xt (g:=Im ext [] m' w') (k:=k) (sz:=sz) (es:=es) (aV.mono dD (fun _ _ h=>h) (fun _ _ _ h=>h)) (by
  intro b hb;rw[hb]at pi;cases pi with
  | @row _ _ _ c t hw hn hl hs h1 hr =>
   exact⟨c,⟨(hh.sep k _ b dg hb).1,(fun⟨_,_,h',_⟩=>by cases h'),t,_,hw⟩,hn,hl,hs,h1,fun i j e u x he hx hu=>(hr i j e u x he hx hu).mono dD (fun _ _ h=>h) (fun _ _ _ h=>h)⟩)
 have h7:AV.fz k sz es (.ms k sz off len)=.lst sz ((es.drop off).take len):=by
  have e1:Nat.ble (off+len) es.length=true:=aof hl;have e2:∀n,ao6 n n=true:=fun n=>apc n
  simp only[AV.fz,e1,e2,Bool.and_self]
 rwa [h7]at h6
theorem Con.rekeyR{P:atq}{f:FuncId}{k sz off len off' len':Nat}{xs es es':List AV}(d:Nat)(ji:(xs.all fun x=>x.nm.isEmpty)=true)
  (h:Con P f (.ms k sz off len::xs) [(k,some (.row sz es))] (.ms k sz off' len') [(k,some (.row sz es'))]) :
  Con P f (.ms d sz off len::xs) [(d,some (.row sz es))] (.ms d sz off' len') [(d,some (.row sz es'))]:=by
 refine⟨h.ok,?_⟩;intro ext m w vs hext ch cV db
 have h1 := h.ret ext (fun _ => m d) w vs hext (uP (k := d) rfl ch) (by simpa using cV) (by
  intro j v x hv hx;rw[me (d:=k) (k:=d) (y:=.row sz es) (x:=.row sz es) (m2:=fun _=>m d) (m:=m) rfl]
  match j,hx with
  |0,hx =>
   cases hx;have h2:=db 0 v _ hv rfl;cases h2 with
   |ms0 a=>exact .ms0 a _ _ _
   |ms hm hc hS=>exact .ms hm hc hS
  |j+1,hx =>
   have h2:=db (j+1) v x hv hx;refine kN ?_ h2;have:=asd.1 ji x (ar1 hx);simpa using this)
 refine Calls.mono h1 ?_;rintro e w' ⟨v,m',rfl,hf,hh,hn,hk,aV⟩
 have ho:aW [(k,some (Blk.row sz es))] (fun _=>m d)=aW [(d,some (Blk.row sz es))] m:=by
  funext b;apply propext;rw[mJ,mJ]
 refine⟨v,fun _=>m' k,rfl,ho▸hf,uP (k:=k) rfl hh,?_,?_,?_⟩
 ·intro k' x b hx hb;rw[<- ho];exact hn k _ b (by rw[aE,ate rfl]) hb
 ·intro k' x y hx hy;obtain⟨rfl,_⟩:=io hx;exact hk k _ _ (by rw[aE,ate rfl]) (by rw[aE,ate rfl])
 ·rw[me (d:=d) (k:=k) (y:=.row sz es') (x:=.row sz es') (m2:=fun _=>m' k) (m:=m') rfl];cases aV with
  |ms0 a=>exact .ms0 a _ _ _
  |ms hm hc hS=>exact .ms hm hc hS
end Go.Lw
namespace Go.Lw
variable{P:atq}{N:Nat}{R:Array Oper}{s:AS}{pos:String}{after:Array Edge}
theorem Step.weaken{o:Oper}{u u':Out}(h:Step P N R s o u)(ao:∀s',iC s s' u'->iC s s' u)(jF:∀s',iC s s' u'->k9 s' u)
  (hw:∀s',iC s s' u'->Wk (s'.app o.dst u) (s'.app o.dst u')):Step P N R s o u':=by
 refine⟨fun s' kv _ C m a w Q next hC hr hnext=>?_⟩
 exact h.run s' (ao s' kv) (jF s' kv) C m a w Q next hC hr (fun m' a' w' hr'=>by
  obtain⟨m'',hr''⟩:=hw s' kv C m' a' w' hr';exact hnext m'' a' w' hr'')
theorem rm{d f k sz:Nat}{es:List AV}{args:Array atn}{ts:Array atp}{xs:List AV}{r:AV}{t:atp}
  (dh:Con P f xs [(k,some (.row sz es))] r [(k,some (.row sz es))]) (ha:EvL s args.toList xs) (hk:s.blk k=some (.row sz es)) (bm:g9 s [(k,some (.row sz es))] [(k,some (.row sz es))] r=true) (hN:aob d N=true) :
  Step P N R s ⟨some d,.call ⟨.value (.func f),args,ts⟩,t,pos,after,none⟩ ⟨some r,[],dk args.toList,[k]⟩:=by
 refine Step.weaken (aG (d:=d) dh ha (fun k' z h=>by
  obtain⟨rfl,h9⟩:=io h;cases h9;exact hk) bm hN) (fun s' h=>h) (fun s' h k' hk'=>?_) (fun s' h=>?_)
 ·left;simp only[asz,cU,atb,map_nil,ar9,asj,asf,or_false]at hk' ⊢;rcases hk' with h9 |h9 <;> exact h9
 ·intro C m a w hr;refine⟨m,hr.weak (fun t x hx=>⟨x,hx,.refl _⟩) (fun k' x hx=>⟨x,?_,.refl _⟩)⟩;have hb:lk s'.hp k=some (.row sz es):=(h.2 k (aqf.2 rfl)).trans hk;show lk ([(k,some (.row sz es))]++cU [(k,some (.row sz es))]++s'.hp) k'=some x;have hx':lk s'.hp k'=some x:=hx;simp only[cU,atb,map_nil,cons_append,nil_append,aE]
  by_cases e:k'=k
  ·rw[ate e];rw[e,hb]at hx';exact hx'
  ·rw[atd e,atd e];exact hx'
theorem Con.rekey1{P:atq}{f:FuncId}{k sz off len:Nat}{xs es es':List AV}{y r:AV}(d:Nat)(hy:y.nm=[])(ji:(xs.all fun x=>x.nm.isEmpty)=true)(hr:r.nm=[])
  (h:Con P f (y :: .ms k sz off len::xs) [(k,some (.row sz es))] r [(k,some (.row sz es'))]):Con P f (y :: .ms d sz off len::xs) [(d,some (.row sz es))] r [(d,some (.row sz es'))]:=by
 refine⟨h.ok,?_⟩;intro ext m w vs hext ch cV db
 have h1 := h.ret ext (fun _ => m d) w vs hext (uP (k := d) rfl ch) (by simpa using cV) (by
  intro j v x hv hx;rw[me (d:=k) (k:=d) (y:=.row sz es) (x:=.row sz es) (m2:=fun _=>m d) (m:=m) rfl]
  match j,hx with
  |0,hx =>
   cases hx;exact kN hy (db 0 v _ hv rfl)
  |1,hx =>
   cases hx;have h2:=db 1 v _ hv rfl;cases h2 with
   |ms0 a=>exact .ms0 a _ _ _
   |ms hm hc hS=>exact .ms hm hc hS
  |j+2,hx =>
   have h2:=db (j+2) v x hv hx;refine kN ?_ h2;have:=asd.1 ji x (ar1 hx);simpa using this)
 refine Calls.mono h1 ?_;rintro e w' ⟨v,m',rfl,hf,hh,hn,hk,aV⟩
 have ho:aW [(k,some (Blk.row sz es))] (fun _=>m d)=aW [(d,some (Blk.row sz es))] m:=by
  funext b;apply propext;rw[mJ,mJ]
 refine⟨v,fun _=>m' k,rfl,ho▸hf,uP (k:=k) rfl hh,?_,?_,?_⟩
 ·intro k' x b hx hb;rw[<- ho];exact hn k _ b (by rw[aE,ate rfl]) hb
 ·intro k' x y hx hy;obtain⟨rfl,_⟩:=io hx;exact hk k _ _ (by rw[aE,ate rfl]) (by rw[aE,ate rfl])
 ·rw[me (d:=d) (k:=k) (y:=.row sz es') (x:=.row sz es') (m2:=fun _=>m' k) (m:=m') rfl];exact kN hr aV
end Go.Lw
namespace Go.Lw
variable{P:atq}{N:Nat}{Q:Exit->AS->Prop}
inductive TyT where
  |lf
  |nd (l:TyT) (k:Nat) (t:TI) (r:TyT)
def TyT.get:TyT->Nat->Option TI
  | .lf,_=>none
  | .nd l k t r,n=>match ao6 n k with
    |true=>some t
    |false=>match aob n k with
      |true=>l.get n
      |false=>r.get n
inductive TyT.Ok(P:atq):TyT->Prop
  |lf:TyT.Ok P .lf
  |nd {l r:TyT} {k:Nat} {t:TI} (hl:TyT.Ok P l) (h:au P k=some t) (hr:TyT.Ok P r):TyT.Ok P (.nd l k t r)
theorem TyT.Ok.get{T:TyT}(h:T.Ok P){n:Nat}{t:TI}(hg:T.get n=some t):au P n=some t:=by
 induction h with
 |lf=>cases hg
 |nd _ h _ ihl ihr =>
  unfold TyT.get at hg;split at hg
  ·rename_i hb;rw[ar4 hb,h];exact hg
  ·split at hg
   ·exact ihl hg
   ·exact ihr hg
structure Tys(P:atq) where
  tab:TyT
  ok:tab.Ok P
  mix:P.follows .mixedOrders=true
def cF(P:atq)[Inhabited (Tys P)](n:Nat):Option TI:=(default:Tys P).tab.get n
theorem bW[Inhabited (Tys P)]{n:Nat}{t:TI}(h:cF P n=some t):au P n=some t:=(default:Tys P).ok.get h
inductive AllP:List Prop->Prop
  |nil:AllP []
  |cons {p:Prop} {l:List Prop} (h:p) (hl:AllP l):AllP (p::l)
theorem AllP.app{a b:List Prop}(h:AllP (a++b)):AllP a/\AllP b:=by
 induction a with
 |nil=>exact⟨.nil,h⟩
 |cons p a ih =>
  cases h with |cons h hl=>exact⟨.cons h (ih hl).1,(ih hl).2⟩
def AV.optB:AV->Option (Bool×AV)
  | .opt b x=>some (b,x)
  |_=>none
theorem AV.optB_some{x y:AV}{b:Bool}(h:x.optB=some (b,y)):x=.opt b y:=by cases x <;> simp_all [AV.optB]
def eR(g:Bool)(G:Prop)(s:AS):atn->Option (AV×List Prop)
  | .tmp t=>match s.get t with
    |some x=>match g with
      |true=>match x.optB with
        |some (b,y)=>some (y,[G->b=true])
        |none=>some (x,[])
      |false=>some (x,[])
    |none=>none
  | .const c=>some (.v c,[])
  | .func f=>some (.v (.func (.func f) #[] #[]),[])
  | .global _=>none
theorem fh{g:Bool}{G:Prop}{s:AS}{o:atn}{x:AV}{ob:List Prop}(h:eR g G s o=some (x,ob))(ho:AllP ob)(hG:G):Ev s o x:=by
 cases o with
 |tmp t =>
  simp only[eR]at h;split at h
  ·rename_i y hy;split at h
   ·split at h
    ·rename_i b z hz;cases h;cases ho with
     |cons h1 _=>exact .opt (by rw[hy,AV.optB_some hz]) (h1 hG)
    ·cases h;exact .tmp hy
   ·cases h;exact .tmp hy
  ·cases h
 |const c=>cases h;exact .const c
 |func f=>cases h;exact .func f
 |global n=>cases h
def jP:List AV->Option (List AV)
  |[]=>some []
  |x::l=>match jP l with
    |some r=>some (x::r)
    |none=>none
theorem kR:∀{l r:List AV},jP l=some r->r=l
 |[],r,h=>by cases h;rfl
 |x::l,r,h=>by
  unfold jP at h;split at h
  ·rename_i r' hr;cases h;rw[kR hr]
  ·cases h
def r8(g:Bool)(G:Prop)(s:AS):List atn->Option (List AV×List Prop)
  |[]=>some ([],[])
  |o::os=>match eR g G s o with
    |some (x,a)=>match r8 g G s os with
      |some (xs,b)=>some (x::xs,a++b)
      |none=>none
    |none=>none
theorem wW{g:Bool}{G:Prop}{s:AS}(hG:G):∀{os:List atn}{xs:List AV}{ob:List Prop},r8 g G s os=some (xs,ob)->AllP ob->EvL s os xs
 |[],xs,ob,h,ho=>by cases h;exact .nil
 |o::os,xs,ob,h,ho=>by
  unfold r8 at h;split at h
  ·rename_i x a h1;split at h
   ·rename_i ys b h2;cases h;exact .cons (fh h1 ho.app.1 hG) (wW hG h2 ho.app.2)
   ·cases h
  ·cases h
def DG(g:Bool)(G:Prop)(s:AS):List (Nat×atn)->Option (List (Nat×AV)×List Prop)
  |[]=>some ([],[])
  |p::os=>match eR g G s p.2 with
    |some (x,a)=>match DG g G s os with
      |some (xs,b)=>some ((p.1,x)::xs,a++b)
      |none=>none
    |none=>none
theorem O5{g:Bool}{G:Prop}{s:AS}(hG:G):∀{os:List (Nat×atn)}{xs:List (Nat×AV)}{ob:List Prop},DG g G s os=some (xs,ob)->AllP ob->EvP s os xs
 |[],xs,ob,h,ho=>by cases h;exact .nil
 |p::os,xs,ob,h,ho=>by
  unfold DG at h;split at h
  ·rename_i x a h1;split at h
   ·rename_i ys b h2;cases h;exact .cons (fh h1 ho.app.1 hG) (O5 hG h2 ho.app.2)
   ·cases h
  ·cases h
structure R1 where
  x:AV
  rt:List Nat
  rd:List Nat
  ob:List Prop
def fq:IntKind->Nat
  | .i8=>0 | .i16=>1 | .i32=>2 | .i64=>3 | .u8=>4 | .u16=>5 | .u32=>6 | .u64=>7
theorem p6{a b:IntKind}(h:ao6 (fq a) (fq b)=true):a=b:=by cases a <;> cases b <;> first |rfl |(exact atk h (by decide))
def Bg:BinOp->Bool
  | .eql | .neq | .lss | .leq | .gtr | .geq=>true
  |_=>false
def ze(ti:TI)(l:List AV):Option AV:=match ti.ag with
  |true=>match jP (l.take ti.size)with
    |some r=>some (.agg r)
    |none=>none
  |false=>match ao6 ti.size 1,l with
    |true,x::_=>some x
    |_,_=>none
theorem IH{ti:TI}{l:List AV}{x:AV}(h:ze ti l=some x):(ti.ag||ao6 ti.size 1)=true/\x=lJ ti.ag (l.take ti.size):=by
 unfold ze at h;split at h
 ·rename_i ha;split at h
  ·rename_i r hr;cases h;rw[ha,kR hr];exact⟨rfl,rfl⟩
  ·cases h
 ·rename_i ha;split at h
  ·rename_i h1;cases h
   rw[ha,ar4 h1];exact⟨rfl,rfl⟩
  ·cases h
section
variable{s:AS}{R:Array Oper}{d:Nat}{t T:atp}{pos:String}{after:Array Edge}{r:R1}
def x5(ti:TI)(x:atn)(f:Nat)(ob:List Prop)(y:AV):Option R1:=match ti.k with
  | .struct=>match ti.fs[f]? with
    |some (o,n)=>match aob 0 n with
      |true=>match y with
        | .ptr k off=>some ⟨.ptr k (off+o),aj x,[],ob⟩
        | .eptr k sz i off=>some ⟨.eptr k sz i (off+o),aj x,[],ob⟩
        | .iptr xs=>some ⟨.iptr (xs.drop o),aj x,[],ob⟩
        |_=>none
      |false=>none
    |none=>none
  |_=>none
theorem ZL{x:atn}{y:AV}{f:Nat}{ti:TI}{ob:List Prop}(hx:Ev s x y)(hT:au P T=some ti)(h:x5 ti x f ob y=some r)(hN:aob d N=true) :
  Step P N R s ⟨some d,.fieldAddr T x f,t,pos,after,none⟩ ⟨some r.x,[],r.rt,r.rd⟩:=by
 unfold x5 at h;split at h
 ·rename_i hk;split at h
  ·rename_i o n hf;split at h
   ·rename_i hn;split at h
    ·cases h;exact agb hx hT hk hf hn hN
    ·cases h;exact Xg hx hT hk hf hn hN
    ·cases h;exact aia hx hT hk hf hn hN
    ·cases h
   ·cases h
  ·cases h
 ·cases h
theorem acw{x:atn}{y:AV}{f:Nat}{ti:TI}{ob:List Prop}(h:x5 ti x f ob y=some r):r.ob=ob:=by
 unfold x5 at h
 repeat' split at h
 all_goals first |(cases h;rfl) |cases h
end
variable[Inhabited (Tys P)]
def uK(P:atq)[Inhabited (Tys P)](s:AS)(ti:TI)(x:atn)(ob:List Prop):AV->Option R1
  | .ptr k off=>match s.blk k with
    |some (.box cs)=>match Nat.ble (off+ti.size) cs.length with
      |true=>match ze ti (cs.drop off)with
        |some v=>some ⟨v,aj x,[k],ob⟩
        |none=>none
      |false=>none
    |_=>none
  | .iptr xs=>match aob 0 ti.size&&Nat.ble ti.size xs.length with
    |true=>match ze ti xs with
      |some v=>some ⟨v,aj x,[],ob⟩
      |none=>none
    |false=>none
  |_=>none
def II:ato->Prop:=fun v=>v=.nilIface\/∃T u,v=.iface T u
def uX(P:atq)[Inhabited (Tys P)](op:BinOp)(S:atp)(x y:atn)(ob:List Prop)(vx vy:ato):Option R1:=match vy with
  | .int k b=>match vx with
    | .int k' a=>match Bg op&&ao6 (fq k) (fq k')with
      |true=>some ⟨.v (.bool (aa op a b)),aj x++aj y,[],ob⟩
      |false=>none
    |_=>none
  | .string b=>match vx with
    | .string a=>match op with
      | .eql=>some ⟨.v (.bool (a.toList==b.toList)),aj x++aj y,[],ob⟩
      | .neq=>some ⟨.v (.bool !(a.toList==b.toList)),aj x++aj y,[],ob⟩
      |_=>none
    |_=>none
  | .bool b=>match vx with
    | .bool a=>match cF P S with
      |some ti=>match ti.k with
        | .bool=>match op with
          | .eql=>some ⟨.v (.bool (a==b)),aj x++aj y,[],ob⟩
          | .neq=>some ⟨.v (.bool (a != b)),aj x++aj y,[],ob⟩
          |_=>none
        |_=>none
      |none=>none
    |_=>none
  | .nilIface=>match y with
    | .const _=>match cF P S with
      |some ti=>match ti.k with
        | .iface _=>match op with
          | .eql=>some ⟨.v (.bool (fc vx)),aj x++[],[],II vx::ob⟩
          | .neq=>some ⟨.v (.bool !(fc vx)),aj x++[],[],II vx::ob⟩
          |_=>none
        |_=>none
      |none=>none
    |_=>none
  |_=>none
def we(P:atq)[Inhabited (Tys P)](x:atn)(T:atp)(ob:List Prop)(y:AV):Option R1:=match cF P T with
  |some ti=>match ti.k with
    | .slice _=>match y with
      | .ms _ _ _ len=>some ⟨.v (.int .i64 len),aj x,[],ob⟩
      | .v (.slice _ n _)=>some ⟨.v (.int .i64 n),aj x,[],ob⟩
      |_=>none
    | .string=>match y with
      | .v (.string b)=>some ⟨.v (.int .i64 b.size),aj x,[],ob⟩
      |_=>none
    |_=>none
  |none=>none
def Me:TK->Bool
  | .int _ | .struct | .pointer _ | .string=>true
  |_=>false
def xW:Nat->List (Nat×atn)->Bool
  |_,[]=>true
  |n,p::l=>ao6 p.1 n&&xW (n+1) l
theorem HS:∀{l:List (Nat×atn)}{n:Nat},xW n l=true->l=mN n (l.map (·.2))
 |[],n,_=>rfl
 |(i,o)::l,n,h=>by
  simp only[xW,ar5]at h;have h1:=ar4 h.1;subst h1;simp only[atb,mN];rw[<- HS h.2]
def DN{α:Type}:List α->Bool
  |[]=>true
  |_=>false
theorem No{α:Type}{l:List α}(h:DN l=true):l=[]:=by cases l <;> simp_all [DN]
def pG(g:Bool)(G:Prop)(b w:Bool):Prop:=match g with
  |true=>G/\b=w
  |false=>b=w
theorem LP{g:Bool}{G:Prop}{b w:Bool}(hG:G)(h:b=w):pG g G b w:=by cases g <;> first |exact h |exact⟨hG,h⟩
def yL(P:atq)[Inhabited (Tys P)](g:Bool)(G:Prop)(s:AS):Op->Option R1
  | .move x=>match eR g G s x with
    |some (v,ob)=>some ⟨v,aj x,[],ob⟩
    |none=>none
  | .assign x=>match eR g G s x with
    |some (v,ob)=>some ⟨v,aj x,[],ob⟩
    |none=>none
  | .load T x=>match eR g G s x with
    |some (v,ob)=>match cF P T with
      |some ti=>uK P s ti x ob v
      |none=>none
    |none=>none
  | .fieldAddr T x f=>match eR g G s x with
    |some (v,ob)=>match cF P T with
      |some ti=>x5 ti x f ob v
      |none=>none
    |none=>none
  | .extract x i=>match eR g G s x with
    |some (.tup xs,ob)=>match xs[i]? with
      |some y=>some ⟨y,aj x,[],ob⟩
      |none=>none
    |_=>none
  | .unOp .not _ x=>match eR g G s x with
    |some (.v (.bool b),ob)=>some ⟨.v (.bool !b),aj x,[],ob⟩
    |_=>none
  | .binOp op S x y _=>match eR g G s y with
    |some (.v vy,ob)=>match eR g G s x with
      |some (.v vx,ob')=>uX P op S x y (ob'++ob) vx vy
      |_=>none
    |_=>none
  | .makeInterface T x=>match eR g G s x with
    |some (.v v,ob)=>match cF P T with
      |some ti=>match Me ti.k with
        |true=>some ⟨.v (.iface T v),aj x,[],ob⟩
        |false=>none
      |none=>none
    |_=>none
  | .nilCheck x=>match eR g G s x with
    |some (.ptr k off,ob)=>some ⟨.ptr k off,aj x,[],ob⟩
    |some (.iptr xs,ob)=>some ⟨.iptr xs,aj x,[],ob⟩
    |_=>none
  | .makeFunc (.func f) first caps=>match first.toList with
    |[]=>match r8 g G s caps.toList with
      |some (xs,ob)=>some ⟨.fn f xs,dk caps.toList,[],ob⟩
      |none=>none
    |_=>match caps.toList with
      |[]=>match r8 g G s first.toList with
        |some (xs,ob)=>match xs.all fun x=>x.nm.isEmpty with
          |true=>some ⟨.cl f xs [],dk first.toList,[],ob⟩
          |false=>none
        |none=>none
      |_=>none
  | .build T parts=>match cF P T with
    |some ti=>match ti.k with
      | .struct=>match ti.zero.all Value.oneCell'&&ti.fs.all fun p=>aob 0 p.2 with
        |true=>match DG g G s parts.toList with
          |some (xs,ob)=>match yd (fun i=>ti.fs[i]?) (ti.zero.map .v) xs with
            |some l=>match jP l with
              |some l=>some ⟨.agg l,vj parts.toList,[],ob⟩
              |none=>none
            |none=>none
          |none=>none
        |false=>none
      |_=>none
    |none=>none
  | .buildSlice T n parts=>match n with
    |0=>none
    |n+1=>match cF P T with
      |some ti=>match ti.k with
        | .slice E=>match cF P E with
          |some te=>match r8 g G s (parts.toList.map (·.2))with
            |some (es,ob)=>match xW 0 parts.toList&&te.zero.all Value.oneCell'&&ao6 te.zero.length te.size&&(es.all fun e=>ao6 e.cells.length te.size&&e.ok) &&
                DN (AV.nms es)&&ao6 (n+1) es.length&&Nat.ble ((n+1)*te.size) 16777216&&Nat.ble (n+1) 16777216 with
              |true=>some ⟨.lst te.size es,dk (parts.toList.map (·.2)),[],ob⟩
              |false=>none
            |none=>none
          |none=>none
        |_=>none
      |none=>none
  | .pick c x y=>match eR g G s c with
    |some (.v (.bool b),ob)=>match eR true (pG g G b true) s x with
      |some (.v (.bool bx),ob')=>match eR true (pG g G b false) s y with
        |some (.v (.bool bz),ob'')=>some ⟨.v (.bool (cond b bx bz)),aj c++(aj x++aj y),[],ob++(ob'++ob'')⟩
        |_=>none
      |_=>none
    |_=>none
  | .call ⟨.builtin .len,args,ts⟩=>match args.toList with
    |[x]=>match ts.toList with
      |[T]=>match eR g G s x with
        |some (y,ob)=>we P x T ob y
        |none=>none
      |_=>none
    |_=>none
  |_=>none
section
variable{g:Bool}{G:Prop}{s:AS}{R:Array Oper}{d:Nat}{t T:atp}{pos:String}{after:Array Edge}{r:R1}
theorem LN{x:atn}{y:AV}{ti:TI}{ob:List Prop}(hx:Ev s x y)(hT:au P T=some ti)(h:uK P s ti x ob y=some r)(hN:aob d N=true) :
  Step P N R s ⟨some d,.load T x,t,pos,after,none⟩ ⟨some r.x,[],r.rt,r.rd⟩:=by
 unfold uK at h;split at h
 ·split at h
  ·split at h
   ·split at h
    ·cases h;rename_i hk _ h1 _ v hv;obtain⟨h2,rfl⟩:=IH hv;exact abm hx hk hT h1 h2 hN
    ·cases h
   ·cases h
  ·cases h
 ·split at h
  ·split at h
   ·cases h;rename_i h1 _ v hv;obtain⟨h2,rfl⟩:=IH hv;exact YT hx hT h1 h2 hN
   ·cases h
  ·cases h
 ·cases h
theorem P4{op:BinOp}{x y:atn}{vx vy:ato}{S:atp}{ob:List Prop}(hx:Ev s x (.v vx))(hy:Ev s y (.v vy))(h:uX P op S x y ob vx vy=some r)(ho:AllP r.ob)
  (hN:aob d N=true):Step P N R s ⟨some d,.binOp op S x y T,t,pos,after,none⟩ ⟨some r.x,[],r.rt,r.rd⟩:=by
 unfold uX at h;split at h
 ·split at h
  ·split at h
   ·rename_i hc;cases h
    simp only[ar5]at hc;cases p6 hc.2;exact Om hx hy (by have:=hc.1;cases op <;> simp_all [Bg]) hN
   ·cases h
  ·cases h
 ·split at h
  ·split at h
   ·cases h;exact KM hx hy hN
   ·cases h;exact LV hx hy hN
   ·cases h
  ·cases h
 ·split at h
  ·split at h
   ·rename_i ti bZ;split at h
    ·rename_i hk;split at h
     ·cases h;exact ahe hx hy (bW bZ) hk hN
     ·cases h;exact ai2 hx hy (bW bZ) hk hN
     ·cases h
    ·cases h
   ·cases h
  ·cases h
 ·split at h
  ·rename_i c;have hc:c = .nilIface:=by cases hy; rfl
   subst hc;split at h
   ·rename_i ti bZ;split at h
    ·rename_i hk;split at h
     ·cases h;cases ho with |cons h1 _=>exact Tj hx h1 (bW bZ) hk hN
     ·cases h;cases ho with |cons h1 _=>exact Tf hx h1 (bW bZ) hk hN
     ·cases h
    ·cases h
   ·cases h
  ·cases h
 ·cases h
theorem YD{op:BinOp}{x y:atn}{vx vy:ato}{S:atp}{ob:List Prop}(h:uX P op S x y ob vx vy=some r)(ho:AllP r.ob):AllP ob:=by
 unfold uX at h
 repeat' split at h
 all_goals first |(cases h;exact ho) |(cases h;cases ho;assumption) |cases h
theorem RH{x:atn}{y:AV}{ob:List Prop}(hx:Ev s x y)(h:we P x T ob y=some r)(hN:aob d N=true) :
  Step P N R s ⟨some d,.call ⟨.builtin .len,#[x],#[T]⟩,t,pos,after,none⟩ ⟨some r.x,[],r.rt,r.rd⟩:=by
 unfold we at h;split at h
 ·rename_i ti bZ;have bZ:=bW bZ;split at h
  ·rename_i hk;split at h
   ·cases h;exact MB hx bZ hk hN
   ·cases h;exact YL hx bZ hk hN
   ·cases h
  ·rename_i hk;split at h
   ·cases h;exact Yg hx bZ hk hN
   ·cases h
  ·cases h
 ·cases h
theorem afk{x:atn}{y:AV}{ti:TI}{ob:List Prop}(h:uK P s ti x ob y=some r):r.ob=ob:=by
 unfold uK at h
 repeat' split at h
 all_goals first |(cases h;rfl) |cases h
theorem ai4{x:atn}{y:AV}{ob:List Prop}(h:we P x T ob y=some r):r.ob=ob:=by
 unfold we at h
 repeat' split at h
 all_goals first |(cases h;rfl) |cases h
theorem CT{op:Op}(h:yL P g G s op=some r)(ho:AllP r.ob)(hG:G)(hN:aob d N=true):Step P N R s ⟨some d,op,t,pos,after,none⟩ ⟨some r.x,[],r.rt,r.rd⟩:=by
 unfold yL at h;split at h
 ·split at h
  ·rename_i h1;cases h;exact ame (fh h1 ho hG) hN
  ·cases h
 ·split at h
  ·rename_i h1;cases h;exact ai3 (fh h1 ho hG) hN
  ·cases h
 ·split at h
  ·rename_i h1;split at h
   ·rename_i ti bZ;rw[afk h]at ho;exact LN (fh h1 ho hG) (bW bZ) h hN
   ·cases h
  ·cases h
 ·split at h
  ·rename_i h1;split at h
   ·rename_i ti bZ;rw[acw h]at ho;exact ZL (fh h1 ho hG) (bW bZ) h hN
   ·cases h
  ·cases h
 ·split at h
  ·rename_i h1;split at h
   ·rename_i hy;cases h;exact Vz (fh h1 ho hG) hy hN
   ·cases h
  ·cases h
 ·split at h
  ·rename_i h1;cases h;exact Yl (fh h1 ho hG) hN
  ·cases h
 ·split at h
  ·rename_i h1;split at h
   ·rename_i h2;have:=(YD h ho).app;exact P4 (fh h2 this.1 hG) (fh h1 this.2 hG) h ho hN
   ·cases h
  ·cases h
 ·split at h
  ·rename_i h1;split at h
   ·rename_i ti bZ;split at h
    ·rename_i hk;cases h
     exact VW (fh h1 ho hG) hN (bW bZ) (by
      generalize ti.k=k at hk;cases k <;> simp_all [Me])
    ·cases h
   ·cases h
  ·cases h
 ·split at h
  ·rename_i h1;cases h;exact afu (fh h1 ho hG) hN
  ·rename_i h1;cases h;exact ZO (fh h1 ho hG) hN
  ·cases h
 ·rename_i f first caps
  split at h
  ·rename_i hf;have:first = #[]:=by apply arq.1; simpa using hf
   subst this;split at h
   ·rename_i h1;cases h;exact Xu (wW hG h1 ho) hN
   ·cases h
  ·split at h
   ·rename_i hf;have:caps = #[]:=by apply arq.1; simpa using hf
    subst this;split at h
    ·rename_i h1;split at h
     ·rename_i h2;cases h;exact alx (wW hG h1 ho) h2 hN
     ·cases h
    ·cases h
   ·cases h
 ·split at h
  ·rename_i ti bZ;split at h
   ·rename_i hk;split at h
    ·rename_i hz;simp only[ar5]at hz;split at h
     ·rename_i h1;split at h
      ·rename_i hl;split at h
       ·rename_i hr;cases h;exact aea (O5 hG h1 ho) (bW bZ) hk hz.1 hz.2 (by rw[hl,kR hr]) hN
       ·cases h
      ·cases h
     ·cases h
    ·cases h
   ·cases h
  ·cases h
 ·rename_i T n parts;split at h
  ·cases h
  ·rename_i n;split at h
   ·rename_i ti bZ;split at h
    ·rename_i E hk;split at h
     ·rename_i te Ac;split at h
      ·rename_i es ob h1;split at h
       ·rename_i hc;cases h;simp only[ar5]at hc;obtain⟨⟨⟨⟨⟨⟨⟨c1,c2⟩,c3⟩,c4⟩,c5⟩,c6⟩,c7⟩,c8⟩:=hc;exact X1 (by rw[<- HS c1]) (wW hG h1 ho) (bW bZ) hk (bW Ac) c2 c3 (by simpa only[ar5]using c4) (No c5) (ar4 c6) c7 c8 hN
       ·cases h
      ·cases h
     ·cases h
    ·cases h
   ·cases h
 ·split at h
  ·rename_i h1;split at h
   ·rename_i h2;split at h
    ·rename_i h3;cases h;have hp:=ho.app;have hq:=hp.2.app;exact FZ (fh h1 hp.1 hG) (fun hb=>fh h2 hq.1 (LP hG hb)) (fun hb=>fh h3 hq.2 (LP hG hb)) hN
    ·cases h
   ·cases h
  ·cases h
 ·rename_i args ts;split at h
  ·rename_i x hx;split at h
   ·rename_i T hT;have e1:args = #[x]:=by apply arq.1; simpa using hx
    have e2:ts=#[T]:=by apply arq.1;simpa using hT
    subst e1;subst e2
    split at h
    ·rename_i h1;rw[ai4 h]at ho;exact RH (fh h1 ho hG) h hN
    ·cases h
   ·cases h
  ·cases h
 ·cases h
end
end Go.Lw
namespace Go.Lw
variable{P:atq}{N:Nat}{R:Array Oper}{s:AS}{pos:String}{after:Array Edge}{Q:Exit->AS->Prop}
theorem Wi{ρ:atn->ato}{o:Oper}{g:atn}{l:Nat}{args:Array atn}{ts:Array atp}(ho:o.op=.call ⟨.value g,args,ts⟩)
  (hρ:ρ g=.func (.yield l) #[] #[]):(execOp ρ o).run P=(Instr.yield l (args.map ρ)).run P:=by
 obtain⟨dst,op,type,pos,after,guard⟩:=o;subst ho;funext w;simp[execOp,resolve,hρ,Deferred.ofValue,invoke]
def vV(P:atq)(vs:Array ato)(w:atr)(R:Ending->atr->Prop):Prop :=
  ∃l f ts x y,vs[0]?=some (.func (.yield l) #[] #[])/\(Instr.yield l (vs.toList.drop 1).toArray).run P w=.ok (.round l f ts x y) w/\∀ro n,RoundIn (Fw ro) n P l f ts x y w R
theorem vV.mono{vs:Array ato}{w:atr}{R R':Ending->atr->Prop}(h:vV P vs w R)(hr:∀e w',R e w'->R' e w'):vV P vs w R':=by
 obtain⟨l,f,ts,x,y,h1,h2,h3⟩:=h;exact⟨l,f,ts,x,y,h1,h2,fun ro n=>(h3 ro n).mono hr⟩
def Bq(P:atq)(k:Nat)(xs:List AV)(H:Hp)(r:AV)(H':Hp):Prop:=I4 (vV P) (.yl k::xs) H r H'
theorem aba{d:Nat}{g:atn}{k:Nat}{args:Array atn}{ts:Array atp}{xs:List AV}{H H':Hp}{r:AV}{t:atp}
  (hg:Ev s g (.yl k)) (dh:Bq P k xs H r H') (ha:EvL s args.toList xs) (hH:∀k z,lk H k=some z->s.blk k=some z) (bm:g9 s H H' r=true) (hN:aob d N=true) :
  Step P N R s ⟨some d,.call ⟨.value g,args,ts⟩,t,pos,after,none⟩ ⟨some r,H'++cU H,aj g++dk args.toList,H.map (·.1)⟩:=by
 refine⟨fun s' ao bP C m a w Q next hC hr hnext=>?_⟩;rw[ate (pU rfl _)];intro ro n;have kv:iC s s' ⟨none,[],aj g++dk args.toList,[]⟩:=⟨ao.1,fun k hk=>by cases hk⟩
 have ha':=ha.agree kv (fun _ h=>ar9.2 (.inr h));have jh:=(hg.agree kv (fun _ h=>ar9.2 (.inl h))).rep hr
 have dC:∃l,a.eval g=.func (.yield l) #[] #[]:=by
  generalize a.eval g=u at jh;cases jh;exact⟨_,rfl⟩
 obtain⟨l,dC⟩:=dC;rw[Wi rfl dC];simp only[g9,ar5,asd]at bm;obtain⟨uz,z8⟩:=bm
 have hc := hr.called (run := vV P) (fun _ _ _ _ h h' => vV.mono h h') dh (vs := #[Value.func (.yield l) #[] #[]] ++ args.map a.eval) (by have := ha'.length; simp at this ⊢; omega) (by
   intro j v x hv hx;cases j with
   |zero =>
    cases hx;rw[ars,ate (by show 0<1;omega)]at hv;cases hv;rw[<- dC];exact jh
   |succ j =>
    refine ha'.rep hr j v x ?_ (by simpa using hx);rw[ars,atd (by show ¬j+1<1;omega)]at hv;have h9:(Array.map a.eval args)[j]?=some v:=hv;simpa using h9)
  (fun k z hz=>by rw[<- hH k z hz];exact ao.2 k (lX hz)) (by
  intro k z hz;rcases bP k (by simp only[asz,ar9];exact .inl (lX hz))with h |h
  ·obtain⟨p,hp,rfl⟩:=aqd.1 h;exact .inl (jW.1 (uz p hp))
  ·exact .inr h) (by
  intro k hk;obtain⟨p,hp,rfl⟩:=aqd.1 hk;exact uz p hp) z8
 obtain⟨l',f,ts',x,y,h1,h2,h3⟩:=hc
 have hl:l'=l:=by
  rw[ars,ate (by show 0<1;omega)]at h1;cases h1;rfl
 subst hl;have e1:((#[Value.func (.yield l') #[] #[]]++args.map a.eval).toList.drop 1).toArray=args.map a.eval:=by simp;rw[<- Array.toList_map,Array.toArray_toList]
 rw[e1]at h2;rw[h2];refine⟨(fun h=>by cases h),(h3 ro (n-1)).mono ?_⟩;rintro e w' ⟨v,m'',rfl,hr',aV,_⟩;rw[aoh]at hN;have:=hr'.put d v (some r) (fun z hz=>by cases hz;exact⟨by have:=hr'.nt;omega,aV⟩);exact hnext m'' _ _ (by simpa[AS.app,Act.put]using this)
theorem NV{d j g:Nat}{op:Op}{t:atp}{want b:Bool}{x:AV}{upd:Hp}{rt rd:List Nat}
  (hj:(R[j]?).bind (·.dst)=some g) (hb:s.get g=some (.v (.bool b))) (hN:aob d N=true)
  (jF:b≠want->∀k∈upd.map (·.1),k∈rd/\lk upd k=s.blk k)
  (h:b=want->Step P N R s ⟨some d,op,t,pos,after,none⟩ ⟨some x,upd,rt,rd⟩) :
  Step P N R s ⟨some d,op,t,pos,after,some (j,want)⟩ ⟨some (.opt (b==want) x),upd,g::rt,rd⟩:=by
 refine⟨fun s' ao bP C m a w Q next hC hr hnext=>?_⟩;have hg:=hr.slots g _ ((ao.1 g (by simp)).trans hb)
 have qB:a.tmps[g]?=some (.bool b):=by
  obtain⟨h1,h2⟩:=hg;generalize hu:a.tmps.getD g undef=u at h2;cases h2;simp only[asc]at hu;rw[aro h1]at hu ⊢;simpa using hu
 have hy:yielded R a.tmps j=some b:=by simp[yielded,hj,qB]
 have hd:d<a.tmps.size:=by rw[aoh]at hN;have:=hr.nt;omega
 by_cases mV:b=want
 ·subst mV;have d5:Region.wanted ⟨some d,op,t,pos,after,some (j,b)⟩ (yielded R a.tmps) = true:=by simp [Region.wanted,hy]
  rw[ate d5];have:=(h rfl).run s' ⟨fun t ht=>ao.1 t (by simp[show t∈rt from ht]),ao.2⟩ bP C m a w Q next hC hr (fun m' a' w' h'=>hnext m' a' w' ?_)
  ·rw[ate (pU rfl _)]at this;exact this
  ·refine⟨fun t y hy=>?_,h'.heap,h'.frame,h'.new,h'.keep,h'.defers,h'.nt⟩;simp only[jb]at hy;split at hy
   ·rename_i oh;cases hy;have:=h'.slots t x (by simp only[jb,ate oh]);exact⟨this.1,.opt (fun _=>this.2) (fun h=>by simp at h)⟩
   ·rename_i oh;exact h'.slots t y (by simp only[jb,atd oh];exact hy)
 ·have d5 : ¬ Region.wanted ⟨some d, op, t, pos, after, some (j, want)⟩ (yielded R a.tmps) = true := by simp [Region.wanted, hy, mV]
  rw[atd d5];have:=hr.put d undef (some (.opt (b==want) x)) (fun y hy=>by cases hy;exact⟨hd,.opt (fun h=>atk (beq_iff_eq.1 h) mV) (fun _=>rfl)⟩);refine hnext m _ _ ?_;refine RelM.congr (s:=⟨(d,some (.opt (b==want) x))::s'.sl,s'.hp⟩) (fun t=>rfl) (fun k=>?_) (by simpa[Act.put]using this);simp only[AS.app,AS.blk,mj];split
  ·rename_i hk;obtain⟨h1,h2⟩:=jF mV k hk;rw[h2];exact ao.2 k h1
  ·rfl
theorem RelM.setLoop{C:Ctx}{m:Nat->Option Nat}{a:Act}{w:atr}(h:RelM C s m a w){k l:Nat}{d:LpD}{st:LoopState}{pe:Option Code}{sl:bN}{r:Loop}
  (hk:lk s.hp k=some (.loop d st pe sl)) (hm:m k=some l) (hl:w.heap[l]?=some (.loop r)) (st':LoopState) (pe':Option Code) :
  RelM C ⟨s.sl,(k,some (.loop d st' pe' sl))::s.hp⟩ m a (w.putObj l (.loop { r with state:=st',pending:=pe' })):=by
 have hlt:=(h.heap.sep k _ l hk hm).2;have dB:∀b',b'≠l->(w.putObj l (.loop { r with state:=st',pending:=pe' })).heap[b']?=w.heap[b']? := fun b' hb=>World.putObj_heap_other hb
 have ck:∀k' y,lk ((k,some (Blk.loop d st' pe' sl))::s.hp) k'=some y->∃z,lk s.hp k'=some z:=by
  intro k' y hy;rw[aE]at hy;split at hy
  ·subst_vars;exact⟨_,hk⟩
  ·exact⟨y,hy⟩
 have hf:Frame (aW s.hp m) w (w.putObj l (.loop { r with state:=st',pending:=pe' })):=by
  refine⟨rfl,rfl,rfl,by simp,?_,?_⟩
  ·rintro b' n ⟨c1,t1,f1,h1,h2⟩;refine⟨c1,t1,f1,?_,h2⟩;rw[dB,h1];rintro rfl;rw[hl]at h1;cases h1
  ·intro b' hb' hn;refine dB b' ?_;rintro rfl;exact hn ⟨k,_,hk,hm⟩
 have bG:∀k' y b',lk ((k,some (Blk.loop d st' pe' sl))::s.hp) k'=some y->m k'=some b'->aW s.hp m b'\/w.heap.size<=b':=by
  intro k' y b' hy hb';obtain⟨z,hz⟩:=ck k' y hy;exact .inl ⟨k',z,hz,hb'⟩
 refine h.update hf (fun t y k' b' _ _ hb'=>hb') bG (fun k' y _ hy=>⟨ck k' y hy,rfl⟩) ⟨?_,?_,?_⟩
 ·intro k' y hy
  by_cases e:k'=k
  ·subst e;rw[aE,ate rfl]at hy;cases hy;have hb:=h.heap.blk k' _ hk;rw[hm]at hb ⊢;cases hb with
   |loop hw h1 h2 h3 h4 h5 hn hr =>
    rw[hl]at hw;cases hw
    exact .loop (World.putObj_heap_same hlt) rfl rfl h3 h4 h5 hn (fun t x hx=>⟨(hr t x hx).1,(hr t x hx).2.mono (f0 hf bG) hf.sz (fun _ _ _ h=>h)⟩)
  ·rw[aE,atd e]at hy;refine BlkRep.mono (f0 hf bG) hf.sz (fun k'' b' _ hb'=>hb') rfl ?_ (h.heap.blk k' y hy);intro b' hb';refine dB b' ?_;rintro rfl;exact e (h.heap.inj k' k y _ b' hy hk hb' hm)
 ·intro k1 k2 y1 y2 b' h1 h2 bM bg;obtain⟨z1,df⟩:=ck k1 y1 h1;obtain⟨z2,l8⟩:=ck k2 y2 h2;exact h.heap.inj k1 k2 z1 z2 b' df l8 bM bg
 ·intro k' y b' hy hb';obtain⟨z,hz⟩:=ck k' y hy;have:=h.heap.sep k' z b' hz hb';exact⟨this.1,asp this.2 hf.size⟩
def zQ:List Tmp->List AV->bN->bN
  |p::ps,x::xs,sl=>zQ ps xs ((p,some x)::sl)
  |_,_,sl=>sl
theorem RelM.params{C:Ctx}{m:Nat->Option Nat}{w:atr}{hp:Hp}:∀(ps:List Tmp)(xs:List AV)(vs:List ato)(sl:bN)(a:Act),RelM C ⟨sl,hp⟩ m a w->vs.length=xs.length->(∀p∈ps,p<C.nt) ->
  (∀(j:Nat) v x,vs[j]?=some v->xs[j]?=some x->Rep (Im C.ext hp m w) (Sz w) m v x) ->
  RelM C ⟨zQ ps xs sl,hp⟩ m { a with tmps:=(ps.zip vs).foldl (fun t (p,v)=>t.setIfInBounds p v) a.tmps } w
 |[],_,_,sl,a,h,_,_,_=>by simpa[zQ]using h
 |p::ps,[],[],sl,a,h,_,_,_=>by simpa[zQ]using h
 |p::ps,x::xs,v::vs,sl,a,h,hl,hp,hr=>by
  have h1:=h.put p v (some x) (fun y hy=>by cases hy;exact⟨asp (hp p (by simp)) h.nt,hr 0 v x rfl rfl⟩);exact RelM.params ps xs vs _ _ h1 (by simpa using hl) (fun q hq=>hp q (by simp[hq])) (fun j v' x' hv hx=>hr (j+1) v' x' hv hx)
def ac4(k:Nat)(d:LpD)(r:AV)(H':Hp):Exit->AS->Prop
  | .normal,s=>∃pe sl,lk s.hp k=some (.loop d .busy pe sl)/\aD ⟨s.sl,(k,some (.loop d .ready none sl))::s.hp⟩ (.v (.bool true)) r H'
  | .ret,s=>∃pe sl,lk s.hp k=some (.loop d .busy pe sl)/\aD ⟨s.sl,(k,some (.loop d .done (some .ret) sl))::s.hp⟩ (.v (.bool false)) r H'
  |_,_=>False
def aeq(P:atq)(k:Nat)(d:LpD)(r:AV)(H':Hp)(e:Exit)(s:AS):Prop :=
  e=.normal/\∃pe sl,lk s.hp k=some (.loop d .ready pe sl)/\bC P d.nt d.body (ac4 k d r H') ⟨s.sl,(k,some (.loop d .busy pe sl))::s.hp⟩
theorem RelM.loopAt{C:Ctx}{m:Nat->Option Nat}{a:Act}{w:atr}(h:RelM C s m a w){k l:Nat}{d:LpD}{st:LoopState}{pe:Option Code}{sl:bN}
  (hk:lk s.hp k=some (.loop d st pe sl)) (hm:m k=some l):∃r:Loop,w.heap[l]?=some (.loop r)/\r.state=st/\r.pending=pe:=by
 have hb:=h.heap.blk k _ hk;rw[hm]at hb;cases hb with
 |loop hw h1 h2=>exact⟨_,hw,h1,h2⟩
theorem ae4{k:Nat}{d:LpD}{xs:List AV}{H:Hp}{r:AV}{H':Hp}{sl:bN}(hH:∀k z,lk H k=some z->1000<=k)(hk:lk H k=some (.loop d .ready none sl))
  (hl:xs.length=d.params.size) (qo:∀p∈d.params.toList,p<d.nt) (h:bC P d.nt d.assign (aeq P k d r H') ⟨zQ d.params.toList xs sl,H⟩):Bq P k xs H r H':=by
 intro ext m w vs hext ch cV db;have hs:vs.size=xs.length+1:=cV;have h0:vs[0]?=some vs[0]:=aro oz;have hy:=db 0 _ _ h0 rfl;generalize vs[0]=v0 at h0 hy;cases hy with
 | @yl _ _ l hm =>
  have hb:=ch.blk k _ hk;rw[hm]at hb;cases hb with
  | @loop _ r0 _ _ _ _ hw h1 h2 h3 h4 h5 hn hr =>
   have TQ:=hH k _ hk
   let C:Ctx:=⟨w,ext,aW H m,m,d.nt,hext,some l⟩
   have ku:RelM C ⟨sl,H⟩ m { tmps:=r0.tmps,defers:=[] } w :=
    ⟨fun t x hx=>hr t x hx,ch,Frame.refl _ _,fun k x b h1 h2=>.inl ⟨k,x,h1,h2⟩,fun _ _ _ _=>rfl,vd.nil _ _,hn⟩
   have sC:((vs.toList.drop 1).toArray).size=r0.params.size:=by rw[h3];simp;omega
   have a8:=ku.params d.params.toList xs (vs.toList.drop 1) sl _ (by simp;omega) qo (fun j v x hv hx=>db (j+1) v x (by simpa[ao7]using hv) (by simpa using hx))
   have e1:(r0.params.zip (vs.toList.drop 1).toArray).foldl (fun tmps (t,a)=>tmps.setIfInBounds t a) r0.tmps=(d.params.toList.zip (vs.toList.drop 1)).foldl (fun t (p,v)=>t.setIfInBounds p v) r0.tmps:=by
    rw[h3,<- Array.foldl_toList,Array.toList_zip]
   refine⟨l,r0.fn,_,r0.assign,r0.body,h0,run_yield hw sC,fun ro n=>roundIn_of_wpIn (F:=Fw ro) trivial ?_⟩;rw[e1,h4,h5];refine wpIn_mono (h C m _ w n rfl a8) ?_;rintro e a1 w1 ⟨s1,m1,⟨rfl,pe1,sl1,iA,am2⟩,JL⟩;have iz:m1 k=some l:=(JL.keep k _ TQ iA).trans hm;obtain⟨r1,lw,am3,am4⟩:=JL.loopAt iA iz;have fy:=JL.setLoop iA iz lw .busy pe1;refine⟨_,run_beginRound lw am3,?_⟩;have e2:({ r1 with state:=.busy }:Loop)={ r1 with state:=.busy,pending:=pe1 }:=by rw[<- am4]
   rw[e2];refine wpIn_mono (am2 C m1 a1 _ n rfl fy) ?_;rintro e a3 w3 ⟨s3,m3,hq,sw⟩
   have fin:∀(jump:Option Code)(pe:Option Code)(sl3:bN),lk s3.hp k=some (.loop d .busy pe sl3) ->
     aD ⟨s3.sl,(k,some (.loop d (if jump.isNone then .ready else .done) jump sl3))::s3.hp⟩ (.v (.bool jump.isNone)) r H' ->
     ∃v w',(Instr.endRound l jump).run P w3=.ok v w'/\∃v' m',Ending.returned v=.returned v'/\Frame (aW H m) w w'/\HeapRel ext H' m' w' /\
      (∀k x b,lk H' k=some x->m' k=some b->aW H m b\/w.heap.size<=b)/\(∀k x y,lk H k=some x->lk H' k=some y->m' k=m k)/\Rep (Im ext H' m' w') (Sz w') m' v' r:=by
    intro jump pe sl3 pw lg;have uC:m3 k=some l:=(sw.keep k _ TQ pw).trans hm;obtain⟨r3,Ad,TS,TT⟩:=sw.loopAt pw uC;have pu:=sw.setLoop pw uC Ad (if jump.isNone then .ready else .done) jump;obtain⟨m'',g3,g4,g5,g6⟩:=lg ext m3 _ _ pu.heap (fun b hb=>pu.ext_lt hb) (.v (.bool jump.isNone));refine⟨_,_,run_endRound jump Ad,_,m'',rfl,pu.frame,g3,?_,?_,g6⟩
    ·intro k' z b hk' hb';obtain⟨k2,z2,cg,bg⟩:=g4 k' z b hk' hb';exact pu.new k2 z2 b cg bg
    ·intro k' z y hk' hy';obtain⟨⟨y',qD⟩,h8⟩:=g5 k' y (hH k' z hk') hy';rw[h8];exact pu.keep k' y' (hH k' z hk') qD
   cases e with
   |normal =>
    obtain⟨pe,sl3,pw,lg⟩:=hq;exact fin none pe sl3 pw lg
   |ret =>
    obtain⟨pe,sl3,pw,lg⟩:=hq;exact fin (some .ret) pe sl3 pw lg
   |_=>exact hq.elim
theorem Fv{x y:Code}(h:bC P N x (fun e s=>match e with | .normal=>mS P N y Q s |e=>Q e s) s):mS P N (.seq x y) Q s:=by
 intro C m a w n mU hN hr;refine wpIn_seq (wpIn_mono (h C m a w n hN hr) ?_);rintro e a' w' ⟨s',m',hq,hr'⟩;cases e with
 |normal=>exact hq C m' a' w' n mU hN hr'
 |_=>exact⟨s',m',hq,hr'⟩
theorem Yf{x y:Code}(h:mS P N x (fun e s=>match e with | .normal=>mS P N y Q s |e=>Q e s) s):mS P N (.seq x y) Q s:=by
 intro C m a w n mU hN hr;refine wpIn_seq (wpIn_mono (h C m a w n mU hN hr) ?_);rintro e a' w' ⟨s',m',hq,hr'⟩;cases e with
 |normal=>exact hq C m' a' w' n mU hN hr'
 |_=>exact⟨s',m',hq,hr'⟩
theorem U2{id:Nat}{c:Code}(h:mS P N c (C7 id (Q .normal) Q) s):mS P N (.block id c) Q s:=by
 intro C m a w n mU hN hr;refine wpIn_block (wpIn_mono (h C m a w n mU hN hr) ?_);rintro e a' w' ⟨s',m',hq,hr'⟩;cases e with
 |exit id' =>
  simp only[Exit.inBlock];simp only[C7]at hq;split at hq
  ·rename_i hb;rw[ate (ar4 hb)];exact⟨s',m',hq,hr'⟩
  ·rename_i hb;rw[atd (aor hb)];exact⟨s',m',hq,hr'⟩
 |_=>exact⟨s',m',hq,hr'⟩
theorem RelM.mark{C:Ctx}{m:Nat->Option Nat}{a:Act}{w:atr}(hr:RelM C s m a w) :
  RelM C s m { a with defers:=vl w.heap.size::a.defers } { w with heap:=w.heap.push (.deferred (some [])) }:=by
 have hf:=GY (aW s.hp m) w (.deferred (some []));have bG:∀k' y b',lk s.hp k'=some y->m k'=some b'->aW s.hp m b'\/w.heap.size<=b':=fun k' y b' h1 h2=>.inl ⟨k',y,h1,h2⟩
 have a8:RelM C s m a { w with heap:=w.heap.push (.deferred (some [])) }:=by
  refine hr.update hf (fun t y k' b' _ _ hb'=>hb') bG (fun k' y _ hy=>⟨⟨y,hy⟩,rfl⟩) ⟨?_,hr.heap.inj,?_⟩
  ·intro k y hk;refine BlkRep.mono (f0 hf bG) hf.sz (fun _ _ _ h=>h) rfl ?_ (hr.heap.blk k y hk);intro b hb;have:=(hr.heap.sep k y b hk hb).2;show(w.heap.push _)[b]?=_;rw[aru,atd oz]
  ·intro k y b hk hb;have:=hr.heap.sep k y b hk hb;refine⟨this.1,?_⟩;have:=this.2;simp;omega
 refine⟨a8.slots,a8.heap,a8.frame,a8.new,a8.keep,?_,a8.nt⟩;obtain⟨Ds,e,hn,hD⟩:=hr.defers;have bP:(w.heap.push (.deferred (some [])))[w.heap.size]?=some (Obj.deferred (some [])):=by simp
 refine⟨w.heap.size::Ds,by simp[e],List.nodup_cons.2 ⟨fun hm=>?_,hn⟩,?_⟩
 ·have:=hr.heap.lt (hD _ hm).2;omega
 ·intro D hm;rcases asj.1 hm with rfl |hm
  ·exact⟨hr.frame.size,bP⟩
  ·obtain⟨h1,h2⟩:=hD D hm;refine⟨h1,?_⟩;have:=hr.heap.lt h2;show(w.heap.push _)[D]?=_;rw[aru,atd oz];exact h2
theorem Pp{g:atn}{ps:Array Tmp}{assign body:Code}{f:FuncId}{caps:List AV}{k:Nat}{H H':Hp}{r:AV}{st:LoopState}{pe:Option Code}{sl0 sl':bN}
  (hg:Ev s g (.fn f caps)) (fm:∀t x,lk sl0 t=some x->s.get t=some x) (TU:(H5 sl0).contains k=false) (hfr:s.freshB k=true) (dh:Con P f (.yl k::caps) H r H')
  (hH:∀k' z,lk H k'=some z->lk ((k,some (.loop ⟨ps,assign,body,N⟩ .ready none sl0))::s.hp) k'=some z) (bm:g9 s H H' r=true)
  (hkH:jM H k=true) (bP:(H'.all fun p=>jM H p.1)=true) (xa:lk H' k=some (.loop ⟨ps,assign,body,N⟩ st pe sl')) (cR:st≠.busy)
  (ph:pe=none/\Q .normal ⟨s.sl,(k,none)::(H'++cU H++s.hp)⟩\/pe=some .ret/\Q .ret ⟨s.sl,(k,none)::(H'++cU H++s.hp)⟩) :
  mS P N (.rangeFunc g ps assign body) Q s:=by
 intro C m a w n mU hN hr;rw[mU];simp only[g9,ar5,asd]at bm bP;obtain⟨uz,z8⟩:=bm;have jh:=hg.rep hr;generalize dC:a.eval g=u at jh;cases jh with
 | @fn _ _ cvs _ hn' aV =>
  refine wpIn_rangeFunc (F:=Fw none) fun fn _=>?_
  have TV:=AS.fresh_of hfr;have a8:=hr.mark
  have hnm:¬(Blk.loop ⟨ps,assign,body,N⟩ .ready none sl0).Names k:=by
   rintro⟨t,x,hx,hn⟩;have h9:k∈H5 sl0:=List.mem_flatMap.2 ⟨_,hx,hn.mem⟩;have h8:=List.elem_eq_true_of_mem h9;rw[List.contains]at TU;rw[TU]at h8;cases h8
  have fy:=a8.alloc (k:=k) TV (.loop { state:=.ready,pending:=none,fn,tmps:=a.tmps,params:=ps,assign,body,defers:=w.heap.size }) (.loop ⟨ps,assign,body,N⟩ .ready none sl0) hnm
   (fun g' S' m' w' h1 h2 h3 h4 => .loop h4 rfl rfl rfl rfl rfl (by have := hr.nt; rw [hN] at this; exact this) (fun t x hx => by
    obtain⟨g1,g2⟩:=a8.slots t x (fm t x hx);exact⟨g1,g2.mono h1 h2 (fun k' b hk hb=>h3 k' b (fun e=>TV.2.2.1 t x (fm t x hx) (e▸hk)) hb)⟩))
  have am5:(w.heap.push (Obj.deferred (some []))).size=w.heap.size+1:=by simp
  have a5:∀k',k'=k->(if k'=k then some (w.heap.push (Obj.deferred (some []))).size else m k')=some (w.heap.size+1):=fun k' e=>by rw[ate e,am5]
  have hc := fy.called (run := Calls P f) (fun _ _ _ _ h h' => Calls.mono h h') dh.ret (vs := #[Value.func (.yield (w.heap.size + 1)) #[] #[]] ++ cvs) (by simp [hn']; omega) (by
    intro j v x hv hx;cases j with
    |zero =>
     cases hx;rw[ars,ate (by show 0<1;omega)]at hv;cases hv;exact .yl (a5 k rfl)
    |succ j =>
     rw[ars,atd (by show ¬j+1<1;omega)]at hv;have h9:cvs[j]?=some v:=hv;have hx':caps[j]?=some x:=hx;have am6:({ a with defers:=vl w.heap.size::a.defers }:Act).eval g=.func (.func f) #[] cvs:=by cases g <;> exact dC
     have am7:iC s ⟨s.sl,(k,some (.loop ⟨ps,assign,body,N⟩ .ready none sl0))::s.hp⟩ ⟨none,[],aj g,[]⟩:=⟨fun _ _=>rfl,fun k hk=>by cases hk⟩
     have h8:=(hg.agree am7 (fun _ h=>h)).rep fy;rw[am6]at h8;cases h8 with
     |fn m9 JM=>exact JM j v x h9 hx')
   hH (by
    intro k' z hz;have:=bP _ (sj hz);exact .inl (jW.1 this)) (by
    intro k' hk';obtain⟨p,hp,rfl⟩:=aqd.1 hk';exact uz p hp) z8
  let W2:=(w.alloc (.deferred (some []))).alloc (.loop { state:=.ready,pending:=none,fn,tmps:=a.tmps,params:=ps,assign,body,defers:=w.heap.size })
  refine⟨w.heap.size+1,[vl w.heap.size],W2,{ target:=.fn (.func f) cvs,args:=#[.func (.yield (w.heap.size+1)) #[] #[]] },W2,f,
   #[Value.func (.yield (w.heap.size+1)) #[] #[]]++cvs,W2,run_enterLoop_outer fn a.tmps ps assign body,?_,fun _ _=>trivial,?_,(fun h=>by cases h),(callsIn_wide (n:=n-1)).2 (Calls.mono hc ?_)⟩
  ·simp only[resolve,dC];simp[go_sem]
  ·simp[invoke,go_sem,dh.ok _ _]
  ·rintro e w' ⟨v,m'',rfl,sw,_,dg⟩;obtain⟨y,hy⟩:=jW.1 hkH;have hm:m'' k=some (w.heap.size+1):=(dg k y _ hy xa).trans (a5 k rfl)
   have TW:lk (H'++cU H++(k,some (Blk.loop ⟨ps,assign,body,N⟩ .ready none sl0))::s.hp) k=some (.loop ⟨ps,assign,body,N⟩ st pe sl'):=by
    rw[atc,mj,ate (lX xa)];exact xa
   obtain⟨r3,Ad,TS,TT⟩:=sw.loopAt TW hm
   have pu:=(sw.setLoop TW hm Ad .exhausted pe).fewer (hp':=(k,none)::(H'++cU H++s.hp)) (by
    intro k' z hz;rw[aE]at hz;split at hz
    ·cases hz
    ·rename_i aO;rw[aE,atd aO];rw[atc,mj]at hz ⊢;split at hz
     ·rename_i h1;rw[ate h1];exact hz
     ·rename_i h1;rw[atd h1]
      rw[mj]at hz ⊢;split at hz
      ·rename_i h2;rw[ate h2];exact hz
      ·rename_i h2;rw[atd h2,aE,atd aO];exact hz)
   have eW:=run_endLoop (P:=P) Ad (by rw[TS];exact cR);rw[TT]at eW;refine⟨pe,_,eW,?_⟩;rcases ph with⟨rfl,hq⟩ |⟨rfl,hq⟩
   ·exact⟨_,m'',hq,pu⟩
   ·exact wpIn_ret ⟨_,m'',hq,pu⟩
theorem OS{f:FuncId}{caps:List AV}(hnm:(caps.all fun x=>x.nm.isEmpty)=true):Sub (.fn f caps) (.cl f [] caps):=by
 intro g S m v h;cases h with
 |fn hn hr =>
  exact .cl rfl (fun j u c hu hc => by simp at hc) hn (fun j u c hu hc => (hr j u c hu hc).mono (fun _ _ h => h) (fun _ _ h => h) (fun k b hk => by
   have h1:=asd.1 hnm c (ar1 hc);have h2:=hk.mem;simp only[List.isEmpty_iff]at h1;rw[h1]at h2;cases h2))
theorem ab2{ρ:atn->ato}{o:Oper}{g:atn}{f:FuncId}{pre caps:Array ato}{args:Array atn}{ts:Array atp}{w:atr}{vs:Array ato}(ho:o.op=.call ⟨.value g,args,ts⟩)
  (hρ:ρ g=.func (.func f) pre caps) (bm:yO P f) (cV:pre++args.map ρ++caps=vs):(execOp ρ o).run P w=.ok (.enter f vs) w:=by
 subst cV;have:=bm (pre++args.map ρ++caps) w;rw[Array.append_assoc]at this;obtain⟨dst,op,type,pos,after,guard⟩:=o;subst ho;simp[execOp,resolve,hρ,Deferred.ofValue,invoke,this]
theorem KE{d:Nat}{g:atn}{f:FuncId}{pre caps:List AV}{args:Array atn}{ts:Array atp}{xs:List AV}{H H':Hp}{r:AV}{t:atp}
  (hg:Ev s g (.cl f pre caps)) (dh:Con P f (pre++xs++caps) H r H') (ha:EvL s args.toList xs) (hH:∀k z,lk H k=some z->s.blk k=some z) (bm:g9 s H H' r=true) (hN:aob d N=true) :
  Step P N R s ⟨some d,.call ⟨.value g,args,ts⟩,t,pos,after,none⟩ ⟨some r,H'++cU H,aj g++dk args.toList,H.map (·.1)⟩:=by
 refine xQ rfl (fun d' h=>by cases h;exact⟨hN,rfl⟩) dh hH bm fun s' ao C m a w hr=>?_
 have kv:iC s s' ⟨none,[],aj g++dk args.toList,[]⟩:=⟨ao,fun k hk=>by cases hk⟩
 have ha':=ha.agree kv (fun _ h=>ar9.2 (.inr h));have jh:=(hg.agree kv (fun _ h=>ar9.2 (.inl h))).rep hr;generalize hv:a.eval g=u at jh;cases jh with
 | @cl _ _ pvs cvs _ _ hn aV hn' am8 =>
  have hl:=ha'.length;simp only[arm]at hl;refine⟨pvs++args.map a.eval++cvs,ab2 rfl hv dh.ok rfl,by simp[hn,hn',hl],?_⟩;intro j v x hv' hx;rw[ars]at hv';rw[List.getElem?_append]at hx;simp only[art,Array.size_map,asx,hn,hl]at hv' hx;split at hv'
  ·rename_i h1;rw[ate h1]at hx;rw[ars]at hv';rw[List.getElem?_append]at hx;split at hv'
   ·rename_i h2;rw[ate oz]at hx;exact(aV j v x hv' hx).mono (fun _ _ h=>h) (fun _ _ h=>h) (fun k b _ h=>by cases h)
   ·rename_i h2;rw[atd oz]at hx;rw[hn]at hv';exact ha'.rep hr _ v x (by simpa using hv') hx
  ·rename_i h1;rw[atd h1]at hx;exact(am8 _ v x hv' hx).mono (fun _ _ h=>h) (fun _ _ h=>h) (fun k b _ h=>by cases h)
end Go.Lw
namespace Go.Lw
variable{P:atq}{N:Nat}{Q:Exit->AS->Prop}
def B0(s:AS)(g:Nat)(want:Bool):Option (Prop×Bool):=match s.get g with
  |some x=>match x with
    | .v (.bool b)=>some (b=want,b==want)
    | .opt c (.v (.bool b))=>some (c=true/\b=want,c&&b==want)
    |_=>none
  |none=>none
inductive Want where
  |ar (op:BinOp) (k:IntKind) (a b:Int)
  |cv (k:IntKind) (n:Int)
  |ln (es:List AV)
  |ix (es:List AV) (i:Int)
  |cl (f:FuncId) (xs:List AV)
def zx(P:atq)(w:Want)(x:AV):Prop:=match w with
  | .ar op k a b=>∃n,k.wrap (gw op a b)=n/\x=.v (.int k n)
  | .cv k n=>∃m,k.wrap n=m/\x=.v (.int k m)
  | .ln es=>∃n:Nat,es.length=n/\x=.v (.int .i64 n)
  | .ix es i=>0<=i/\∃e,es[i.toNat]?=some e/\x=.iptr e.cells
  | .cl f xs=>kU P f xs x/\x.nm=[]
inductive Fr where
  |seq (c:Code)
  |blk (id:Nat)
  |lp (K:AS->Prop)
def dG(P:atq)(N:Nat)(Q:Exit->AS->Prop):List Fr->Exit->AS->Prop
  |[],e,s=>Q e s
  | .seq c::k,e,s=>match e with
    | .normal=>bC P N c (dG P N Q k) s
    |e=>dG P N Q k e s
  | .blk id::k,e,s=>match e with
    | .exit id'=>match ao6 id' id with
      |true=>dG P N Q k .normal s
      |false=>dG P N Q k (.exit id') s
    |e=>dG P N Q k e s
  | .lp K::k,e,s=>match e with
    | .normal=>K s
    |e=>dG P N Q k e s
inductive Cf where
  |code (c:Code) (k:List Fr) (s:AS)
  |ops (id i:Nat) (R:List Oper) (draw:Bool) (s0:AS) (ops:List Oper) (us:List Out) (k:List Fr) (s:AS)
  |ap (o:Oper) (u:Out) (id i:Nat) (R:List Oper) (draw:Bool) (s0:AS) (ops:List Oper) (us:List Out) (k:List Fr) (s:AS)
  |ex (e:Exit) (k:List Fr) (s:AS)
  |st (w:Want) (rt:List Nat) (o:Oper) (id i:Nat) (R:List Oper) (draw:Bool) (s0:AS) (ops:List Oper) (us:List Out) (k:List Fr) (s:AS)
  |sg (G:Prop) (b:Bool) (w:Want) (rt:List Nat) (o:Oper) (id i:Nat) (R:List Oper) (draw:Bool) (s0:AS) (ops:List Oper) (us:List Out) (k:List Fr) (s:AS)
def Gd(P:atq)(N:Nat)(Q:Exit->AS->Prop):Cf->Prop
  | .code c k s=>bC P N c (dG P N Q k) s
  | .ops _ _ R draw s0 ops us k s=>iZ P N R.toArray ops s us (fun s' us'=>(draw=true->chk R us' s0=true)/\dG P N Q k .normal s')
  | .ap o u _ _ R draw s0 ops us k s=>iZ P N R.toArray ops (s.app o.dst u) (us++[u]) (fun s' us'=>(draw=true->chk R us' s0=true)/\dG P N Q k .normal s')
  | .ex e k s=>dG P N Q k e s
  | .st w rt o _ _ R draw s0 ops us k s=>(∀x,zx P w x->Step P N R.toArray s o ⟨some x,[],rt,[]⟩)->iZ P N R.toArray (o::ops) s us (fun s' us'=>(draw=true->chk R us' s0=true)/\dG P N Q k .normal s')
  | .sg G b w rt o _ _ R draw s0 ops us k s=>(∀x,(G->zx P w x)->Step P N R.toArray s o ⟨some (.opt b x),[],rt,[]⟩)->iZ P N R.toArray (o::ops) s us (fun s' us'=>(draw=true->chk R us' s0=true)/\dG P N Q k .normal s')
theorem VO{x y:Code}{k:List Fr}{s:AS}(h:bC P N x (dG P N Q (.seq y::k)) s):bC P N (.seq x y) (dG P N Q k) s :=
 OT fun K hK=>jO h fun e s he=>by
  cases e with
  |normal=>exact hK s he
  |_=>exact he
theorem akv{id:Nat}{c:Code}{k:List Fr}{s:AS}(h:bC P N c (dG P N Q (.blk id::k)) s):bC P N (.block id c) (dG P N Q k) s :=
 Q3 (jO h fun e s he=>by
  cases e with
  |exit id' =>
   show match ao6 id' id with |true=>_ |false=>_
   simp only[dG]at he;split at he
   ·exact he
   ·exact he
  |_=>exact he)
theorem Bb{R:Array Oper}{K K':AS->List Out->Prop}(hk:∀s us,K s us->K' s us):∀{ops:List Oper}{s:AS}{us:List Out},iZ P N R ops s us K->iZ P N R ops s us K'
 |[],s,us,h=>hk s us h
 |_::_,s,us,⟨u,h1,h2,h3⟩=>⟨u,h1,h2,Bb hk h3⟩
def zg:List Oper->Bool
  |[]=>true
  |o::l=>match o.op with
    | .defer _=>false
    |_=>zg l
theorem In:∀{l:List Oper},zg l=true->l.all nd=true
 |[],_=>rfl
 |o::l,h=>by
  unfold zg at h;simp only[List.all_cons,ar5];split at h
  ·cases h
  ·rename_i hd;refine⟨?_,In h⟩;unfold nd;split
   ·rename_i c hc;exact atk hc (hd c)
   ·rfl
theorem Kt{id:Nat}{A:Array Oper}{d:Bool}{k:List Fr}{s:AS}(cE:A.toList.all nd=true)(hd:d=true->P.follows .mixedOrders=true)
  (h:iZ P N A.toList.toArray A.toList s [] (fun s' us'=>(d=true->chk A.toList us' s=true)/\dG P N Q k .normal s')):bC P N (.region id A d) (dG P N Q k) s:=by
 have e:A=A.toList.toArray:=by simp
 cases d with
 |false =>
  rw[e]
  exact Ya cE (by
   exact Bb (fun s us h=>h.2) h)
 |true =>
  rw[e];exact Z7 cE (hd rfl) (Bb (fun s us h=>⟨h.1 rfl,h.2⟩) h)
variable[Inhabited (Tys P)]
def C2(P:atq)[Inhabited (Tys P)](s:AS)(d:Nat):Op->Option (Out×List Prop)
  | .alloc T=>match cF P T with
    |some ti=>match ti.zero.all Value.oneCell' with
      |true=>match jP (ti.zero.map .v)with
        |some l=>some (⟨some (.ptr d 0),[(d,some (.box l))],[],[]⟩,[])
        |none=>none
      |false=>none
    |none=>none
  | .box _ x=>match eR false True s x with
    |some (v,ob)=>match v.ok with
      |true=>match jP v.cells with
        |some l=>some (⟨some (.ptr d 0),[(d,some (.box l))],aj x,[]⟩,ob)
        |none=>none
      |false=>none
    |none=>none
  |_=>none
def AY(P:atq)[Inhabited (Tys P)](s:AS):Op->Option (Out×List Prop)
  | .store T x y=>match eR false True s x with
    |some (.ptr k off,ob)=>match eR false True s y with
      |some (v,ob')=>match s.blk k with
        |some (.box cs)=>match cF P T with
          |some ti=>match v.ok&&ao6 v.cells.length ti.size&&Nat.ble (off+ti.size) cs.length with
            |true=>match jP (over cs off v.cells)with
              |some l=>some (⟨none,[(k,some (.box l))],aj x++aj y,[k]⟩,ob++ob')
              |none=>none
            |false=>none
          |none=>none
        |_=>none
      |none=>none
    |_=>none
  |_=>none
def Do(s:AS)(r:Out×List Prop):Option (Out×List Prop):=match Fz s r.1 with
  |true=>some r
  |false=>none
def IK(P:atq)[Inhabited (Tys P)](N:Nat)(R:List Oper)(s:AS)(o:Oper):Option (Out×List Prop):=match o.guard with
  |none=>match o.dst with
    |some d=>match aob d N with
      |true=>match yL P false True s o.op with
        |some ⟨x,rt,rd,ob⟩=>some (⟨some x,[],rt,rd⟩,ob)
        |none=>match C2 P s d o.op with
          |some r=>Do s r
          |none=>none
      |false=>none
    |none=>match AY P s o.op with
      |some r=>Do s r
      |none=>none
  |some (j,want)=>match R[j]? with
    |some og=>match og.dst with
      |some g=>match o.dst with
        |some d=>match aob d N with
          |true=>match B0 s g want with
            |some (G,b)=>match yL P true G s o.op with
              |some ⟨x,rt,rd,ob⟩=>some (⟨some (.opt b x),[],g::rt,rd⟩,ob)
              |none=>none
            |none=>none
          |false=>none
        |none=>none
      |none=>none
    |none=>none
theorem Ow{s:AS}{r r':Out×List Prop}(h:Do s r=some r'):r'=r/\k9 s r.1:=by
 unfold Do at h;split at h
 ·rename_i hn;cases h;exact⟨rfl,yF hn⟩
 ·cases h
theorem N1{s:AS}{R:Array Oper}{d:Nat}{op:Op}{t:atp}{pos:String}{after:Array Edge}{r:Out×List Prop}(h:C2 P s d op=some r)(ho:AllP r.2)(hN:aob d N=true) :
  Step P N R s ⟨some d,op,t,pos,after,none⟩ r.1:=by
 unfold C2 at h;split at h
 ·split at h
  ·rename_i ti bZ;split at h
   ·rename_i hz;split at h
    ·rename_i l hl;cases h;cases kR hl;exact X2 (bW bZ) hz hN
    ·cases h
   ·cases h
  ·cases h
 ·split at h
  ·rename_i v ob h1;split at h
   ·rename_i hv;split at h
    ·rename_i l hl;cases h;cases kR hl;exact aaf (fh h1 ho trivial) hv hN
    ·cases h
   ·cases h
  ·cases h
 ·cases h
theorem MO{s:AS}{R:Array Oper}{op:Op}{t:atp}{pos:String}{after:Array Edge}{r:Out×List Prop}(h:AY P s op=some r)(ho:AllP r.2) :
  Step P N R s ⟨none,op,t,pos,after,none⟩ r.1:=by
 unfold AY at h;split at h
 ·split at h
  ·rename_i h1;split at h
   ·rename_i h2;split at h
    ·rename_i hk;split at h
     ·rename_i ti bZ;split at h
      ·rename_i hc;simp only[ar5]at hc;split at h
       ·rename_i l hl;cases h;cases kR hl
        exact OO (fh h1 ho.app.1 trivial) hk (fh h2 ho.app.2 trivial) hc.1.1 (bW bZ) hc.1.2 hc.2
       ·cases h
      ·cases h
     ·cases h
    ·cases h
   ·cases h
  ·cases h
 ·cases h
theorem amr{R:List Oper}{s:AS}{o:Oper}{u:Out}{ob:List Prop}(h:IK P N R s o=some (u,ob))(ho:AllP ob):Step P N R.toArray s o u/\k9 s u:=by
 obtain⟨dst,op,ty,pos,after,guard⟩:=o;unfold IK at h;simp only at h;split at h
 ·split at h
  ·rename_i d;split at h
   ·rename_i hN;split at h
    ·rename_i h1;cases h;exact⟨CT h1 ho trivial hN,fun k hk=>by simp at hk⟩
    ·split at h
     ·rename_i r h1;obtain⟨h2,h3⟩:=Ow h;subst h2;exact⟨N1 h1 ho hN,h3⟩
     ·cases h
   ·cases h
  ·split at h
   ·rename_i r h1;obtain⟨h2,h3⟩:=Ow h;subst h2;exact⟨MO h1 ho,h3⟩
   ·cases h
 ·rename_i j want;split at h
  ·rename_i og sD;split at h
   ·rename_i g hg;split at h
    ·rename_i d;split at h
     ·rename_i hN;split at h
      ·rename_i G b hG;split at h
       ·rename_i h1;cases h;have hj:(R.toArray[j]?).bind (·.dst) = some g:=by simp [sD,hg]
        unfold B0 at hG;split at hG
        ·rename_i x hx;split at hG
         ·cases hG;exact⟨fM hj hx hN (fun h=>CT h1 ho h hN),fun k hk=>by simp at hk⟩
         ·cases hG;exact⟨tO hj hx hN (fun hc h=>CT h1 ho ⟨hc,h⟩ hN),fun k hk=>by simp at hk⟩
         ·cases hG
        ·cases hG
       ·cases h
      ·cases h
     ·cases h
    ·cases h
   ·cases h
  ·cases h
def GF:BinOp->Bool
  | .add | .sub | .mul=>true
  |_=>false
theorem Py:∀{op:BinOp},GF op=true->(match op with | .add | .sub | .mul=>true |_=>false)=true:=by intro op;cases op <;> intro h <;> first |rfl |cases h
structure R2 where
  w:Want
  rt:List Nat
  ob:List Prop
def Cc(P:atq)[Inhabited (Tys P)](g:Bool)(G:Prop)(s:AS):Op->Option R2
  | .binOp op _ x y _=>match GF op with
    |true=>match eR g G s x with
      |some (.v (.int k a),ob)=>match eR g G s y with
        |some (.v (.int k' b),ob')=>match ao6 (fq k) (fq k')with
          |true=>some ⟨.ar op k a b,aj x++aj y,ob++ob'⟩
          |false=>none
        |_=>none
      |_=>none
    |false=>none
  | .convert S T x=>match eR g G s x with
    |some (.v (.int _ n),ob)=>match cF P S with
      |some _=>match cF P T with
        |some ti=>match ti.k with
          | .int k'=>some ⟨.cv k' n,aj x,ob⟩
          |_=>none
        |none=>none
      |none=>none
    |_=>none
  | .indexAddr T x ix=>match eR g G s x with
    |some (.lst sz es,ob)=>match eR g G s ix with
      |some (.v (.int _ i),ob')=>match cF P T with
        |some ti=>match ti.k with
          | .slice E=>match cF P E with
            |some te=>match ao6 te.size sz with
              |true=>some ⟨.ix es i,aj x++aj ix,ob++ob'⟩
              |false=>none
            |none=>none
          |_=>none
        |none=>none
      |_=>none
    |_=>none
  | .call ⟨.builtin .len,args,ts⟩=>match args.toList with
    |[x]=>match ts.toList with
      |[T]=>match eR g G s x with
        |some (.lst _ es,ob)=>match cF P T with
          |some ti=>match ti.k with
            | .slice _=>some ⟨.ln es,aj x,ob⟩
            |_=>none
          |none=>none
        |_=>none
      |_=>none
    |_=>none
  | .call ⟨.value (.func f),args,_⟩=>match r8 g G s args.toList with
    |some (xs,ob)=>some ⟨.cl f xs,dk args.toList,ob⟩
    |none=>none
  | .call ⟨.value (.tmp t),args,_⟩=>match eR g G s (.tmp t)with
    |some (.cl f pre caps,ob)=>match r8 g G s args.toList with
      |some (xs,ob')=>some ⟨.cl f (pre++xs++caps),aj (.tmp t)++dk args.toList,ob++ob'⟩
      |none=>none
    |_=>none
  |_=>none
theorem Hs{g:Bool}{G:Prop}{s:AS}{R:Array Oper}{d:Nat}{t:atp}{pos:String}{after:Array Edge}{op:Op}{r:R2}(h:Cc P g G s op=some r)(ho:AllP r.ob)(hG:G)(hN:aob d N=true)
  {x:AV} (hm:zx P r.w x):Step P N R s ⟨some d,op,t,pos,after,none⟩ ⟨some x,[],r.rt,[]⟩:=by
 unfold Cc at h;split at h
 ·split at h
  ·rename_i cS;split at h
   ·rename_i h1;split at h
    ·rename_i h2;split at h
     ·rename_i hk;cases h;cases p6 hk;obtain⟨n,e,rfl⟩:=hm;subst e;exact MP (fh h1 ho.app.1 hG) (fh h2 ho.app.2 hG) (Py cS) hN
     ·cases h
    ·cases h
   ·cases h
  ·cases h
 ·split at h
  ·rename_i h1;split at h
   ·rename_i tS hS;split at h
    ·rename_i ti hT;split at h
     ·rename_i k' hk;cases h;obtain⟨m,e,rfl⟩:=hm;subst e;exact MV (fh h1 ho hG) hN (bW hS) (bW hT) hk
     ·cases h
    ·cases h
   ·cases h
  ·cases h
 ·split at h
  ·rename_i h1;split at h
   ·rename_i h2;split at h
    ·rename_i ti hT;split at h
     ·rename_i E hk;split at h
      ·rename_i te hE;split at h
       ·rename_i a5;cases h;obtain⟨h0,e,he,rfl⟩:=hm;exact K6 (fh h1 ho.app.1 hG) (fh h2 ho.app.2 hG) (bW hT) hk (bW hE) (ar4 a5) h0 he hN
       ·cases h
      ·cases h
     ·cases h
    ·cases h
   ·cases h
  ·cases h
 ·rename_i args ts;split at h
  ·rename_i y hy;split at h
   ·rename_i T hT;have e1:args = #[y]:=by apply arq.1; simpa using hy
    have e2:ts=#[T]:=by apply arq.1;simpa using hT
    subst e1;subst e2
    split at h
    ·rename_i h1;split at h
     ·rename_i ti bZ;split at h
      ·rename_i e hk;cases h;obtain⟨n,e,rfl⟩:=hm;subst e;exact PQ (fh h1 ho hG) (bW bZ) hk hN
      ·cases h
     ·cases h
    ·cases h
   ·cases h
  ·cases h
 ·split at h
  ·rename_i h1;cases h;exact abf hm.1 (wW hG h1 ho) hm.2 hN
  ·cases h
 ·split at h
  ·rename_i h1;split at h
   ·rename_i h2;cases h;exact KE (fh h1 ho.app.1 hG) hm.1 (wW hG h2 ho.app.2) (fun k z h=>by cases h) (by simp[g9,xz,hm.2]) hN
   ·cases h
  ·cases h
 ·cases h
def GN(P:atq)[Inhabited (Tys P)](N:Nat)(R:List Oper)(s:AS)(o:Oper)(f:Want->List Nat->Cf)(fG:Prop->Bool->Want->List Nat->Cf):Option (Cf×List Prop):=match o.dst with
  |some d=>match aob d N with
    |true=>match o.guard with
      |none=>match Cc P false True s o.op with
        |some ⟨w,rt,ob⟩=>some (f w rt,ob)
        |none=>none
      |some (j,want)=>match R[j]? with
        |some og=>match og.dst with
          |some g=>match B0 s g want with
            |some (G,b)=>match Cc P true G s o.op with
              |some ⟨w,rt,ob⟩=>some (fG G b w (g::rt),ob)
              |none=>none
            |none=>none
          |none=>none
        |none=>none
    |false=>none
  |none=>none
theorem Vy{R:List Oper}{s:AS}{o:Oper}{f:Want->List Nat->Cf}{fG:Prop->Bool->Want->List Nat->Cf}{c:Cf}{ob:List Prop}(h:GN P N R s o f fG=some (c,ob))(ho:AllP ob) :
  (∃w rt,c=f w rt/\∀x,zx P w x->Step P N R.toArray s o ⟨some x,[],rt,[]⟩)\/(∃G b w rt,c=fG G b w rt/\∀x,(G->zx P w x)->Step P N R.toArray s o ⟨some (.opt b x),[],rt,[]⟩):=by
 obtain⟨dst,op,ty,pos,after,guard⟩:=o;unfold GN at h;simp only at h;split at h
 ·rename_i d;split at h
  ·rename_i hN;split at h
   ·split at h
    ·rename_i h1;cases h;exact .inl ⟨_,_,rfl,fun x hm=>Hs h1 ho trivial hN hm⟩
    ·cases h
   ·rename_i j want;split at h
    ·rename_i og sD;split at h
     ·rename_i g hg;split at h
      ·rename_i G b hG;split at h
       ·rename_i h1;cases h;have hj:(R.toArray[j]?).bind (·.dst) = some g:=by simp [sD,hg]
        refine .inr ⟨_,_,_,_,rfl,fun x hm=>?_⟩;unfold B0 at hG;split at hG
        ·rename_i y hy;split at hG
         ·cases hG;exact fM hj hy hN (fun h=>Hs h1 ho h hN (hm h))
         ·cases hG;exact tO hj hy hN (fun hc h=>Hs h1 ho ⟨hc,h⟩ hN (hm ⟨hc,h⟩))
         ·cases hG
        ·cases hG
       ·cases h
      ·cases h
     ·cases h
    ·cases h
  ·cases h
 ·cases h
def step(P:atq)[Inhabited (Tys P)](N:Nat)(st:Nat×Nat):Cf->Option (Cf×List Prop)
  | .code c k s=>match c with
    | .skip=>match ao6 77777 st.1 with
      |true=>none
      |false=>some (.ex .normal k s,[])
    | .ret=>match ao6 77777 st.1 with
      |true=>none
      |false=>some (.ex .ret k s,[])
    | .exit id=>match ao6 77777 st.1 with
      |true=>none
      |false=>some (.ex (.exit id) k s,[])
    | .seq x y=>some (.code x (.seq y::k) s,[])
    | .block id c=>some (.code c (.blk id::k) s,[])
    | .region id A d=>match ao6 id st.1&&ao6 0 st.2 with
      |true=>none
      |false=>match zg A.toList with
        |true=>some (.ops id 0 A.toList d s A.toList [] k s,[])
        |false=>none
    |_=>none
  | .ops id i R d s0 ops us k s=>match ops with
    |[]=>match d with
      |false=>some (.ex .normal k s,[])
      |true=>none
    |o::ops=>match ao6 id st.1&&ao6 (i+1) st.2 with
      |true=>none
      |false=>match IK P N R s o with
        |some (u,ob)=>some (.ap o u id i R d s0 ops us k s,ob)
        |none=>GN P N R s o (fun w rt=>.st w rt o id i R d s0 ops us k s) (fun G b w rt=>.sg G b w rt o id i R d s0 ops us k s)
  | .ap o u id i R d s0 ops us k s=>match s with
    |⟨sl,hp⟩=>match u with
      |⟨val,upd,rt,rd⟩=>match o.dst with
        |some t=>match upd with
          |[]=>some (.ops id (i+1) R d s0 ops (us++[⟨val,[],rt,rd⟩]) k ⟨(t,val)::sl,hp⟩,[])
          |p::q=>some (.ops id (i+1) R d s0 ops (us++[⟨val,p::q,rt,rd⟩]) k ⟨(t,val)::sl,p::(q++hp)⟩,[])
        |none=>some (.ops id (i+1) R d s0 ops (us++[⟨val,upd,rt,rd⟩]) k ⟨sl,upd++hp⟩,[])
  | .ex e k s=>match k with
    |[]=>none
    | .seq c::k=>match e with
      | .normal=>some (.code c k s,[])
      |e=>some (.ex e k s,[])
    | .blk id::k=>match e with
      | .exit id'=>match ao6 id' id with
        |true=>some (.ex .normal k s,[])
        |false=>some (.ex (.exit id') k s,[])
      |e=>some (.ex e k s,[])
    | .lp _::k=>match e with
      | .normal=>none
      |e=>some (.ex e k s,[])
  | .st .. => none
  | .sg .. => none
def run(P:atq)[Inhabited (Tys P)](N:Nat)(st:Nat×Nat):Nat->Cf->List Prop->Option (Cf×List Prop)
  |0,c,ob=>some (c,ob)
  |n+1,c,ob=>match step P N st c with
    |none=>some (c,ob)
    |some (c',o)=>match o with
      |[]=>run P N st n c' ob
      |p::o=>run P N st n c' (p::(o++ob))
theorem MQ{st:Nat×Nat}{c c':Cf}{ob:List Prop}(h:step P N st c=some (c',ob))(ho:AllP ob)(hg:Gd P N Q c'):Gd P N Q c:=by
 unfold step at h;split at h
 ·split at h
  ·split at h
   ·cases h
   ·cases h;exact PK hg
  ·split at h
   ·cases h
   ·cases h;exact Md hg
  ·split at h
   ·cases h
   ·cases h;exact MH hg
  ·cases h;exact VO hg
  ·cases h;exact akv hg
  ·split at h
   ·cases h
   ·split at h
    ·rename_i cE;cases h;exact Kt (In cE) (fun _=>(default:Tys P).mix) hg
    ·cases h
  ·cases h
 ·split at h
  ·split at h
   ·cases h;simpa[Gd,iZ]using hg
   ·cases h
  ·split at h
   ·cases h
   ·split at h
    ·rename_i h1;cases h;obtain⟨h2,h3⟩:=amr h1 ho;exact⟨_,h2,h3,hg⟩
    ·rcases Vy h ho with⟨w,rt,rfl,h2⟩ |⟨G,b,w,rt,rfl,h2⟩
     ·exact hg h2
     ·exact hg h2
 ·rename_i o u id i R d s0 ops us k s;obtain⟨sl,hp⟩:=s;obtain⟨val,upd,rt,rd⟩:=u;obtain⟨dst,op,ty,pos,after,guard⟩:=o;cases dst with
  |none=>cases h;exact hg
  |some t =>
   cases upd with
   |nil=>cases h;exact hg
   |cons p q=>cases h;exact hg
 ·rename_i e k s;cases k with
  |nil=>cases h
  |cons f k =>
   cases f with
   |seq c=>cases e <;> cases h <;> exact hg
   |blk id =>
    cases e with
    |exit id' =>
     show dG P N Q (.blk id::k) (.exit id') s;simp only[dG];simp only at h;split at h
     ·cases h;exact hg
     ·cases h;exact hg
    |_=>cases h;exact hg
   |lp K=>cases e <;> cases h <;> exact hg
 ·cases h
 ·cases h
theorem cO{st:Nat×Nat}:∀{n:Nat}{c c':Cf}{ob ob':List Prop},run P N st n c ob=some (c',ob')->AllP ob'->Gd P N Q c'->Gd P N Q c/\AllP ob
 |0,c,c',ob,ob',h,ho,hg=>by cases h;exact⟨hg,ho⟩
 |n+1,c,c',ob,ob',h,ho,hg=>by
  unfold run at h;split at h
  ·cases h;exact⟨hg,ho⟩
  ·rename_i c2 o h1;split at h
   ·obtain⟨h2,h3⟩:=cO h ho hg;exact⟨MQ h1 .nil h2,h3⟩
   ·rename_i p o;obtain⟨h2,h3⟩:=cO h ho hg;cases h3 with |cons h4 h5=>exact⟨MQ h1 (.cons h4 h5.app.1) h2,h5.app.2⟩
end Go.Lw
namespace Go.Lw
variable{P:atq}{N:Nat}{Q:Exit->AS->Prop}
theorem a6{a b:bN}(h:SlW a b:=by repeat(first |exact SlW.nil |refine SlW.k ?_)):SlW a b:=h
theorem Wk.o {s : AS} {sl : bN} {hp : Hp} (h1 : SlW s.sl sl := by exact a6)
  (h2:HpW s.hp hp:=by repeat(first |exact HpW.nil |refine HpW.cons rfl (.refl _) ?_)):Wk s ⟨sl,hp⟩:=Wk.of h1 h2
def oY:Nat->List Fr->Option (List Fr×Code×List Fr)
  |0,.seq y::k=>some ([],y,k)
  |n+1,f::k=>match oY n k with
    |some (a,y,b)=>some (f::a,y,b)
    |none=>none
  |_,_=>none
theorem x3:∀{n:Nat}{k k1 k2:List Fr}{y:Code},oY n k=some (k1,y,k2)->k=k1 ++ .seq y::k2
 |0,[],_,_,_,h=>by simp[oY]at h
 |0,f::k,k1,k2,y,h=>by cases f <;> simp[oY]at h;obtain⟨rfl,rfl,rfl⟩:=h;rfl
 |n+1,[],_,_,_,h=>by simp[oY]at h
 |n+1,f::k,k1,k2,y,h=>by
  simp only[oY]at h;split at h
  ·rename_i h1;cases h;rw[x3 h1];rfl
  ·cases h
theorem oU{k2:List Fr}{y:Code}{K:AS->Prop}(hK:∀s,K s->bC P N y (dG P N Q k2) s) :
  ∀(k1:List Fr)(e:Exit)(s:AS),dG P N Q (k1 ++ .lp K::k2) e s->dG P N Q (k1 ++ .seq y::k2) e s
 |[],e,s,h=>by cases e <;> first |exact hK s h |exact h
 | .seq c::k1,e,s,h=>by
  cases e with
  |normal=>exact jO (h:bC P N c _ s) (fun e s=>oU hK k1 e s)
  |_=>exact oU hK k1 _ s h
 | .blk id::k1,e,s,h=>by
  cases e with
  |exit id' =>
   simp only[cons_append,dG]at h ⊢;split at h
   ·exact oU hK k1 _ s h
   ·exact oU hK k1 _ s h
  |_=>exact oU hK k1 _ s h
 | .lp K'::k1,e,s,h=>by
  cases e with
  |normal=>exact h
  |_=>exact oU hK k1 _ s h
def wz:Nat->List AV->Option bN
  |_,[]=>some []
  |n,x::xs=>match wz (n+1) xs with
    |some l=>some ((n,some x)::l)
    |none=>none
theorem CC:∀{xs:List AV}{n:Nat}{l:bN},wz n xs=some l->l=pS n xs
 |[],n,l,h=>by cases h;rfl
 |x::xs,n,l,h=>by
  unfold wz at h;split at h
  ·rename_i h1;cases h;rw[CC h1];rfl
  ·cases h
def pk{α:Type}(l:List (Nat×Option α)):List Nat->Option (List (Nat×Option α))
  |[]=>some []
  |t::ts=>match lk l t with
    |some x=>match pk l ts with
      |some r=>some ((t,some x)::r)
      |none=>none
    |none=>none
theorem Nf{sl:bN}:∀{ts:List Nat}{r:bN},pk sl ts=some r->SlW sl r
 |[],r,h=>by cases h;exact .nil
 |t::ts,r,h=>by
  unfold pk at h;split at h
  ·rename_i h1;split at h
   ·rename_i h2;cases h;exact .cons h1 (.refl _) (Nf h2)
   ·cases h
  ·cases h
theorem Ou{hp:Hp}:∀{ts:List Nat}{r:Hp},pk hp ts=some r->HpW hp r
 |[],r,h=>by cases h;exact .nil
 |t::ts,r,h=>by
  unfold pk at h;split at h
  ·rename_i h1;split at h
   ·rename_i h2;cases h;exact .cons h1 (.refl _) (Ou h2)
   ·cases h
  ·cases h
theorem SlW.ap{sl a b:bN}(h:SlW sl a)(h':SlW sl b):SlW sl (a++b):=by
 induction h with
 |nil=>exact h'
 |cons h1 h2 _ ih=>exact .cons h1 h2 ih
theorem HpW.ap{sl a b:Hp}(h:HpW sl a)(h':HpW sl b):HpW sl (a++b):=by
 induction h with
 |nil=>exact h'
 |cons h1 h2 _ ih=>exact .cons h1 h2 ih
theorem Wk.p{s:AS}{a b:bN}{c d:Hp}{ks kh:List Nat}(h1:SlW s.sl a)(h2:HpW s.hp c)(hs:pk s.sl ks=some b)(hh:pk s.hp kh=some d):Wk s ⟨a++b,c++d⟩ :=
 Wk.of (h1.ap (Nf hs)) (h2.ap (Ou hh))
def ya:Exit->Bool
  | .normal | .ret=>true
  |_=>false
theorem ko{s:AS}{x:Option AV}{rt rd:List Nat}:k9 s ⟨x,[],rt,rd⟩:=fun _ hk=>by simp at hk
theorem yj{c:Code}{k:List Fr}{s:AS}{α:Type}{f:α->AV}{l:List α}{t sz:Nat}(ht:s.get t=some (.lst sz (l.map f)))(h:l.length<=aF->Gd P N Q (.code c k s)):Gd P N Q (.code c k s):=af8 ht h
theorem k8{S:AS}{F:Prop}{K:AS->Prop}{k:List Fr}{s:AS}(hK:∀(s1:AS),F->Wk s1 S->K s1)(hF:F)(hw:Wk s S:=by exact Wk.o):Gd P N Q (.ex .normal (.lp K::k) s):=hK s hF hw
theorem aM{P':Type}{S:P'->AS}{F:P'->Prop}{M:P'->Nat}{m0:Nat}{K:AS->Prop}{k:List Fr}{s:AS}(hK:∀(s1:AS),∀(p2:P'),F p2->M p2<m0->Wk s1 (S p2)->K s1)(p0:P')(hF:F p0)
  (hl:M p0<m0:=by first |omega |(dsimp only;omega)) (hw:Wk s (S p0):=by exact Wk.o):Gd P N Q (.ex .normal (.lp K::k) s):=hK s p0 hF hl hw
theorem vZ{P':Type}{S:P'->AS}{F:P'->Prop}{K:AS->Prop}{k:List Fr}{s:AS}(hK:∀(s1:AS),∀(p:P'),F p->Wk s1 (S p)->K s1)(p0:P')(hF:F p0)(hw:Wk s (S p0):=by exact Wk.o):Gd P N Q (.ex .normal (.lp K::k) s):=hK s p0 hF hw
theorem f7{P' Q':Type}{S:P'->Q'->AS}{F:P'->Q'->Prop}{M:P'->Q'->Nat}{m0:Nat}{K:AS->Prop}{k:List Fr}{s:AS}(hK:∀(s1:AS),∀(p2:P')(q2:Q'),F p2 q2->M p2 q2<m0->Wk s1 (S p2 q2)->K s1)(p0:P')(q0:Q')(hF:F p0 q0)
  (hl:M p0 q0<m0:=by first |omega |(dsimp only;omega)) (hw:Wk s (S p0 q0):=by exact Wk.o):Gd P N Q (.ex .normal (.lp K::k) s):=hK s p0 q0 hF hl hw
theorem B4{P' Q':Type}{S:P'->Q'->AS}{F:P'->Q'->Prop}{K:AS->Prop}{k:List Fr}{s:AS}(hK:∀(s1:AS),∀(p:P')(q:Q'),F p q->Wk s1 (S p q)->K s1)(p0:P')(q0:Q')(hF:F p0 q0)(hw:Wk s (S p0 q0):=by exact Wk.o):Gd P N Q (.ex .normal (.lp K::k) s):=hK s p0 q0 hF hw
theorem js{P' Q' R':Type}{S:P'->Q'->R'->AS}{F:P'->Q'->R'->Prop}{M:P'->Q'->R'->Nat}{m0:Nat}{K:AS->Prop}{k:List Fr}{s:AS}(hK:∀(s1:AS),∀(p2:P')(q2:Q')(r2:R'),F p2 q2 r2->M p2 q2 r2<m0->Wk s1 (S p2 q2 r2)->K s1)(p0:P')(q0:Q')(r0:R')(hF:F p0 q0 r0)
  (hl:M p0 q0 r0<m0:=by first |omega |(dsimp only;omega)) (hw:Wk s (S p0 q0 r0):=by exact Wk.o):Gd P N Q (.ex .normal (.lp K::k) s):=hK s p0 q0 r0 hF hl hw
theorem L9{P' Q' R' T':Type}{S:P'->Q'->R'->T'->AS}{F:P'->Q'->R'->T'->Prop}{M:P'->Q'->R'->T'->Nat}{m0:Nat}{K:AS->Prop}{k:List Fr}{s:AS}(hK:∀(s1:AS),∀(p2:P')(q2:Q')(r2:R')(t2:T'),F p2 q2 r2 t2->M p2 q2 r2 t2<m0->Wk s1 (S p2 q2 r2 t2)->K s1)(p0:P')(q0:Q')(r0:R')(t0:T')(hF:F p0 q0 r0 t0)
  (hl:M p0 q0 r0 t0<m0:=by first |omega |(dsimp only;omega)) (hw:Wk s (S p0 q0 r0 t0):=by exact Wk.o):Gd P N Q (.ex .normal (.lp K::k) s):=hK s p0 q0 r0 t0 hF hl hw
theorem QG{P' Q' R' T':Type}{S:P'->Q'->R'->T'->AS}{F:P'->Q'->R'->T'->Prop}{K:AS->Prop}{k:List Fr}{s:AS}(hK:∀(s1:AS),∀(p:P')(q:Q')(r:R')(t:T'),F p q r t->Wk s1 (S p q r t)->K s1)(p0:P')(q0:Q')(r0:R')(t0:T')(hF:F p0 q0 r0 t0)(hw:Wk s (S p0 q0 r0 t0):=by exact Wk.o):Gd P N Q (.ex .normal (.lp K::k) s):=hK s p0 q0 r0 t0 hF hw
theorem OG{P' Q' R' T' U':Type}{S:P'->Q'->R'->T'->U'->AS}{F:P'->Q'->R'->T'->U'->Prop}{M:P'->Q'->R'->T'->U'->Nat}{m0:Nat}{K:AS->Prop}{k:List Fr}{s:AS}(hK:∀(s1:AS),∀(p2:P')(q2:Q')(r2:R')(t2:T')(u2:U'),F p2 q2 r2 t2 u2->M p2 q2 r2 t2 u2<m0->Wk s1 (S p2 q2 r2 t2 u2)->K s1)(p0:P')(q0:Q')(r0:R')(t0:T')(u0:U')(hF:F p0 q0 r0 t0 u0)
  (hl:M p0 q0 r0 t0 u0<m0:=by first |omega |(dsimp only;omega)) (hw:Wk s (S p0 q0 r0 t0 u0):=by exact Wk.o):Gd P N Q (.ex .normal (.lp K::k) s):=hK s p0 q0 r0 t0 u0 hF hl hw
variable[Inhabited (Tys P)]
variable{s:AS}{k:List Fr}{ob:List Prop}{c':Cf}{us:List Out}{s0:AS}{id i:Nat}{R:List Oper}{sl:bN}{ops:List Oper}{o:Oper}{draw:Bool}{rt:List Nat}{hp:Hp}{u:Out}
def rI(P:atq)[Inhabited (Tys P)](s:AS):List ResultVar->Option (List AV)
  |[]=>some []
  |r::rs=>match rI P s rs with
    |some xs=>match r with
      | .tmp t=>match s.get t with
        |some x=>some (x::xs)
        |none=>none
      | .cell t T=>match s.get t with
        |some (.ptr k off)=>match s.blk k with
          |some (.box cs)=>match cF P T with
            |some ti=>match ao6 off 0&&Nat.ble ti.size cs.length with
              |true=>match ze ti cs with
                |some v=>some (v::xs)
                |none=>none
              |false=>none
            |none=>none
          |_=>none
        |_=>none
    |none=>none
theorem Hq{s:AS}:∀{rs:List ResultVar}{xs:List AV},rI P s rs=some xs->ResL P s rs xs
 |[],xs,h=>by cases h;exact .nil
 |r::rs,xs,h=>by
  unfold rI at h;split at h
  ·rename_i ys hy;have ih:=Hq hy;split at h
   ·split at h
    ·rename_i hx;cases h;exact .cons (.tmp hx) ih
    ·cases h
   ·split at h
    ·rename_i hx;split at h
     ·rename_i hk;split at h
      ·rename_i ti bZ;split at h
       ·rename_i hc;simp only[ar5]at hc;have:=ar4 hc.1;subst this;split at h
        ·rename_i v hv;cases h;obtain⟨h2,rfl⟩:=IH hv;exact .cons (.cell hx hk (bW bZ) hc.2 h2) ih
        ·cases h
       ·cases h
      ·cases h
     ·cases h
    ·cases h
  ·cases h
theorem gR {rs : List ResultVar} {xs : List AV} {r : AV} {H' : Hp} {e : Exit} (h : aD s (d7 xs) r H') (hx : rI P s rs = some xs := by exact rfl) (he : ya e = true := by exact rfl) :
  Gd P N (ql P rs r H') (.ex e [] s):=by
 cases e <;> first |exact⟨xs,Hq hx,h⟩ |cases he
theorem ah {rs : List ResultVar} {x r : AV} {e : Exit} (h : x = r) (hx : rI P s rs = some [x] := by exact rfl) (he : ya e = true := by exact rfl) :
  Gd P N (ql P rs r []) (.ex e [] s):=gR (Nu h) hx he
theorem bu {rs : List ResultVar} {x y r : AV} {e : Exit} (h : .tup [x, y] = r) (hx : rI P s rs = some [x, y] := by exact rfl) (he : ya e = true := by exact rfl) :
  Gd P N (ql P rs r []) (.ex e [] s):=gR (pO h) hx he
theorem oc {rs : List ResultVar} {x y z r : AV} {e : Exit} (h : .tup [x, y, z] = r) (hx : rI P s rs = some [x, y, z] := by exact rfl) (he : ya e = true := by exact rfl) :
  Gd P N (ql P rs r []) (.ex e [] s):=gR (zH h) hx he
theorem c9{ob:List Prop}(h:AllP ob:=by repeat(first |exact AllP.nil |refine AllP.cons (by first |(intro h;(try simp only[pG]at h);simp only[h,beq_self_eq_true,Bool.and_self];done) |exact Xk _ |exact .inl rfl |exact .inr ⟨_,_,rfl⟩ |(intro h;simp_all;done)) ?_)):AllP ob:=h
theorem go{c c':Cf}(h:Gd P N Q c')(st:Nat×Nat:=(99999,0))(hr:run P N st 999 c []=some (c',ob):=by exact rfl)(ho:AllP ob:=by exact c9):Gd P N Q c:=(cO hr ho h).1
theorem gW{c:Code}{s s':AS}(hw:Wk s s')(h:Gd P N Q c')(st:Nat×Nat:=(99999,0))(hr:run P N st 999 (.code c k s') []=some (c',ob):=by exact rfl)(ho:AllP ob:=by exact c9):Gd P N Q (.code c k s):=tc hw (cO hr ho h).1
theorem gC{c:atn}{x y:Code}{b:Bool}{c1 c2:Cf}{ob1 ob2:List Prop}(ht:b=true->Gd P N Q c1)(hf:b=false->Gd P N Q c2)(st1:Nat×Nat:=(99999,0))(st2:Nat×Nat:=(99999,0))
  (hc:Ev s c (.v (.bool b)):=by first |exact .tmp rfl |exact .const _) (a8:run P N st1 999 (.code x k s) []=some (c1,ob1):=by exact rfl) (iO:AllP ob1:=by exact c9) (fy:run P N st2 999 (.code y k s) []=some (c2,ob2):=by exact rfl) (jH:AllP ob2:=by exact c9) :
  Gd P N Q (.code (.cond c x y) k s):=BZ hc (fun h=>(cO a8 iO (ht h)).1) (fun h=>(cO fy jH (hf h)).1)
theorem gf {c : atn} {x y : Code} {b : Bool} {c2 : Cf} {ob2 : List Prop} (hf : Gd P N Q c2) (st2 : Nat × Nat := (99999, 0)) (hc : Ev s c (.v (.bool b)) := by first | exact .tmp rfl | exact .const _) (hb : b = false := by rfl) (fy : run P N st2 999 (.code y k s) [] = some (c2, ob2) := by exact rfl) (jH : AllP ob2 := by exact c9) :
  Gd P N Q (.code (.cond c x y) k s):=BZ hc (fun h=>Bool.noConfusion (hb.symm.trans h)) (fun _=>(cO fy jH hf).1)
theorem gs (hs : Step P N R.toArray s o u) (h : Gd P N Q c') (st : Nat × Nat := (99999, 0)) (hn : k9 s u := by first | exact yF rfl | exact ko) (hr : run P N st 999 (.ap o u id i R draw s0 ops us k s) [] = some (c', ob) := by exact rfl) (ho : AllP ob := by exact c9) :
  Gd P N Q (.ops id i R draw s0 (o::ops) us k s):=⟨u,hs,hn,(cO hr ho h).1⟩
theorem gt {w : Want} (hs : Step P N R.toArray s o u) (h : Gd P N Q c') (st : Nat × Nat := (99999, 0)) (hn : k9 s u := by first | exact yF rfl | exact ko) (hr : run P N st 999 (.ap o u id i R draw s0 ops us k s) [] = some (c', ob) := by exact rfl) (ho : AllP ob := by exact c9) :
  Gd P N Q (.st w rt o id i R draw s0 ops us k s):=fun _=>⟨u,hs,hn,(cO hr ho h).1⟩
theorem gu {G : Prop} {b : Bool} {w : Want} (hs : Step P N R.toArray s o u) (h : Gd P N Q c') (st : Nat × Nat := (99999, 0)) (hn : k9 s u := by first | exact yF rfl | exact ko) (hr : run P N st 999 (.ap o u id i R draw s0 ops us k s) [] = some (c', ob) := by exact rfl) (ho : AllP ob := by exact c9) :
  Gd P N Q (.sg G b w rt o id i R draw s0 ops us k s):=fun _=>⟨u,hs,hn,(cO hr ho h).1⟩
theorem ga {op : BinOp} {K : IntKind} {a b n : Int} (he : K.wrap (gw op a b) = n) (h : Gd P N Q c') (st : Nat × Nat := (99999, 0)) (hr : run P N st 999 (.ap o ⟨some (.v (.int K n)), [], rt, []⟩ id i R draw s0 ops us k s) [] = some (c', ob) := by exact rfl) (ho : AllP ob := by exact c9) :
  Gd P N Q (.st (.ar op K a b) rt o id i R draw s0 ops us k s):=fun cR=>⟨⟨some (.v (.int K n)),[],rt,[]⟩,cR _ (⟨_,he,rfl⟩),ko,(cO hr ho h).1⟩
theorem kG {op : BinOp} {K : IntKind} {a b n : Int} {G : Prop} {b0 : Bool} (he : G -> K.wrap (gw op a b) = n) (h : Gd P N Q c') (st : Nat × Nat := (99999, 0)) (hr : run P N st 999 (.ap o ⟨some (.opt b0 (.v (.int K n))), [], rt, []⟩ id i R draw s0 ops us k s) [] = some (c', ob) := by exact rfl) (ho : AllP ob := by exact c9) :
  Gd P N Q (.sg G b0 (.ar op K a b) rt o id i R draw s0 ops us k s):=fun cR=>⟨⟨some (.opt b0 (.v (.int K n))),[],rt,[]⟩,cR _ (fun hG=>⟨_,(he hG),rfl⟩),ko,(cO hr ho h).1⟩
theorem gv {K : IntKind} {n m : Int} (he : K.wrap n = m) (h : Gd P N Q c') (st : Nat × Nat := (99999, 0)) (hr : run P N st 999 (.ap o ⟨some (.v (.int K m)), [], rt, []⟩ id i R draw s0 ops us k s) [] = some (c', ob) := by exact rfl) (ho : AllP ob := by exact c9) :
  Gd P N Q (.st (.cv K n) rt o id i R draw s0 ops us k s):=fun cR=>⟨⟨some (.v (.int K m)),[],rt,[]⟩,cR _ (⟨_,he,rfl⟩),ko,(cO hr ho h).1⟩
theorem gvG {K : IntKind} {n m : Int} {G : Prop} {b0 : Bool} (he : G -> K.wrap n = m) (h : Gd P N Q c') (st : Nat × Nat := (99999, 0)) (hr : run P N st 999 (.ap o ⟨some (.opt b0 (.v (.int K m))), [], rt, []⟩ id i R draw s0 ops us k s) [] = some (c', ob) := by exact rfl) (ho : AllP ob := by exact c9) :
  Gd P N Q (.sg G b0 (.cv K n) rt o id i R draw s0 ops us k s):=fun cR=>⟨⟨some (.opt b0 (.v (.int K m))),[],rt,[]⟩,cR _ (fun hG=>⟨_,(he hG),rfl⟩),ko,(cO hr ho h).1⟩
theorem gl {α : Type} {f : α -> AV} {l : List α} {es : List AV} (h : Gd P N Q c') (st : Nat × Nat := (99999, 0)) (he : es = l.map f := by exact rfl) (hr : run P N st 999 (.ap o ⟨some (.v (.int .i64 (l.length : Nat))), [], rt, []⟩ id i R draw s0 ops us k s) [] = some (c', ob) := by exact rfl) (ho : AllP ob := by exact c9) :
  Gd P N Q (.st (.ln es) rt o id i R draw s0 ops us k s):=fun cR=>⟨⟨some (.v (.int .i64 (l.length:Nat))),[],rt,[]⟩,cR _ (⟨_,(by rw[he,ar3]),rfl⟩),ko,(cO hr ho h).1⟩
theorem cG {α : Type} {f : α -> AV} {l : List α} {es : List AV} {G : Prop} {b0 : Bool} (h : Gd P N Q c') (st : Nat × Nat := (99999, 0)) (he : G -> es = l.map f := by intro h; exact rfl) (hr : run P N st 999 (.ap o ⟨some (.opt b0 (.v (.int .i64 (l.length : Nat)))), [], rt, []⟩ id i R draw s0 ops us k s) [] = some (c', ob) := by exact rfl) (ho : AllP ob := by exact c9) :
  Gd P N Q (.sg G b0 (.ln es) rt o id i R draw s0 ops us k s):=fun cR=>⟨⟨some (.opt b0 (.v (.int .i64 (l.length:Nat)))),[],rt,[]⟩,cR _ (fun hG=>⟨_,(by rw[(he hG),ar3]),rfl⟩),ko,(cO hr ho h).1⟩
theorem ge {n : Nat} {es : List AV} (he : es.length = n) (h : Gd P N Q c') (st : Nat × Nat := (99999, 0)) (hr : run P N st 999 (.ap o ⟨some (.v (.int .i64 n)), [], rt, []⟩ id i R draw s0 ops us k s) [] = some (c', ob) := by exact rfl) (ho : AllP ob := by exact c9) :
  Gd P N Q (.st (.ln es) rt o id i R draw s0 ops us k s):=fun cR=>⟨⟨some (.v (.int .i64 n)),[],rt,[]⟩,cR _ (⟨_,he,rfl⟩),ko,(cO hr ho h).1⟩
theorem geG {n : Nat} {es : List AV} {G : Prop} {b0 : Bool} (he : G -> es.length = n) (h : Gd P N Q c') (st : Nat × Nat := (99999, 0)) (hr : run P N st 999 (.ap o ⟨some (.opt b0 (.v (.int .i64 n))), [], rt, []⟩ id i R draw s0 ops us k s) [] = some (c', ob) := by exact rfl) (ho : AllP ob := by exact c9) :
  Gd P N Q (.sg G b0 (.ln es) rt o id i R draw s0 ops us k s):=fun cR=>⟨⟨some (.opt b0 (.v (.int .i64 n))),[],rt,[]⟩,cR _ (fun hG=>⟨_,(he hG),rfl⟩),ko,(cO hr ho h).1⟩
theorem gi {es : List AV} {e : AV} {z : Int} (he : es[z.toNat]? = some e) (h : Gd P N Q c') (st : Nat × Nat := (99999, 0)) (h0 : 0 <= z := by omega) (hr : run P N st 999 (.ap o ⟨some (.iptr e.cells), [], rt, []⟩ id i R draw s0 ops us k s) [] = some (c', ob) := by exact rfl) (ho : AllP ob := by exact c9) :
  Gd P N Q (.st (.ix es z) rt o id i R draw s0 ops us k s):=fun cR=>⟨⟨some (.iptr e.cells),[],rt,[]⟩,cR _ (⟨h0,_,he,rfl⟩),ko,(cO hr ho h).1⟩
theorem nJ {es : List AV} {e : AV} {z : Int} {G : Prop} {b0 : Bool} (he : G -> es[z.toNat]? = some e) (h : Gd P N Q c') (st : Nat × Nat := (99999, 0)) (h0 : G -> 0 <= z := by intro h; omega) (hr : run P N st 999 (.ap o ⟨some (.opt b0 (.iptr e.cells)), [], rt, []⟩ id i R draw s0 ops us k s) [] = some (c', ob) := by exact rfl) (ho : AllP ob := by exact c9) :
  Gd P N Q (.sg G b0 (.ix es z) rt o id i R draw s0 ops us k s):=fun cR=>⟨⟨some (.opt b0 (.iptr e.cells)),[],rt,[]⟩,cR _ (fun hG=>⟨(h0 hG),_,(he hG),rfl⟩),ko,(cO hr ho h).1⟩
theorem gc {f : FuncId} {xs : List AV} {r : AV} (hc : kU P f xs r) (h : Gd P N Q c') (st : Nat × Nat := (99999, 0)) (hnm : r.nm = [] := by exact rfl) (hr : run P N st 999 (.ap o ⟨some (r), [], rt, []⟩ id i R draw s0 ops us k s) [] = some (c', ob) := by exact rfl) (ho : AllP ob := by exact c9) :
  Gd P N Q (.st (.cl f xs) rt o id i R draw s0 ops us k s):=fun cR=>⟨⟨some (r),[],rt,[]⟩,cR _ (⟨hc,hnm⟩),ko,(cO hr ho h).1⟩
theorem bV {f : FuncId} {xs : List AV} {r : AV} {G : Prop} {b0 : Bool} (hc : G -> kU P f xs r) (h : Gd P N Q c') (st : Nat × Nat := (99999, 0)) (hnm : G -> r.nm = [] := by intro h; exact rfl) (hr : run P N st 999 (.ap o ⟨some (.opt b0 (r)), [], rt, []⟩ id i R draw s0 ops us k s) [] = some (c', ob) := by exact rfl) (ho : AllP ob := by exact c9) :
  Gd P N Q (.sg G b0 (.cl f xs) rt o id i R draw s0 ops us k s):=fun cR=>⟨⟨some (.opt b0 (r)),[],rt,[]⟩,cR _ (fun hG=>⟨(hc hG),(hnm hG)⟩),ko,(cO hr ho h).1⟩
theorem gD (h : Gd P N Q c') (st : Nat × Nat := (99999, 0)) (hc : chk R us s0 = true := by kernel_rfl) (hr : run P N st 999 (.ex .normal k s) [] = some (c', ob) := by exact rfl) (ho : AllP ob := by exact c9) :
  Gd P N Q (.ops id i R true s0 [] us k s):=by
 simp only[Gd,iZ];exact⟨fun _=>hc,(cO hr ho h).1⟩
theorem gF{f:FuncId}{fn:Func}{c:Code}{args:List AV}{H:Hp}{r:AV}{H':Hp}(hf:P.funcs[f]?=some fn)(hH:∀k z,lk H k=some z->1000<=k)
  (h : Gd P fn.ntmps (ql P fn.results.toList r H') c') (st : Nat × Nat := (99999, 0)) (hb : fn.body = some c := by exact rfl) (hn : (fn.name == "runtime.NumGoroutine") = false := by exact rfl)
  (hs:wz 0 args=some sl:=by exact rfl) (hr:run P fn.ntmps st 999 (.code c [] ⟨sl,H⟩) []=some (c',ob):=by exact rfl) (ho:AllP ob:=by exact c9):Con P f args H r H':=Jp hf hb hn (by simp) rfl hH (CC hs▸(cO hr ho h).1)
theorem am{f:FuncId}{fn:Func}{c:Code}{args:List AV}{r:AV}(hf:P.funcs[f]?=some fn)
  (h : Gd P fn.ntmps (ql P fn.results.toList r []) c') (st : Nat × Nat := (99999, 0)) (hb : fn.body = some c := by exact rfl) (hn : (fn.name == "runtime.NumGoroutine") = false := by exact rfl)
  (hs:wz 0 args=some sl:=by exact rfl) (hr:run P fn.ntmps st 999 (.code c [] ⟨sl,[]⟩) []=some (c',ob):=by exact rfl) (ho:AllP ob:=by exact c9):kU P f args r:=alp hf hb hn (by simp) rfl (CC hs▸(cO hr ho h).1)
theorem gL0{c:Code}{C:(AS->Prop)->Cf}{ob:(AS->Prop)->List Prop}(ks kh:List Nat)(f:bN)(g:Hp)(F:Prop)(M:Nat)(hF:F)
  (h:F->∀K:AS->Prop,(∀(s1:AS),F->M<M->Wk s1 ⟨f++sl,g++hp⟩->K s1)->Gd P N Q (C K)) (st:Nat×Nat:=(99999,0)) (hs:pk s.sl ks=some sl:=by exact rfl) (hh:pk s.hp kh=some hp:=by exact rfl)
  (h1:SlW s.sl (f):=by exact a6) (h2:HpW s.hp (g):=by repeat(first |exact HpW.nil |refine HpW.cons rfl (.refl _) ?_)) (hr:∀K,run P N st 999 (.code c (.lp K::k) ⟨f++sl,g++hp⟩) []=some (C K,ob K):=by intros;exact rfl) (ho:∀K,AllP (ob K):=by intros;exact c9):Gd P N Q (.code (.loop c) k s):=by
 refine ue (fun n s =>  M=n/\F/\s=⟨f++sl,g++hp⟩) (Wk.p h1 h2 hs hh) ⟨rfl,hF,rfl⟩ ?_;rintro n s ⟨rfl,hF,rfl⟩ K hK;exact jO (cO (hr K) (ho K) (h hF K (fun s1 h1 h2 h3=>hK s1 _ _ h3 ⟨rfl,h1,rfl⟩ h2))).1 (fun e s he=>by cases e <;> exact he)
theorem v7{c y:Code}{k k1 k2:List Fr}{c1:(AS->Prop)->Cf}{ob1:(AS->Prop)->List Prop}{c2:Cf}{ob2:List Prop}(ks kh:List Nat)(f:bN)(g:Hp)(F:Prop)(h1:∀K:AS->Prop,(∀(s1:AS),F->Wk s1 ⟨f++sl,g++hp⟩->K s1)->Gd P N Q (c1 K))
  (h2:F->Gd P N Q (c2)) (n:Nat:=0) (st1:Nat×Nat:=(99999,0)) (st2:Nat×Nat:=(99999,0)) (hk:oY n k=some (k1,y,k2):=by exact rfl) (hs:pk s.sl ks=some sl:=by exact rfl) (hh:pk s.hp kh=some hp:=by exact rfl) (a8:∀K,run P N st1 999 (.code c (k1 ++ .lp K::k2) s) []=some (c1 K,ob1 K):=by intros;exact rfl) (iO:∀K,AllP (ob1 K):=by intros;exact c9) (fy:run P N st2 999 (.code y k2 ⟨f++sl,g++hp⟩) []=some (c2,ob2):=by intros;exact rfl) (jH:AllP (ob2):=by intros;exact c9):Gd P N Q (.code c k s):=by
 rw[x3 hk];exact jO (cO (a8 (fun s=>bC P N y (dG P N Q k2) s)) (iO _) (h1 (fun s=>bC P N y (dG P N Q k2) s) (fun s1 hF hw=>tc hw (cO (fy) (jH) (h2 hF)).1))).1 (fun e s=>oU (fun s h=>h) k1 e s)
theorem aP{P':Type}{c:Code}{C:P'->(AS->Prop)->Cf}{ob:P'->(AS->Prop)->List Prop}(ks kh:List Nat)(f:P'->bN)(g:P'->Hp)(F:P'->Prop)(M:P'->Nat)(p0:P')(hF:F p0)
  (h:∀(p:P'),F p->∀K:AS->Prop,(∀(s1:AS),∀(p2:P'),F p2->M p2<M p->Wk s1 ⟨f p2++sl,g p2++hp⟩->K s1)->Gd P N Q (C p K)) (st:Nat×Nat:=(99999,0)) (hs:pk s.sl ks=some sl:=by exact rfl) (hh:pk s.hp kh=some hp:=by exact rfl)
  (h1:SlW s.sl (f p0):=by exact a6) (h2:HpW s.hp (g p0):=by repeat(first |exact HpW.nil |refine HpW.cons rfl (.refl _) ?_)) (hr:∀(p:P'),∀K,run P N st 999 (.code c (.lp K::k) ⟨f p++sl,g p++hp⟩) []=some (C p K,ob p K):=by intros;exact rfl) (ho:∀(p:P'),∀K,AllP (ob p K):=by intros;exact c9):Gd P N Q (.code (.loop c) k s):=by
 refine ue (fun n s=>∃(p:P'),M p=n/\F p/\s=⟨f p++sl,g p++hp⟩) (Wk.p h1 h2 hs hh) ⟨p0,rfl,hF,rfl⟩ ?_;rintro n s ⟨p,rfl,hF,rfl⟩ K hK;exact jO (cO (hr p K) (ho p K) (h p hF K (fun s1 p2 h1 h2 h3=>hK s1 _ _ h3 ⟨p2,rfl,h1,rfl⟩ h2))).1 (fun e s he=>by cases e <;> exact he)
theorem Gc{P':Type}{c y:Code}{k k1 k2:List Fr}{c1:(AS->Prop)->Cf}{ob1:(AS->Prop)->List Prop}{c2:P'->Cf}{ob2:P'->List Prop}(ks kh:List Nat)(f:P'->bN)(g:P'->Hp)(F:P'->Prop)(h1:∀K:AS->Prop,(∀(s1:AS),∀(p:P'),F p->Wk s1 ⟨f p++sl,g p++hp⟩->K s1)->Gd P N Q (c1 K))
  (h2:∀(p:P'),F p->Gd P N Q (c2 p)) (n:Nat:=0) (st1:Nat×Nat:=(99999,0)) (st2:Nat×Nat:=(99999,0)) (hk:oY n k=some (k1,y,k2):=by exact rfl) (hs:pk s.sl ks=some sl:=by exact rfl) (hh:pk s.hp kh=some hp:=by exact rfl) (a8:∀K,run P N st1 999 (.code c (k1 ++ .lp K::k2) s) []=some (c1 K,ob1 K):=by intros;exact rfl) (iO:∀K,AllP (ob1 K):=by intros;exact c9) (fy:∀(p:P'),run P N st2 999 (.code y k2 ⟨f p++sl,g p++hp⟩) []=some (c2 p,ob2 p):=by intros;exact rfl) (jH:∀(p:P'),AllP (ob2 p):=by intros;exact c9):Gd P N Q (.code c k s):=by
 rw[x3 hk];exact jO (cO (a8 (fun s=>bC P N y (dG P N Q k2) s)) (iO _) (h1 (fun s=>bC P N y (dG P N Q k2) s) (fun s1 p hF hw=>tc hw (cO (fy p) (jH p) (h2 p hF)).1))).1 (fun e s=>oU (fun s h=>h) k1 e s)
theorem fT{P' Q':Type}{c:Code}{C:P'->Q'->(AS->Prop)->Cf}{ob:P'->Q'->(AS->Prop)->List Prop}(ks kh:List Nat)(f:P'->Q'->bN)(g:P'->Q'->Hp)(F:P'->Q'->Prop)(M:P'->Q'->Nat)(p0:P')(q0:Q')(hF:F p0 q0)
  (h:∀(p:P')(q:Q'),F p q->∀K:AS->Prop,(∀(s1:AS),∀(p2:P')(q2:Q'),F p2 q2->M p2 q2<M p q->Wk s1 ⟨f p2 q2++sl,g p2 q2++hp⟩->K s1)->Gd P N Q (C p q K)) (st:Nat×Nat:=(99999,0)) (hs:pk s.sl ks=some sl:=by exact rfl) (hh:pk s.hp kh=some hp:=by exact rfl)
  (h1:SlW s.sl (f p0 q0):=by exact a6) (h2:HpW s.hp (g p0 q0):=by repeat(first |exact HpW.nil |refine HpW.cons rfl (.refl _) ?_)) (hr:∀(p:P')(q:Q'),∀K,run P N st 999 (.code c (.lp K::k) ⟨f p q++sl,g p q++hp⟩) []=some (C p q K,ob p q K):=by intros;exact rfl) (ho:∀(p:P')(q:Q'),∀K,AllP (ob p q K):=by intros;exact c9):Gd P N Q (.code (.loop c) k s):=by
 refine ue (fun n s=>∃(p:P')(q:Q'),M p q=n/\F p q/\s=⟨f p q++sl,g p q++hp⟩) (Wk.p h1 h2 hs hh) ⟨p0,q0,rfl,hF,rfl⟩ ?_;rintro n s ⟨p,q,rfl,hF,rfl⟩ K hK;exact jO (cO (hr p q K) (ho p q K) (h p q hF K (fun s1 p2 q2 h1 h2 h3=>hK s1 _ _ h3 ⟨p2,q2,rfl,h1,rfl⟩ h2))).1 (fun e s he=>by cases e <;> exact he)
theorem PF{P' Q':Type}{c y:Code}{k k1 k2:List Fr}{c1:(AS->Prop)->Cf}{ob1:(AS->Prop)->List Prop}{c2:P'->Q'->Cf}{ob2:P'->Q'->List Prop}(ks kh:List Nat)(f:P'->Q'->bN)(g:P'->Q'->Hp)(F:P'->Q'->Prop)(h1:∀K:AS->Prop,(∀(s1:AS),∀(p:P')(q:Q'),F p q->Wk s1 ⟨f p q++sl,g p q++hp⟩->K s1)->Gd P N Q (c1 K))
  (h2:∀(p:P')(q:Q'),F p q->Gd P N Q (c2 p q)) (n:Nat:=0) (st1:Nat×Nat:=(99999,0)) (st2:Nat×Nat:=(99999,0)) (hk:oY n k=some (k1,y,k2):=by exact rfl) (hs:pk s.sl ks=some sl:=by exact rfl) (hh:pk s.hp kh=some hp:=by exact rfl) (a8:∀K,run P N st1 999 (.code c (k1 ++ .lp K::k2) s) []=some (c1 K,ob1 K):=by intros;exact rfl) (iO:∀K,AllP (ob1 K):=by intros;exact c9) (fy:∀(p:P')(q:Q'),run P N st2 999 (.code y k2 ⟨f p q++sl,g p q++hp⟩) []=some (c2 p q,ob2 p q):=by intros;exact rfl) (jH:∀(p:P')(q:Q'),AllP (ob2 p q):=by intros;exact c9):Gd P N Q (.code c k s):=by
 rw[x3 hk];exact jO (cO (a8 (fun s=>bC P N y (dG P N Q k2) s)) (iO _) (h1 (fun s=>bC P N y (dG P N Q k2) s) (fun s1 p q hF hw=>tc hw (cO (fy p q) (jH p q) (h2 p q hF)).1))).1 (fun e s=>oU (fun s h=>h) k1 e s)
theorem kq{P' Q' R':Type}{c:Code}{C:P'->Q'->R'->(AS->Prop)->Cf}{ob:P'->Q'->R'->(AS->Prop)->List Prop}(ks kh:List Nat)(f:P'->Q'->R'->bN)(g:P'->Q'->R'->Hp)(F:P'->Q'->R'->Prop)(M:P'->Q'->R'->Nat)(p0:P')(q0:Q')(r0:R')(hF:F p0 q0 r0)
  (h:∀(p:P')(q:Q')(r:R'),F p q r->∀K:AS->Prop,(∀(s1:AS),∀(p2:P')(q2:Q')(r2:R'),F p2 q2 r2->M p2 q2 r2<M p q r->Wk s1 ⟨f p2 q2 r2++sl,g p2 q2 r2++hp⟩->K s1)->Gd P N Q (C p q r K)) (st:Nat×Nat:=(99999,0)) (hs:pk s.sl ks=some sl:=by exact rfl) (hh:pk s.hp kh=some hp:=by exact rfl)
  (h1:SlW s.sl (f p0 q0 r0):=by exact a6) (h2:HpW s.hp (g p0 q0 r0):=by repeat(first |exact HpW.nil |refine HpW.cons rfl (.refl _) ?_)) (hr:∀(p:P')(q:Q')(r:R'),∀K,run P N st 999 (.code c (.lp K::k) ⟨f p q r++sl,g p q r++hp⟩) []=some (C p q r K,ob p q r K):=by intros;exact rfl) (ho:∀(p:P')(q:Q')(r:R'),∀K,AllP (ob p q r K):=by intros;exact c9):Gd P N Q (.code (.loop c) k s):=by
 refine ue (fun n s=>∃(p:P')(q:Q')(r:R'),M p q r=n/\F p q r/\s=⟨f p q r++sl,g p q r++hp⟩) (Wk.p h1 h2 hs hh) ⟨p0,q0,r0,rfl,hF,rfl⟩ ?_;rintro n s ⟨p,q,r,rfl,hF,rfl⟩ K hK;exact jO (cO (hr p q r K) (ho p q r K) (h p q r hF K (fun s1 p2 q2 r2 h1 h2 h3=>hK s1 _ _ h3 ⟨p2,q2,r2,rfl,h1,rfl⟩ h2))).1 (fun e s he=>by cases e <;> exact he)
theorem Yw{P' Q' R' T':Type}{c:Code}{C:P'->Q'->R'->T'->(AS->Prop)->Cf}{ob:P'->Q'->R'->T'->(AS->Prop)->List Prop}(ks kh:List Nat)(f:P'->Q'->R'->T'->bN)(g:P'->Q'->R'->T'->Hp)(F:P'->Q'->R'->T'->Prop)(M:P'->Q'->R'->T'->Nat)(p0:P')(q0:Q')(r0:R')(t0:T')(hF:F p0 q0 r0 t0)
  (h:∀(p:P')(q:Q')(r:R')(t:T'),F p q r t->∀K:AS->Prop,(∀(s1:AS),∀(p2:P')(q2:Q')(r2:R')(t2:T'),F p2 q2 r2 t2->M p2 q2 r2 t2<M p q r t->Wk s1 ⟨f p2 q2 r2 t2++sl,g p2 q2 r2 t2++hp⟩->K s1)->Gd P N Q (C p q r t K)) (st:Nat×Nat:=(99999,0)) (hs:pk s.sl ks=some sl:=by exact rfl) (hh:pk s.hp kh=some hp:=by exact rfl)
  (h1:SlW s.sl (f p0 q0 r0 t0):=by exact a6) (h2:HpW s.hp (g p0 q0 r0 t0):=by repeat(first |exact HpW.nil |refine HpW.cons rfl (.refl _) ?_)) (hr:∀(p:P')(q:Q')(r:R')(t:T'),∀K,run P N st 999 (.code c (.lp K::k) ⟨f p q r t++sl,g p q r t++hp⟩) []=some (C p q r t K,ob p q r t K):=by intros;exact rfl) (ho:∀(p:P')(q:Q')(r:R')(t:T'),∀K,AllP (ob p q r t K):=by intros;exact c9):Gd P N Q (.code (.loop c) k s):=by
 refine ue (fun n s=>∃(p:P')(q:Q')(r:R')(t:T'),M p q r t=n/\F p q r t/\s=⟨f p q r t++sl,g p q r t++hp⟩) (Wk.p h1 h2 hs hh) ⟨p0,q0,r0,t0,rfl,hF,rfl⟩ ?_;rintro n s ⟨p,q,r,t,rfl,hF,rfl⟩ K hK;exact jO (cO (hr p q r t K) (ho p q r t K) (h p q r t hF K (fun s1 p2 q2 r2 t2 h1 h2 h3=>hK s1 _ _ h3 ⟨p2,q2,r2,t2,rfl,h1,rfl⟩ h2))).1 (fun e s he=>by cases e <;> exact he)
theorem Yb{P' Q' R' T':Type}{c y:Code}{k k1 k2:List Fr}{c1:(AS->Prop)->Cf}{ob1:(AS->Prop)->List Prop}{c2:P'->Q'->R'->T'->Cf}{ob2:P'->Q'->R'->T'->List Prop}(ks kh:List Nat)(f:P'->Q'->R'->T'->bN)(g:P'->Q'->R'->T'->Hp)(F:P'->Q'->R'->T'->Prop)(h1:∀K:AS->Prop,(∀(s1:AS),∀(p:P')(q:Q')(r:R')(t:T'),F p q r t->Wk s1 ⟨f p q r t++sl,g p q r t++hp⟩->K s1)->Gd P N Q (c1 K))
  (h2:∀(p:P')(q:Q')(r:R')(t:T'),F p q r t->Gd P N Q (c2 p q r t)) (n:Nat:=0) (st1:Nat×Nat:=(99999,0)) (st2:Nat×Nat:=(99999,0)) (hk:oY n k=some (k1,y,k2):=by exact rfl) (hs:pk s.sl ks=some sl:=by exact rfl) (hh:pk s.hp kh=some hp:=by exact rfl) (a8:∀K,run P N st1 999 (.code c (k1 ++ .lp K::k2) s) []=some (c1 K,ob1 K):=by intros;exact rfl) (iO:∀K,AllP (ob1 K):=by intros;exact c9) (fy:∀(p:P')(q:Q')(r:R')(t:T'),run P N st2 999 (.code y k2 ⟨f p q r t++sl,g p q r t++hp⟩) []=some (c2 p q r t,ob2 p q r t):=by intros;exact rfl) (jH:∀(p:P')(q:Q')(r:R')(t:T'),AllP (ob2 p q r t):=by intros;exact c9):Gd P N Q (.code c k s):=by
 rw[x3 hk];exact jO (cO (a8 (fun s=>bC P N y (dG P N Q k2) s)) (iO _) (h1 (fun s=>bC P N y (dG P N Q k2) s) (fun s1 p q r t hF hw=>tc hw (cO (fy p q r t) (jH p q r t) (h2 p q r t hF)).1))).1 (fun e s=>oU (fun s h=>h) k1 e s)
theorem LT{P' Q' R' T' U':Type}{c:Code}{C:P'->Q'->R'->T'->U'->(AS->Prop)->Cf}{ob:P'->Q'->R'->T'->U'->(AS->Prop)->List Prop}(ks kh:List Nat)(f:P'->Q'->R'->T'->U'->bN)(g:P'->Q'->R'->T'->U'->Hp)(F:P'->Q'->R'->T'->U'->Prop)(M:P'->Q'->R'->T'->U'->Nat)(p0:P')(q0:Q')(r0:R')(t0:T')(u0:U')(hF:F p0 q0 r0 t0 u0)
  (h:∀(p:P')(q:Q')(r:R')(t:T')(u:U'),F p q r t u->∀K:AS->Prop,(∀(s1:AS),∀(p2:P')(q2:Q')(r2:R')(t2:T')(u2:U'),F p2 q2 r2 t2 u2->M p2 q2 r2 t2 u2<M p q r t u->Wk s1 ⟨f p2 q2 r2 t2 u2++sl,g p2 q2 r2 t2 u2++hp⟩->K s1)->Gd P N Q (C p q r t u K)) (st:Nat×Nat:=(99999,0)) (hs:pk s.sl ks=some sl:=by exact rfl) (hh:pk s.hp kh=some hp:=by exact rfl)
  (h1:SlW s.sl (f p0 q0 r0 t0 u0):=by exact a6) (h2:HpW s.hp (g p0 q0 r0 t0 u0):=by repeat(first |exact HpW.nil |refine HpW.cons rfl (.refl _) ?_)) (hr:∀(p:P')(q:Q')(r:R')(t:T')(u:U'),∀K,run P N st 999 (.code c (.lp K::k) ⟨f p q r t u++sl,g p q r t u++hp⟩) []=some (C p q r t u K,ob p q r t u K):=by intros;exact rfl) (ho:∀(p:P')(q:Q')(r:R')(t:T')(u:U'),∀K,AllP (ob p q r t u K):=by intros;exact c9):Gd P N Q (.code (.loop c) k s):=by
 refine ue (fun n s=>∃(p:P')(q:Q')(r:R')(t:T')(u:U'),M p q r t u=n/\F p q r t u/\s=⟨f p q r t u++sl,g p q r t u++hp⟩) (Wk.p h1 h2 hs hh) ⟨p0,q0,r0,t0,u0,rfl,hF,rfl⟩ ?_;rintro n s ⟨p,q,r,t,u,rfl,hF,rfl⟩ K hK;exact jO (cO (hr p q r t u K) (ho p q r t u K) (h p q r t u hF K (fun s1 p2 q2 r2 t2 u2 h1 h2 h3=>hK s1 _ _ h3 ⟨p2,q2,r2,t2,u2,rfl,h1,rfl⟩ h2))).1 (fun e s he=>by cases e <;> exact he)
end Go.Lw
namespace Go.Lw
open Go.Proofs
instance:Inhabited (Tys prog):=⟨⟨_,(.nd (.nd (.nd (.nd (.nd (.nd (.nd .lf T2 .lf) T3 .lf) T4 (.nd .lf T5 .lf)) T9 (.nd (.nd .lf T22 .lf) T23 (.nd .lf T24 .lf))) T26 (.nd (.nd (.nd .lf T29 .lf) T30 (.nd .lf T32 .lf)) T40 (.nd (.nd .lf T41 .lf) T42 (.nd .lf T44 .lf)))) T46 (.nd (.nd (.nd (.nd .lf T53 .lf) T56 (.nd .lf T57 .lf)) T59 (.nd (.nd .lf T61 .lf) T62 (.nd .lf T66 .lf))) T67 (.nd (.nd (.nd .lf T71 .lf) T73 (.nd .lf T81 .lf)) T83 (.nd (.nd .lf T85 .lf) T87 (.nd .lf T91 .lf))))) T92 (.nd (.nd (.nd (.nd (.nd (.nd .lf T94 .lf) T102 .lf) T104 (.nd .lf T107 .lf)) T116 (.nd (.nd .lf T121 .lf) T126 (.nd .lf T133 .lf))) T138 (.nd (.nd (.nd .lf T141 .lf) T143 (.nd .lf T145 .lf)) T151 (.nd (.nd .lf T161 .lf) T177 (.nd .lf T179 .lf)))) T184 (.nd (.nd (.nd (.nd .lf T194 .lf) T220 (.nd .lf T222 .lf)) T235 (.nd (.nd .lf T237 .lf) T250 (.nd .lf T260 .lf))) T286 (.nd (.nd (.nd .lf T316 .lf) T323 (.nd .lf T327 .lf)) T336 (.nd (.nd .lf T372 .lf) T382 (.nd .lf T413 .lf)))))),Wj⟩⟩
section
variable{P:atq}{W:atr}{H:Type}{enc:atp×ato->H}
abbrev Pg:Nat->Prop:=fun _=>False
abbrev Gw(W:atr):Nat->Array ato->Prop:=Im Pg [] dO W
abbrev rf(W:atr)(cs:List ato)(xs:List AV):Prop:=dY (Gw W) (Sz W) dO cs xs
theorem aie{b:Nat}{c:Array ato}{t:atp}{fr:Nat×Nat}(h:W.heap[b]?=some (.cells c t fr)):Gw W b c :=
 ⟨fun h=>h,fun⟨k,x,h,_⟩=>by(cases h),t,fr,h⟩
def eS(P:atq)(W:atr)(enc:atp×ato->H)(t:atp){α:Type}(f:α->AV)(p:α->Prop):Prop :=
  ∀(sp:Nat->Bool)(fuel:Nat)(cs:List ato)(x:DataW H×List MemPlace),DataW.trod enc P W 0 sp true fuel t cs=some x->(∀n∈x.1.weights P t,n<=reachBytes)->∃a,p a/\rf W cs (f a).cells
theorem yG{v:ato}{x:AV}(h:Rep (Gw W) (Sz W) dO v x)(h1:x.one=true):rf W [v] [x]:=by
 refine⟨rfl,fun j y hy=>?_,fun j u y hu hy=>?_⟩
 ·match j,hy with
  |0,hy=>cases hy;exact h1
 ·match j,hu,hy with
  |0,hu,hy=>cases hu;cases hy;exact h
theorem Z3{t:atp}(ht:P.underlying t=some .bool):eS P W enc t (fun b:Bool=>AV.v (.bool b)) (fun _=>True):=by
 intro sp fuel cs x h d5;obtain⟨b,rfl,_⟩:=DataW.trod_bool ht h;exact⟨b,trivial,yG (.v _) rfl⟩
theorem SF{t:atp}{k:IntKind}(ht:P.underlying t=some (.int k)):eS P W enc t (fun n:Int=>AV.v (.int k n)) (fun n=>(Lit.int k n).wf=true):=by
 intro sp fuel cs x h d5;obtain⟨n,rfl,_,hw⟩:=DataW.trod_int ht h;exact⟨n,hw,yG (.v _) rfl⟩
theorem W7{t:atp}(ht:P.underlying t=some .string):eS P W enc t (fun s:ByteArray=>AV.v (.string s)) (fun s=>s.size<=281474976710656):=by
 intro sp fuel cs x h d5;obtain⟨s,rfl,hx,hs⟩:=DataW.trod_string ht h;have h1:=d5 s.data.toList.length (by rw[hx];simp[DataW.weights]);have h2:s.data.toList.length=s.size:=rfl;exact⟨s,by rw[h2]at h1;exact asv h1 (by decide),yG (.v _) rfl⟩
theorem eS.map{α β:Type}{t:atp}{f:α->AV}{p:α->Prop}(h:eS P W enc t f p)(g:α->β)(f':β->AV)(p':β->Prop)(hg:∀a,p a->p' (g a)/\f' (g a)=f a):eS P W enc t f' p':=by
 intro sp fuel cs x hx d5;obtain⟨a,ha,hc⟩:=h sp fuel cs x hx d5;obtain⟨h1,h2⟩:=hg a ha;exact⟨g a,h1,by rw[h2];exact hc⟩
theorem ail{cs:List ato}{off n m:Nat}{xs ys:List AV}(h1:rf W ((cs.drop off).take n) xs)(hx:xs.length=n)(h2:rf W ((cs.drop (off+n)).take m) ys) :
  rf W ((cs.drop off).take (n+m)) (xs++ys):=by
 have e:(cs.drop off).take (n+m)=(cs.drop off).take n++(cs.drop (off+n)).take m:=by
  rw[List.take_add,drop_drop]
 have hl:((cs.drop off).take n).length=n:=by rw[h1.1,hx]
 rw[e];refine⟨by simp only[asx,h1.1,h2.1],fun j y hy=>?_,fun j u y hu hy=>?_⟩
 ·rcases asb j xs.length with g |g
  ·rw[asq g]at hy;exact h1.2.1 j y hy
  ·rw[asm g]at hy;exact h2.2.1 _ y hy
 ·rcases asb j xs.length with g |g
  ·rw[asq g]at hy;rw[asq oz]at hu;exact h1.2.2 j u y hu hy
  ·rw[asm g]at hy;rw[asm oz,hl]at hu;exact h2.2.2 (j-n) u y hu (by rw[<- hx];exact hy)
inductive FlOk(P:atq)(W:atr)(enc:atp×ato->H):List Field->Nat->{α:Type}->(α->List AV)->(α->Prop)->Prop
  |nil (off:Nat):FlOk P W enc [] off (fun _:Unit=>[]) (fun _=>True)
  |cons {fl:Field} {fls:List Field} {off n:Nat} {α β:Type} {f:α->AV} {p:α->Prop} {g:β->List AV} {q:β->Prop} (ho:fl.offset=off) (hn:P.cellsOf fl.type=n) (hf:eS P W enc fl.type f p)
      (jZ:∀a,(f a).cells.length=n) (hs:FlOk P W enc fls (off+n) g q):FlOk P W enc (fl::fls) off (fun z:α×β=>(f z.1).cells++g z.2) (fun z=>p z.1/\q z.2)
theorem FlOk.rep{fls:List Field}{off:Nat}{α:Type}{g:α->List AV}{q:α->Prop}(h:FlOk P W enc fls off g q){cs:List ato}{sp:Nat->Bool}{fuel:Nat}
  (hr:∀fl∈fls,∃x,DataW.trod enc P W 0 sp true fuel fl.type ((cs.drop fl.offset).take (P.cellsOf fl.type))=some x/\∀n∈x.1.weights P fl.type,n<=reachBytes):∃a m,q a/\rf W ((cs.drop off).take m) (g a)/\m=(g a).length:=by
 induction h with
 |nil off=>exact⟨(),0,trivial,⟨by simp,fun j x hx=>by simp at hx,fun j u x hu hx=>by simp at hx⟩,rfl⟩
 | @cons fl fls off n α β f p g q ho hn hf jZ hs ih =>
  obtain⟨x,hx,hwx⟩:=hr fl (as2 ..);rw[ho,hn]at hx;obtain⟨a,ha,hc⟩:=hf _ _ _ _ hx hwx;obtain⟨b,m,hb,ma,hm⟩:=ih (fun fl' h'=>hr fl' (ass _ h'));exact⟨(a,b),n+m,⟨ha,hb⟩,ail hc (jZ a) ma,by simp only[asx,jZ a,hm]⟩
theorem XI{t:atp}{fs:Array Field}{α:Type}{g:α->List AV}{q:α->Prop}(ht:P.underlying t=some (.struct fs))(hf:FlOk P W enc fs.toList 0 g q)(hn:∀a,(g a).length=P.cellsOf t) :
  eS P W enc t (fun a=>.agg (g a)) q:=by
 intro sp fuel cs x h d5;obtain⟨xs,n,rfl,xc,hl,mZ,oi⟩:=DataW.trod_struct ht h
 obtain⟨a,m,ha,hc,hm⟩:=hf.rep (cs:=cs) (sp:=sp) (fuel:=n) (fun fl Ae=>by
  obtain⟨i,hi⟩:=List.getElem?_of_mem Ae;have hi':fs[i]?=some fl:=by simpa using hi
  have h1:=oi i fl hi';have h2:i<xs.length:=by rw[mZ];exact(Array.getElem?_eq_some_iff.1 hi').1
  refine⟨xs[i],by rw[h1,ar7 h2],fun k hk=>d5 k ?_⟩;rw[xc];simp only[DataW.weights,ht];exact DataW.weights_mem_each (j:=i) (by simpa using⟨fl,hi',rfl⟩) (by rw[asa,ar7 h2];rfl) k hk)
 refine⟨a,ha,?_⟩;rw[hm,hn a,<- hl,as8,asK]at hc;exact hc
theorem tQ{t:atp}{n:Nat}{fs:Array Field}{α:Type}{g:α->List AV}{q:α->Prop}(ht:P.underlying t=some (.struct fs))(hc:P.cellsOf t=n)(hf:FlOk P W enc fs.toList 0 g q)(hn:∀a,(g a).length=n) :
  eS P W enc t (fun a=>.agg (g a)) q:=XI ht hf (fun a=>(hn a).trans hc.symm)
theorem QA{α:Type}{q:Nat->α->Prop}:∀(n:Nat),(∀i,i<n->∃a,q i a)->∃l:List α,l.length=n/\∀i a,l[i]?=some a->q i a
 |0,_=>⟨[],rfl,fun i a h=>by simp at h⟩
 |n+1,h=>by
  obtain⟨l,h1,h2⟩:=QA n (fun i hi=>h i oz);obtain⟨a,ha⟩:=h n oz;refine⟨l++[a],by simp[h1],fun i b hb=>?_⟩;rcases asb i l.length with g |g
  ·rw[asq g]at hb;exact h2 i b hb
  ·rw[asm g]at hb
   have hi:i-l.length=0:=by
    rcases aov (i-l.length)with g |g
    ·exact g
    ·rw[asg (by simp only[asi,asu];omega)]at hb;cases hb
   rw[hi]at hb;cases hb;have:i=n:=by omega
   rw[this];exact ha
theorem akf{a:Addr}{v:ato}(h:W.cell? a=some v):∃b off,a=⟨b,off,none⟩:=by
 obtain⟨b,off,s⟩:=a;unfold World.cell? at h;split at h
 ·cases s with
  |none=>exact⟨b,off,rfl⟩
  |some s=>simp at h
 ·cases h
theorem QZ{b off:Nat}{v:ato}(h:W.cell? ⟨b,off,none⟩=some v):∃c t fr,W.heap[b]?=some (.cells c t fr)/\c[off]?=some v:=by
 unfold World.cell? at h;split at h
 ·rename_i c t fr hb;exact⟨c,t,fr,hb,by simpa using h⟩
 ·cases h
theorem R3{e:atp}:∀{l:List (DataW H)}{d:DataW H},d∈l->∀n∈d.weights P e,n∈DataW.weightsAll P e l
 |x::l,d,hd,n,hn=>by
  simp only[DataW.weightsAll,ar9];rcases asj.1 hd with rfl |hd
  ·exact .inl hn
  ·exact .inr (R3 hd n hn)
theorem yg{t e:atp}{n:Nat}{α:Type}{f:α->AV}{p:α->Prop}(ht:P.underlying t=some (.slice e))(hc:P.cellsOf e=n)(hn:0<n)(TX:aob 0 (P.bytesOf e)=true)(oi:eS P W enc e f p)(jZ:∀a,(f a).cells.length=n) :
  eS P W enc t (fun l:List α=>.lst n (l.map f)) (fun l=>(∀a∈l,p a)/\l.length<=281474976710656):=by
 intro sp fuel cs x h d5;rcases DataW.trod_slice ht h with⟨rfl,_⟩ |⟨a,len,cap,elems,rest,m,_,rfl,xc,_,hl,hm,cm,hE,_,_⟩
 ·exact⟨[],⟨fun a ha=>by(cases ha),ase _⟩,yG (.lst0 _ _ _) rfl⟩
 ·obtain⟨l,iM,hq⟩:=QA (q:=fun i a'=>p a'/\∃cs',W.cells? 0 (a.add (i*n)) n=some cs'/\rf W cs' (f a').cells) len (fun i hi=>by
   have h1:=hE i hi;rw[hc,ar7 oz,Option.bind_eq_some_iff]at h1;obtain⟨cs',h2,h3⟩:=h1
   obtain⟨a',ha,hc'⟩:=oi _ _ _ _ h3 (fun k hk=>d5 k (by
    rw[xc];simp only[DataW.weights,ht];exact ass _ (List.mem_append_left _ (R3 (aqd.2 ⟨_,aqh (by omega:i<elems.length),rfl⟩) k hk))))
   exact⟨a',ha,cs',h2,hc'⟩)
  have hcm:len<=281474976710656:=by
   have h1:=d5 ((elems.length+rest.length)*P.bytesOf e) (by
    rw[xc];simp only[DataW.weights,ht,ar3];exact as2 ..)
   rw[aoh]at TX;have h2:elems.length+rest.length<=(elems.length+rest.length)*P.bytesOf e:=Nat.le_mul_of_pos_right _ TX;have h3:reachBytes<=281474976710656:=by decide
   omega
  refine⟨l,⟨fun a' ha=>?_,by omega⟩,yG ?_ rfl⟩
  ·obtain⟨i,hi⟩:=List.getElem?_of_mem ha;exact(hq i a' hi).1
  ·by_cases h0:len=0
   ·subst h0;have:l=[]:=aqc iM;subst this;exact .lst0 _ _ _
   ·-- the block
    have dB:∀(i j:Nat)(e' c':AV),(l.map f)[i]?=some e'->e'.cells[j]?=some c'->∃v,W.cell? ((a.add (i*n)).add j)=some v/\Rep (Gw W) (Sz W) dO v c':=by
     intro i j e' c' he hc';rw[asa,ar6]at he;obtain⟨a',ha,rfl⟩:=he;obtain⟨_,cs',h2,h3⟩:=hq i a' ha;obtain⟨_,h4,h5⟩:=World.cells?_some h2;have hj:j<n:=by rw[<- jZ a'];exact(ap9.1 hc').1
     have h6:=h5 j hj;rw[ar7 oz]at h6;exact⟨_,h6,h3.2.2 j _ c' (ar7 oz) hc'⟩
    obtain⟨a0,ha0⟩:∃a0,l[0]?=some a0:=⟨l[0]'oz,ar7 oz⟩
    obtain⟨c0,Af⟩:∃c0,(f a0).cells[0]?=some c0:=⟨(f a0).cells[0]'(by rw[jZ];omega),ar7 (by rw[jZ];omega)⟩
    obtain⟨v0,ol,_⟩:=dB 0 0 _ _ (by rw[asa,ha0];rfl) Af;have e0:(a.add (0*n)).add 0=a:=by simp[Addr.add]
    rw[e0]at ol;obtain⟨b,off,rfl⟩:=akf ol;obtain⟨c,t',fr,hb,_⟩:=QZ ol;have TY:(l.map f).length=len:=by rw[ar3,iM]
    have gj:∀(i j:Nat)(e' c':AV),(l.map f)[i]?=some e'->e'.cells[j]?=some c'->∃v,c[off+i*n+j]?=some v/\Rep (Gw W) (Sz W) dO v c':=by
     intro i j e' c' he hc';obtain⟨v,hv,hr⟩:=dB i j e' c' he hc';rw[kg,kg]at hv;obtain⟨c2,t2,E6,bg,ky⟩:=QZ hv;rw[hb]at bg;cases bg;exact⟨v,ky,hr⟩
    have := Rep.lst (g := Gw W) (S := Sz W) (m := dO) (b := b) (off := off) (cap := cap) (sz := n) (es := l.map f) (cs := c) (fun i j => c.getD (off + i * n + j) undef) (aie hb) oz (by rw [TY]; exact hcm)
     (fun i e' he=>by
      rw[asa,ar6]at he;obtain⟨a',_,rfl⟩:=he;exact jZ a')
     (fun i j e' c' he hc'=>by
      rw[asa,ar6]at he;obtain⟨a',ha,rfl⟩:=he;obtain⟨_,cs',_,h3⟩:=hq i a' ha;exact h3.2.1 j c' hc')
     (fun i j e' c' he hc'=>by
      obtain⟨v,hv,_⟩:=gj i j e' c' he hc';rw[asc,hv];rfl)
     (fun i j e' c' he hc'=>by
      obtain⟨v,hv,hr⟩:=gj i j e' c' he hc';rw[asc,hv];exact hr)
    rwa [TY]at this
theorem Px{t:atp}{fs:Array Field}{α:Type}{g:α->List AV}{q:α->Prop}{v:ato}{d:DataW H}{ps:List MemPlace}{sp:Nat->Bool}{b0:Nat}(ht:P.underlying t=some (.struct fs))
  (ho:eS P W enc t (fun a=>.agg (g a)) q) (kt:Value.okWide P W .any b0 t v) (hd:DataW.Trod enc P W 0 sp true t v d ps) (d5:∀n∈d.weights P t,n<=reachBytes):∃a,q a/\Rep (Gw W) (Sz W) dO v (.agg (g a)):=by
 unfold Value.okWide at kt;rw[ht]at kt;obtain⟨cs,rfl,_,_⟩:=kt;obtain⟨fuel,hf⟩:=hd;obtain⟨a,ha,hc⟩:=ho _ _ _ _ hf d5;exact⟨a,ha,.agg (by have:=hc.1;simpa[Value.cells,AV.cells]using this) (fun j c h=>hc.2.1 j c h) (fun j u c hu h=>hc.2.2 j u c (by simpa[Value.cells]using hu) h)⟩
theorem kU.calls{f:FuncId}{args:List AV}{b:Bool}(h:kU P f args (.v (.bool b))){vs:Array ato}(hn:vs.size=args.length)
  (hr:∀(j:Nat) v x,vs[j]?=some v->args[j]?=some x->Rep (Gw W) (Sz W) dO v x) :
  Calls P f vs W fun e W'=>e=.returned (.bool b)/\RowKit.Below W.heap.size W W':=by
 have h0:=h.ret Pg dO W vs (fun b h=>h.elim) ⟨fun k x h=>by(cases h),fun k k' x x' b h=>by(cases h),fun k x b h=>by(cases h)⟩ hn hr;refine h0.mono (fun e W' ⟨v,m',he,hf,_,_,_,hv⟩=>?_);cases hv;refine⟨he,hf.os,hf.tape,hf.output,hf.size,fun k hk=>hf.keep k hk ?_⟩;rintro⟨k',x,h9,_⟩;cases h9
open Go.ChangeShapes in
theorem VH{f:Func}{s:ChangeSpec}{apart fresh handsOn again:Bool}{W':atr}{args:Array ato}{v:ato}{ds gs:List (DataW H)}{before:List MemPlace}
  (hW:DataW.Whole enc P f.params.toList s.vars apart W args.toList ds gs before) (cV:s.vars=[]) (hgs:gs=[])
  (qG:∀(b:Nat)(sp:Nat->Bool)(hd:Bool),DataW.TrodAll enc P W' b sp hd f.resultTypes.toList (v.resultList f.resultTypes.size) (s.fn H (ds++gs)).results [])
  (sC:∀sp:Nat->Bool,(∀p∈before,sp p.block=true)->DataW.TrodAll enc P W' 0 sp true f.params.toList args.toList (s.fn H (ds++gs)).args before)
  (ol:(s.fn H (ds++gs)).vars=[]) (hb:RowKit.Below W.heap.size W W')
  (bm:∀(j:Nat)(t:atp)(r:ato),f.resultTypes[j]?=some t->(v.resultList f.resultTypes.size)[j]?=some r->Value.okWide P W' .any 0 t r) :
  s.post enc P f apart fresh handsOn again W args v W':=by
 have hlt:=fun p hp=>hW.lt p hp
 have JG:∀p∈before,(fun b=>decide (b<W.heap.size)) p.block=true:=fun p hp=>by simpa using hlt p hp
 have TZ:∀sp:Nat->Bool,DataW.TrodVars enc P W' sp s.vars (s.fn H (ds++gs)).vars []:=fun sp=>by rw[cV,ol];rfl
 refine⟨ds,gs,before,[],before,[],hW,qG _ _ _,sC _ JG,TZ _,World.keptBut_mono (fun p hp=>⟨hp,Or.inr (by simpa using hp)⟩) (hb.frame (· ∈ before)),fun _=>?_⟩;obtain⟨_,_,_,_,_,hz,hn⟩:=hW;refine⟨bm,_,_,([]++before)++[],⟨[]++before,[],trodAll_append (sC _ (fun _ _=>rfl)) (qG _ _ _),TZ _,rfl,?_,?_⟩,?_⟩
 ·intro b off hp;have hp':MemPlace.cell b off ∈ before:=by simpa using hp
  rw[hb.frozen (hlt _ hp')];exact hz b off hp'
 ·intro ha;simpa using hn ha
 ·intro p hp _;simpa using hp
end
theorem oF{l:List Nat}{i x:Nat}(h:i<l.length):val ((l.set i x).take (i+1))=val (l.take i)+4294967296^i*x:=by
 rw[MK (x:=x) (by simp[h]),List.take_set_of_le (ar8 _)]
theorem jd{l:List Nat}{i x:Nat}(h:Ws l)(hx:x<4294967296):Ws (l.set i x):=by
 intro y hy;rcases apo hy with h1 |h1
 ·exact h y h1
 ·omega
theorem o0(n:Nat):Ws (apf n 0):=fun x hx=>by rw[(List.mem_replicate.1 hx).2];omega
theorem zy:Ws []:=fun _ h=>nomatch h
theorem iY{l:List Nat}(h:Ws l)(n:Nat):Ws (l.take n):=fun x hx=>h x (apg hx)
theorem zN{x:Nat}(h:x<4294967296):Ws [x]:=fun y hy=>by rw[aqf.1 hy];exact h
structure Wh where
  neg:Bool
  mag:List Nat
namespace Wh
def valid(w:Wh):Bool:=if w.mag=[]then !w.neg else w.mag.getLast? != some 0
def m(w:Wh):List Nat:=if w.valid then w.mag else[]
def n(w:Wh):Bool:=w.valid&&w.neg
def z(w:Wh):Int:=if w.n then -(val w.m:Int)else val w.m
def av(w:Wh):AV:=.agg [bl w.neg,ws w.mag]
def ok(w:Wh):Prop:=Ws w.mag/\w.mag.length<=aF
end Wh
def sgn(b:Bool)(n:Nat):Int:=if b then -(n:Int)else n
def ofInt(z:Int):Wh:=⟨decide (z<0),ofNat z.natAbs⟩
def zA(z:Int):AV:=(ofInt z).av
theorem Wh.nz(w:Wh):Nz w.m:=by
 unfold Wh.m Wh.valid;intro x hx
 by_cases h:w.mag=[]
 ·rw[h]at hx;split at hx <;> simp at hx
 ·rw[atd h]at hx;split at hx
  ·next h'=>rw[hx]at h';simpa using h'
  ·simp at hx
theorem Wh.ws{w:Wh}(h:w.ok):Ws w.m:=by
 unfold Wh.m;split
 ·exact h.1
 ·exact zy
theorem Wh.m_le{w:Wh}:w.m.length<=w.mag.length:=by
 unfold Wh.m;split <;> simp
theorem Wh.ofNat_m{w:Wh}(h:w.ok):ofNat (val w.m)=w.m:=vz (Wh.ws h) w.nz
theorem Wh.n_val{w:Wh}(hn:w.n=true):val w.m≠0:=by
 have h1:w.m≠[]:=by
  intro h0;unfold Wh.n at hn;rw[ar5]at hn;unfold Wh.m at h0;rw[ate hn.1]at h0;have:=hn.1;unfold Wh.valid at this;rw[ate h0,hn.2]at this;cases this
 have:=ut w.nz h1;omega
theorem Wh.n_eq{w:Wh}:w.n=decide (w.z<0):=by
 unfold Wh.z;cases h:w.n with
 |true=>have:=Wh.n_val h;simp;omega
 |false=>simp
theorem Wh.abs{w:Wh}:w.z.natAbs=val w.m:=by
 unfold Wh.z;split <;> omega
theorem Wh.z_eq{w:Wh}:w.z=sgn w.n (val w.m):=rfl
theorem L7(z:Int):(ofInt z).valid=true:=by
 unfold ofInt Wh.valid;dsimp only;split
 ·next h =>
  have h1:=cD z.natAbs;rw[h]at h1;have:z=0:=by simp[val]at h1;omega
  subst this;rfl
 ·next h =>
  have:=vG z.natAbs;cases hl:(ofNat z.natAbs).getLast? with
  |none=>rfl
  |some x=>have:=this x hl;simp[this]
theorem aby(z:Int):(ofInt z).m=ofNat z.natAbs:=by unfold Wh.m;rw[ate (L7 z)];rfl
theorem Wv(z:Int):(ofInt z).n=decide (z<0):=by unfold Wh.n;rw[L7 z];rfl
theorem eD(z:Int):(ofInt z).z=z:=by
 unfold Wh.z;rw[Wv,aby,cD];split
 ·next h=>simp at h;omega
 ·next h=>simp at h;omega
def Lz(k:Nat)(z:Int):Prop:=z.natAbs<4294967296^k
theorem Lz.len{k:Nat}{z:Int}(h:Lz k z):(ofNat z.natAbs).length<=k:=gB h
theorem Wh.lz{w:Wh}(h:w.ok):Lz w.mag.length w.z:=by
 unfold Lz;rw[Wh.abs];have h1:=co w.m (Wh.ws h);exact asp h1 (aok oz Wh.m_le)
theorem Lz.mono{k l:Nat}{z:Int}(h:Lz k z)(hk:k<=l):Lz l z:=asp h (aok oz hk)
theorem Lz.add{k l:Nat}{x y:Int}(h:Lz k x)(h':Lz l y):Lz (max k l+1) (x+y):=by
 have h1:=h.mono (Nat.le_max_left k l);have h2:=h'.mono (Nat.le_max_right k l);unfold Lz at *;rw[ao1];have:=Int.natAbs_add_le x y;omega
theorem Lz.neg{k:Nat}{x:Int}(h:Lz k x):Lz k (-x):=by unfold Lz at *;omega
theorem Lz.sub{k l:Nat}{x y:Int}(h:Lz k x)(h':Lz l y):Lz (max k l+1) (x-y):=Int.sub_eq_add_neg▸h.add h'.neg
theorem Lz.mul{k l:Nat}{x y:Int}(h:Lz k x)(h':Lz l y):Lz (k+l) (x*y):=by
 unfold Lz at *;rw[aqv,as6];exact apb h h'
theorem Lz.of_le{k:Nat}{x y:Int}(h:Lz k x)(h':y.natAbs<=x.natAbs):Lz k y:=asw h' h
theorem xK{a b:List Nat}(ha:Ws a)(hb:Nz b)(h:a.length<b.length):val a<val b:=by
 have h1:=co a ha;have iP:b≠[]:=by intro h0;rw[h0]at h;simp at h
 have h2:∃c x,b=c++[x]:=⟨b.dropLast,b.getLast iP,(aps iP).symm⟩
 obtain⟨c,x,rfl⟩:=h2;have hx:x≠0:=hb x (by simp);rw[vY];simp at h;have h3:4294967296^a.length<=4294967296^c.length:=aok oz oz;have h4:4294967296^c.length*1<=4294967296^c.length*val [x]:=ash _ (by simp[val];omega);omega
theorem Mr{a b:List Nat}{i:Nat}(ha:Ws a)(hx:ak a i<ak b i):val (a.take (i+1))<val (b.take (i+1)):=by
 rw[dU,dU];have h1:=co (a.take i) (iY ha i);have h2:4294967296^(a.take i).length<=4294967296^i:=aok oz (by simp;omega);have h3:4294967296^i*(ak a i+1)<=4294967296^i*ak b i:=ash _ hx;rw[aom,Nat.mul_one]at h3;omega
theorem yM(l:List Nat)(i:Nat):val l=val (l.take i)+4294967296^(min i l.length)*val (l.drop i):=by
 conv=>lhs;rw[<- aqe i l]
 rw[vY,aso]
theorem Rl{a b:List Nat}{i:Nat}(ha:Ws a)(hl:a.length=b.length)(hi:i<a.length)(he:a.drop (i+1)=b.drop (i+1))(hx:ak a i<ak b i):val a<val b:=by
 rw[yM a (i+1),yM b (i+1),he,hl];have:=Mr ha hx;omega
theorem ID{o c P x y u w:Nat}(h:o+c*P=x+y) :
  (o+P*((c+(u+w))%4294967296))+((c+(u+w))/4294967296)*(P*4294967296)=(x+P*u)+(y+P*w):=by
 have:=aoa (c+(u+w)) 4294967296;generalize(c+(u+w))%4294967296=r at *;generalize(c+(u+w))/4294967296=q at *;grind
theorem Mv{a b out:List Nat}{c n:Nat}(ha:Ws a)(hb:Ws b)(hn:n=max a.length b.length+1)(ho:out.length=n)
  (h:val (out.take n)+c*4294967296^n=val (a.take n)+val (b.take n)):val out=val a+val b:=by
 rw[fX oz,fX oz,fX oz]at h;have h1:=co a ha;have h2:=co b hb;have h3:4294967296^a.length<=4294967296^max a.length b.length:=aok oz oz;have h4:4294967296^b.length<=4294967296^max a.length b.length:=aok oz oz;subst hn;rw[ao1]at h;cases c with
 |zero=>omega
 |succ c =>
  rw[ape]at h;omega
theorem R7{o c P x y u w:Nat}(hu:u<4294967296)(hw:w<4294967296)(hc:c<=1)(h:o+y=x+c*P) :
  let d:=if w+c<=u then u-w-c else u+18446744073709551616-w-c
  (o+P*(d%4294967296))+(y+P*w)=(x+P*u)+(d/2^63)*(P*4294967296):=by
 intro d
 have h0:d%4294967296+w+c=u+(d/2^63)*4294967296:=by
  show d%4294967296+w+c=_
  by_cases h1:w+c<=u
  ·rw[show d=u-w-c from ate h1];omega
  ·rw[show d=u+18446744073709551616-w-c from atd h1];omega
 generalize d/2^63=q at *;generalize d%4294967296=r at *;grind
theorem YV{a b out:List Nat}{c:Nat}(ha:Ws out)(ho:out.length=a.length)(bR:val b<=val a)(eY:b.length<=a.length)
  (h:val (out.take a.length)+val (b.take a.length)=val (a.take a.length)+c*4294967296^a.length):val out=val a-val b:=by
 rw[fX oz,fX oz,fX oz]at h;have h1:=co out ha;rw[ho]at h1;cases c with
 |zero=>omega
 |succ c=>rw[ape]at h;omega
theorem yf{x y:Nat}(hx:x<18446744073709551616)(hy:y<18446744073709551616):p5 .or .u64 (x:Int) (y:Int)=((x ||| y:Nat):Int):=by
 show IntKind.u64.wrap (((BitVec.ofInt 64 (x:Int)) ||| (BitVec.ofInt 64 (y:Int))).toNat:Int)=_;simp only[BitVec.toNat_or,BitVec.ofInt_natCast,BitVec.toNat_ofNat];rw[aol oz,aol oz];exact u64_in (Nat.or_lt_two_pow (n:=64) hx hy)
theorem FI{x y:Nat}(hx:x<4294967296)(hy:y<4294967296):p5 .or .u32 (x:Int) (y:Int)=((x ||| y:Nat):Int):=by
 show IntKind.u32.wrap (((BitVec.ofInt 32 (x:Int)) ||| (BitVec.ofInt 32 (y:Int))).toNat:Int)=_;simp only[BitVec.toNat_or,BitVec.ofInt_natCast,BitVec.toNat_ofNat];rw[aol oz,aol oz];exact u32_in (Nat.or_lt_two_pow (n:=32) hx hy)
theorem K8{x y:Nat}(hx:x<4294967296)(hy:y<4294967296):p5 .and .u32 (x:Int) (y:Int)=((x &&& y:Nat):Int):=by
 show IntKind.u32.wrap (((BitVec.ofInt 32 (x:Int)) &&& (BitVec.ofInt 32 (y:Int))).toNat:Int)=_;simp only[BitVec.toNat_and,BitVec.ofInt_natCast,BitVec.toNat_ofNat];rw[aol oz,aol oz];exact u32_in (asw Nat.and_le_left hx)
theorem yk{q y n:Nat}(hy:y<2^n):q*2^n ||| y=q*2^n+y:=by
 rw[aog,Nat.two_pow_add_eq_or_of_lt hy]
theorem G5{q y n:Nat}(hy:y<2^n):y ||| q*2^n=y+q*2^n:=by
 rw[Nat.or_comm,yk hy,ao7]
theorem uQ{x n:Nat}(hn:n<=64)(h:x*2^n<18446744073709551616):IntKind.u64.wrap ((x:Int)*2^(min (n:Int).toNat IntKind.u64.bits))=((x*2^n:Nat):Int):=by
 have:min (n:Int).toNat IntKind.u64.bits=n:=by simp[IntKind.bits];omega
 rw[this,show(x:Int)*2^n=((x*2^n:Nat):Int) by simp,u64_in h]
theorem L3{x n:Nat}(hn:n<=32):IntKind.u32.wrap ((x:Int)*2^(min (n:Int).toNat IntKind.u32.bits))=((x*2^n%4294967296:Nat):Int):=by
 have:min (n:Int).toNat IntKind.u32.bits=n:=by simp[IntKind.bits];omega
 rw[this,show(x:Int)*2^n=((x*2^n:Nat):Int) by simp,ef]
theorem uN(x n:Nat)(hn:n<=32):(x:Int).fdiv (2^(min (n:Int).toNat IntKind.u32.bits))=((x/2^n:Nat):Int):=by
 have:min (n:Int).toNat IntKind.u32.bits=n:=by simp[IntKind.bits];omega
 rw[this,aqo _ (Int.le_of_lt (Int.pow_pos (by decide)))];simp
theorem OZ{x y:Nat}(hx:x<18446744073709551616):IntKind.u64.wrap ((x:Int).tdiv y)=((x/y:Nat):Int):=by
 rw[<- Int.ofNat_tdiv,u64_in (asw (aop _ _) hx)]
theorem KT{x y:Nat}:(x:Int).tmod y=((x%y:Nat):Int):=(Int.ofNat_tmod _ _).symm
theorem GK:∀{l:List Nat}{i x:Nat},i<l.length->val (l.set i x)+4294967296^i*ak l i=val l+4294967296^i*x
 |a::l,0,x,_=>by simp[val,ak];omega
 |a::l,i+1,x,h=>by
  have ih:=GK (l:=l) (i:=i) (x:=x) (by simpa using h);simp only[List.set_cons_succ,val];have hw:ak (a::l) (i+1)=ak l i:=by simp[ak]
  rw[hw,ao1];grind
theorem PM{l:List Nat}{i n x:Nat}(h:i<l.length)(hn:i<n):val ((l.set i x).take n)+4294967296^i*ak l i=val (l.take n)+4294967296^i*x:=by
 rw[List.take_set];have h1:ak (l.take n) i=ak l i:=by simp[ak,hn]
 rw[<- h1];exact GK (by simp;omega)
theorem KK{o o' c V P u y w S:Nat}(ho:o'+P*w=o+P*(S%4294967296))(hS:S=c+(u*y+w))(h:o+c*P=V) :
  o'+(S/4294967296)*(P*4294967296)=V+P*(u*y):=by
 have:=aoa S 4294967296;generalize S%4294967296=r at *;generalize S/4294967296=q at *;subst hS;grind
theorem DI{x y:Nat}(hx:x<4294967296)(hy:y<4294967296):x*y<=18446744065119617025:=by
 have:=aoz (show x<=4294967295 by omega) (show y<=4294967295 by omega);omega
theorem ags{l:List Nat}{i:Nat}(h:i<l.length):l.drop i=ak l i::l.drop (i+1):=by
 rw[ap7 h];congr 1;have:=lI h;rw[ar7 h]at this;exact Option.some.inj this
theorem vH{l:List Nat}{i:Nat}(h:i<l.length):val (l.drop i)=ak l i+4294967296*val (l.drop (i+1)):=by
 rw[ags h];rfl
theorem Lm{l:List Nat}{i x:Nat}(h:i<l.length):val ((l.set i x).drop i)=x+4294967296*val (l.drop (i+1)):=by
 rw[vH (by simpa using h)];have h1:ak (l.set i x) i=x:=by simp[ak,h]
 have h2:(l.set i x).drop (i+1)=l.drop (i+1):=by rw[List.drop_set_of_lt oz]
 rw[h1,h2]
theorem aD.own1{s:AS}{k d sz off len:Nat}{es es':List AV}(h:lk s.hp k=some (.row sz es))(hd:aob d 1000=true)(he:es=es') :
  aD s (d7 [.ms k sz off len]) (.ms d sz off len) [(d,some (.row sz es'))]:=by
 subst he;rw[aoh]at hd;intro ext m w v hh hext hx
 have dZ:∀(k':Nat)(z:Blk),lk [(d,some (Blk.row sz es))] k'=some z->k'=d/\z=.row sz es:=by
  intro k' z hz;rw[aE]at hz;split at hz
  ·rename_i h1;cases hz;exact⟨h1,rfl⟩
  ·cases hz
 have dD:=f0 (ext:=ext) (Frame.refl (aW s.hp m) w) (hp':=[(d,some (.row sz es))]) (m':=fun x=>if x=d then m k else none) (by
  intro k' z b hz hb;obtain⟨rfl,rfl⟩:=dZ k' z hz;have hb':(if k'=k' then m k else none)=some b:=hb;rw[ate rfl]at hb';exact .inl ⟨k,_,h,hb'⟩)
 refine⟨fun x=>if x=d then m k else none,⟨?_,?_,?_⟩,?_,?_,?_⟩
 ·intro k' z hz;obtain⟨rfl,rfl⟩:=dZ k' z hz;rw[ate rfl];have h1:BlkRep (Im ext s.hp m w) (Sz w) m w (m k) (.row sz es):=hh.blk k _ h
  revert h1
  generalize fA:m k=o
  suffices h2:∀o,BlkRep (Im ext s.hp m w) (Sz w) m w o (.row sz es)->BlkRep (Im ext [(k',some (.row sz es))] (fun x=>if x=k' then m k else none) w) (Sz w) (fun x=>if x=k' then m k else none) w o (.row sz es) by
   rw[fA]at h2;exact h2 o
  clear fA o;intro o h1;cases h1 with
  |none=>exact .none _
  |row hw hn hl hs h1 hr=>exact .row hw hn hl hs h1 (fun i j e u x he hx hu=>(hr i j e u x he hx hu).mono dD (fun _ _ h=>h) (fun _ _ _ h=>h))
 ·intro k1 k2 z z' b h1 h2 _ _;rw[(dZ _ _ h1).1,(dZ _ _ h2).1]
 ·intro k' z b hz hb;obtain⟨rfl,rfl⟩:=dZ k' z hz;have hb':(if k'=k' then m k else none)=some b:=hb;rw[ate rfl]at hb';exact hh.sep k _ b h hb'
 ·intro k' z b hz hb;obtain⟨rfl,rfl⟩:=dZ k' z hz;have hb':(if k'=k' then m k else none)=some b:=hb;rw[ate rfl]at hb';exact⟨k,_,h,hb'⟩
 ·intro k' z hk hz;obtain⟨rfl,rfl⟩:=dZ k' z hz;omega
 ·cases hx with
  |ms0 a=>exact .ms0 a _ _ _
  |ms hm hc hS=>exact .ms (by simp;exact hm) hc hS
theorem bD{k:Nat}{x:Option Blk}{z:Blk}(h:lk [(1000,x)] k=some z):1000<=k:=by
 rw[aE]at h;split at h
 ·omega
 ·cases h
end Go.Lw
