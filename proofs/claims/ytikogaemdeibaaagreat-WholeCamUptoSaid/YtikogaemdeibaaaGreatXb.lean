/- WholeCam: for any cam, shift and position whose reading holds at most 1048576 values the law returns true and leaves its arguments as they were. No other condition. Part 2 of 7: what the later parts need -/
import Derived.Test.YtikogaemdeibaaaGreatXa
import Derived.KernelRfl
import Derived.Laws.StructEq
import Derived.Test.YtikogaemdeibaaaGreatProg
import Derived.Eval
import Derived.RangeFuncIn
import Derived.Carry
import Derived.ChangeArms
import Derived.DataReads
import Derived.ChangeShapes
import Derived.RowKit
import Derived.ProofKit
import Derived.OpenShut
import Derived.Handed
import Derived.SizedLaws
import Derived.Test.YtikogaemdeibaaaGreatRows
set_option linter.unusedVariables false
open List (all_cons drop_drop)
open List renaming mem_of_getElem? → ZR, mem_cons_of_mem → Z8, mem_append → ZY, map_cons → aaz, mem_cons → aai, length_cons → Z7, mem_cons_self → aaa, length_append → aah, length_nil → aan, getD_eq_getElem?_getD → ZS, getElem?_append_left → aae, getElem?_eq_none → Z5, all_eq_true → Z6, getElem?_take → aak, getElem?_drop → aar, getElem?_map → ZZ, append_assoc → aay, getElem?_append_right → aac, mem_singleton → Z3, getElem?_eq_getElem → ZV, drop_eq_nil_of_le → aal, map_append → aas, length_take → aao, take_of_length_le → aag, length_map → ZU, drop_zero → aax, take_length → aab, drop_eq_getElem_cons → Yd, getElem?_toArray → Yf, mem_or_eq_of_mem_set → Yi, mem_of_mem_take → Yk, mem_map → Yr, dropLast_concat_getLast → Yt, getElem_mem → Yy, getLast?_cons_cons → Yz, getElem?_eq_some_iff → YA, mem_iff_getElem → YB, mem_replicate → YC, eq_nil_of_length_eq_zero → YG, mem_flatMap → YH, nil_append → YK, take_append_drop → YN, replicate → YO, mem_append_left → YP, size_toArray → YT
open Nat renaming eq_of_beq_eq_true → ZT, le_refl → Z0, lt_of_lt_of_le → Z9, lt_or_ge → Z2, le_trans → aaj, mul_le_mul_right → aad, mul_le_mul_left → Z4, zero_le → aaf, pow_add → aat, lt_of_le_of_lt → aam, mod_eq_of_lt → Xr, pow_le_pow_right → Xt, mul_add → Xy, eq_zero_or_pos → XC, succ_mul → XD, zero_add → XF, add_assoc → XG, ble_eq_true_of_le → XH, beq → XK, div_lt_iff_lt_mul → XM, add_mul → XN, beq_refl → XP, mul_lt_mul'' → XQ, pow_mul → XR, ble_eq → XS, blt → XU, add_zero → XW, div_le_self → XX, mul_le_mul → XZ, pow_succ → X0, mul_comm → X6, min_eq_left → X7, mod_lt → X8, div_add_mod → X9, ne_of_beq_eq_false → Ya, blt_eq → Yb
open Option renaming map_eq_some_iff → ZX, map_some → ZP
open Bool renaming and_eq_true → ZW, or_eq_true → aav, false_eq_true → Zm, false_and → Zo
open Array renaming getD_eq_getD_getElem? → Z1, getElem?_extract → Zz, getElem?_eq_getElem → ZC, getElem?_append → ZH, length_toList → ZI, getElem?_push → ZJ, toList_inj → ZL, getElem?_toList → ZM, size_append → ZN
open Int renaming fdiv_eq_ediv_of_nonneg → YV, natAbs_mul → Y2
open Go renaming Operand → abb, Value → abc, TypeId → abd, Program → abe, World → abf
open Go.Result renaming andThen_ok → abg
open Go.Sem renaming run_bind → abh, run_pure → abi
open Go.Proofs.Tryz
namespace Go.Lw
variable{P:abe}{N:Nat}{s:AS}
theorem Sub.refl(x:AV):Sub x x:=fun _ _ _ _ h=>h
inductive SlW(sl:aX):aX->Prop
  |nil:SlW sl []
  |cons {t:Nat} {x y:AV} {l:aX} (h:lk sl t=some y) (hs:Sub y x) (hl:SlW sl l):SlW sl ((t,some x)::l)
theorem SlW.get{sl l:aX}(h:SlW sl l){t:Nat}{x:AV}(hx:lk l t=some x):∃y,lk sl t=some y/\Sub y x:=by
 induction h with
 |nil=>cases hx
 | @cons t' x' y l h1 h2 _ ih =>
  rw[aq]at hx;split at hx
  ·cases hx;subst_vars;exact⟨y,h1,h2⟩
  ·exact ih hx
theorem SlW.same{sl l:aX}{t:Nat}{x:AV}(h:lk sl t=some x)(hl:SlW sl l):SlW sl ((t,some x)::l):=.cons h (.refl x) hl
def jF(e e':AV):Prop:=e.cells.length=e'.cells.length/\∀(j:Nat)(x y:AV),e.cells[j]?=some x->e'.cells[j]?=some y->y.one=true/\Sub x y
inductive BlkSub:Blk->Blk->Prop
  |refl (x:Blk):BlkSub x x
  |row {sz:Nat} {es es':List AV} (hn:es.length=es'.length) (h:∀(i:Nat)(e e':AV),es[i]?=some e->es'[i]?=some e'->jF e e'):BlkSub (.row sz es) (.row sz es')
  |box {cs cs':List AV} (hn:cs.length=cs'.length) (h1:∀(j:Nat)(x:AV),cs'[j]?=some x->x.one=true)
      (h:∀(j:Nat)(x y:AV),cs[j]?=some x->cs'[j]?=some y->Sub x y):BlkSub (.box cs) (.box cs')
  |vecRow {vs:List abc} (hl:vs.length<=an):BlkSub (.vec vs) (.row 1 (vs.map .v))
inductive HpW(hp:Hp):Hp->Prop
  |nil:HpW hp []
  |cons {k:Nat} {x y:Blk} {l:Hp} (h:lk hp k=some y) (hs:BlkSub y x) (hl:HpW hp l):HpW hp ((k,some x)::l)
theorem HpW.k{hp l:Hp}{k:Nat}{x:Blk}(hl:HpW hp l)(h:lk hp k=some x:=by exact rfl):HpW hp ((k,some x)::l):=.cons h (.refl x) hl
theorem HpW.same{hp l:Hp}{k:Nat}{x:Blk}(h:lk hp k=some x)(hl:HpW hp l):HpW hp ((k,some x)::l):=.cons h (.refl x) hl
theorem HpW.get{hp l:Hp}(h:HpW hp l){k:Nat}{x:Blk}(hx:lk l k=some x):∃y,lk hp k=some y/\BlkSub y x:=by
 induction h with
 |nil=>cases hx
 | @cons t' x' y l h1 h2 _ ih =>
  rw[aq]at hx;split at hx
  ·cases hx;subst_vars;exact⟨y,h1,h2⟩
  ·exact ih hx
theorem f8{α β:Type}{l:List α}{l':List β}(hn:l.length=l'.length){j:Nat}{x:α}(hx:l[j]?=some x):∃y,l'[j]?=some y:=by
 have hj:j<l.length:=by
  rcases Z2 j l.length with h |h
  ·exact h
  ·rw[Z5 h]at hx;cases hx
 exact⟨_,ZV oz⟩
theorem BlkSub.rep{g:Nat->Array abc->Prop}{S:Nat->Nat->Prop}{m:Nat->Option Nat}{w:abf}{o:Option Nat}{x y:Blk}(h:BlkSub x y)(hr:BlkRep g S m w o x):BlkRep g S m w o y:=by
 cases h with
 |refl=>exact hr
 | @row sz es es' hn h =>
  cases hr with
  |none =>
   have:es'=[]:=YG hn.symm;subst this;exact .none _
  |row hw hn' hl hs h1 aE =>
   refine .row hw (by rw[<- hn];exact hn') oz ?_ ?_ ?_
   ·intro i e' he';obtain⟨e,he⟩:=f8 hn.symm he';rw[<- (h i e e' he he').1];exact hs i e he
   ·intro i j e' x' he' hx';obtain⟨e,he⟩:=f8 hn.symm he';obtain⟨x,hx⟩:=f8 (h i e e' he he').1.symm hx';exact((h i e e' he he').2 j x x' hx hx').1
   ·intro i j e' u x' he' hx' hu;obtain⟨e,he⟩:=f8 hn.symm he';obtain⟨x,hx⟩:=f8 (h i e e' he he').1.symm hx';exact((h i e e' he he').2 j x x' hx hx').2 _ _ _ _ (aE i j e u x he hx hu)
 |box hn h1 h =>
  cases hr with
  |box hw hn' h1' aE =>
   refine .box hw oz h1 (fun j u y hu hy=>?_);obtain⟨z,hz⟩:=f8 hn.symm hy;exact h j z y hz hy _ _ _ _ (aE j u z hu hz)
 | @vecRow vs hl =>
  cases hr with
  | @vec _ _ c t hw hc h1 =>
   have dY:c.size=vs.length:=by rw[<- hc];simp
   refine .row hw (by simp;omega) (by simpa using hl) ?_ ?_ ?_
   ·intro i e he;obtain⟨v,hv,rfl⟩:=Yr.1 (ZR he);rfl
   ·intro i j e x he hx;obtain⟨v,hv,rfl⟩:=Yr.1 (ZR he);cases j with
    |zero=>cases hx;exact h1 v hv
    |succ j=>cases hx
   ·intro i j e u x he hx hu;rw[ZZ,ZX]at he;obtain⟨v,hv,rfl⟩:=he;cases j with
    |zero =>
     cases hx;have:c[i]?=some v:=by rw[<- ZM,hc];exact hv
     have hu':c[i]?=some u:=by simpa using hu
     rw[this]at hu';cases hu';exact .v _
    |succ j=>cases hx
theorem RelM.weak{C:Ctx}{m:Nat->Option Nat}{a:Act}{w:abf}(h:RelM C s m a w){s':AS}(h1:∀t x,s'.get t=some x->∃y,s.get t=some y/\Sub y x)
  (h2:∀k x,lk s'.hp k=some x->∃y,lk s.hp k=some y/\BlkSub y x):RelM C s' m a w:=by
 have hf:=Frame.refl (aB s.hp m) w
 have aT:∀k' z b,lk s'.hp k'=some z->m k'=some b->aB s.hp m b\/w.heap.size<=b:=fun k' z b hz hb=>by
  obtain⟨y,hy,_⟩:=h2 k' z hz;exact .inl ⟨k',y,hy,hb⟩
 have hu:=h.update hf (hp':=s'.hp) (fun _ _ _ _ _ _ hb=>hb) aT (fun k' z _ hz=>by obtain⟨y,hy,_⟩:=h2 k' z hz;exact⟨⟨y,hy⟩,rfl⟩) ⟨?_,?_,?_⟩
 ·refine⟨?_,hu.heap,hu.frame,hu.new,hu.keep,hu.defers,hu.nt⟩;intro t x hx;obtain⟨y,hy,hs⟩:=h1 t x hx;obtain⟨g1,g2⟩:=hu.slots t y hy;exact⟨g1,hs _ _ _ _ g2⟩
 ·intro k' z hz;obtain⟨y,hy,hs⟩:=h2 k' z hz;exact hs.rep (BlkRep.mono (w:=w) (df hf aT) hf.sz (fun _ _ _ h=>h) rfl (fun _ _=>rfl) (h.heap.blk k' y hy))
 ·intro k1 k2 z1 z2 b g1 g2;obtain⟨y1,nO,_⟩:=h2 k1 z1 g1;obtain⟨y2,lC,_⟩:=h2 k2 z2 g2;exact h.heap.inj k1 k2 y1 y2 b nO lC
 ·intro k' z b hz hb;obtain⟨y,hy,_⟩:=h2 k' z hz;exact h.heap.sep k' y b hy hb
theorem Wk.of{sl:aX}{hp:Hp}(h1:SlW s.sl sl)(h2:HpW s.hp hp):Wk s ⟨sl,hp⟩ :=
 fun C m a w hr=>⟨m,hr.weak (fun t x hx=>h1.get hx) (fun k x hx=>h2.get hx)⟩
mutual
def AV.fz(k sz:Nat)(es:List AV):AV->AV
  | .ms k' sz' off len=>match XK k' k&&XK sz' sz&&Nat.ble (off+len) es.length with
    |true=>.lst sz ((es.drop off).take len)
    |false=>.ms k' sz' off len
  | .agg cs=>.agg (AV.fzs k sz es cs)
  | .tup cs=>.tup (AV.fzs k sz es cs)
  | .fn f cs=>.fn f (AV.fzs k sz es cs)
  | .opt b x=>.opt b (AV.fz k sz es x)
  | .v x=>.v x
  | .lst sz l=>.lst sz l
  | .iptr l=>.iptr l
  | .ptr k off=>.ptr k off
  | .eptr k sz i off=>.eptr k sz i off
  | .yl k=>.yl k
  | .cl f cs ds=>.cl f cs ds
def AV.fzs(k sz:Nat)(es:List AV):List AV->List AV
  |[]=>[]
  |x::l=>AV.fz k sz es x::AV.fzs k sz es l
end
theorem AV.fzs_eq(k sz:Nat)(es:List AV):∀l,AV.fzs k sz es l=l.map (AV.fz k sz es)
 |[]=>rfl
 |x::l=>by simp only[AV.fzs,aaz,AV.fzs_eq k sz es l]
theorem AV.fz_one(k sz:Nat)(es:List AV)(x:AV)(h:x.one=true):(x.fz k sz es).one=true:=by
 cases x <;> simp only[AV.fz] <;> first |exact h |(split <;> rfl)
theorem rG{g:Nat->Array abc->Prop}{S:Nat->Nat->Prop}{k sz:Nat}{es:List AV}{m:Nat->Option Nat}{v:abc}{x:AV}(h:Rep g S m v x)
  (hb:∀b,m k=some b->∃c:Array abc,g b c/\es.length*sz<=c.size/\es.length<=an/\(∀(i:Nat)(e:AV),es[i]?=some e->e.cells.length=sz) /\
   (∀(i j:Nat)(e x:AV),es[i]?=some e->e.cells[j]?=some x->x.one=true) /\
   ∀(i j:Nat)(e:AV)(u:abc)(x:AV),es[i]?=some e->e.cells[j]?=some x->c[i*sz+j]?=some u->Rep g S bK u x):Rep g S m v (x.fz k sz es):=by
 induction h with
 |v x=>exact .v x
 |lst0 a cap sz'=>exact .lst0 a cap sz'
 |lst u hb' hc hl hs h1 hu hr _=>exact .lst u hb' hc hl hs h1 hu hr
 |iptr u hb' h1 hu hr _=>exact .iptr u hb' h1 hu hr
 |ptr h=>exact .ptr h
 |eptr h=>exact .eptr h
 |yl h=>exact .yl h
 |opt h h' ih=>exact .opt (fun gH=>ih gH hb) h'
 |agg hn h1 hr ih =>
  simp only[AV.fz,AV.fzs_eq];refine .agg (by simpa using hn) ?_ ?_
  ·intro j c hc;simp only[ZZ,ZX]at hc;obtain⟨y,hy,rfl⟩:=hc;exact AV.fz_one _ _ _ _ (h1 j y hy)
  ·intro j u c hu hc;simp only[ZZ,ZX]at hc;obtain⟨y,hy,rfl⟩:=hc;exact ih j u y hu hy hb
 |tup hn hr ih =>
  simp only[AV.fz,AV.fzs_eq];refine .tup (by simpa using hn) ?_;intro j u c hu hc;simp only[ZZ,ZX]at hc;obtain⟨y,hy,rfl⟩:=hc;exact ih j u y hu hy hb
 |fn hn hr ih =>
  simp only[AV.fz,AV.fzs_eq];refine .fn (by simpa using hn) ?_;intro j u c hu hc;simp only[ZZ,ZX]at hc;obtain⟨y,hy,rfl⟩:=hc;exact ih j u y hu hy hb
 |cl hn hr hn' hr' _ _=>exact .cl hn hr hn' hr'
 |ms0 a k' sz' off =>
  simp only[AV.fz];split
  ·simp;exact .lst0 _ _ _
  ·exact .ms0 _ _ _ _
 | @ms mm k' sz' off len cap b hm hc hS =>
  simp only[AV.fz];split
  ·rename_i In;simp only [ZW,XS] at In;obtain ⟨⟨h1,h2⟩,h3⟩:=In;obtain rfl:=ZT h1;obtain rfl:=ZT h2;obtain ⟨c,At,aA,lr,hs,ho,hr⟩:=hb b hm;have a6:((es.drop off).take len).length = len:=by simp; omega
   have cD:∀(i:Nat)(e:AV),((es.drop off).take len)[i]?=some e->es[off+i]?=some e:=by
    intro i e he;rw[aak]at he;split at he
    ·rwa [aar]at he
    ·cases he
   have dm:∀(i j:Nat)(e x:AV),es[i]?=some e->e.cells[j]?=some x->∃u,c[i*sz'+j]?=some u:=by
    intro i j e x he hx
    have hi:i<es.length:=by
     rcases Z2 i es.length with h |h
     ·exact h
     ·rw[Z5 h]at he;cases he
    have hj:j<e.cells.length:=by
     rcases Z2 j e.cells.length with h |h
     ·exact h
     ·rw[Z5 h]at hx;cases hx
    rw[hs i e he]at hj;have:=kv (sz:=sz') hi;exact⟨_,ZC oz⟩
   have:=Rep.lst (g:=g) (S:=S) (m:=mm) (b:=b) (off:=off*sz') (cap:=cap) (sz:=sz') (es:=(es.drop off).take len) (cs:=c)
    (fun i j=>c.getD ((off+i)*sz'+j) undef) At oz oz (fun i e he=>hs _ e (cD i e he)) (fun i j e x he hx=>ho _ j e x (cD i e he) hx)
    (fun i j e x he hx=>by
     obtain⟨u,hu⟩:=dm _ j e x (cD i e he) hx;rw[Z1,hu,<- XN,hu];rfl)
    (fun i j e x he hx=>by
     obtain⟨u,hu⟩:=dm _ j e x (cD i e he) hx;rw[Z1,hu];exact hr _ j e u x (cD i e he) hx hu)
   rwa [a6]at this
  ·exact .ms hm hc hS
def fU(f:AV->AV):aX->aX
  |[]=>[]
  |(t,x)::l=>(t,match x with |some x=>some (f x) |none=>none)::fU f l
theorem mN(f:AV->AV):∀(l:aX)(t:Nat),lk (fU f l) t=(lk l t).map f
 |[],t=>rfl
 |(t',x)::l,t=>by
  simp only[fU,aq,mN f l t];split
  ·cases x <;> rfl
  ·rfl
def Blk.map(f:AV->AV):Blk->Blk
  | .box cs=>.box (cs.map f)
  | .row sz es=>.row sz es
  | .loop d st pe sl=>.loop d st pe (fU f sl)
  | .vec vs=>.vec vs
theorem BlkRep.mapLoop{g g':Nat->Array abc->Prop}{S S':Nat->Nat->Prop}{m m':Nat->Option Nat}{w:abf}{o:Option Nat}{d:LpD}{st:LoopState}{pe:Option Code}{sl:aX}(f:AV->AV)
  (h:BlkRep g S m w o (.loop d st pe sl)) (hf:∀t x v,lk sl t=some x->Rep g S m v x->Rep g' S' m' v (f x)):BlkRep g' S' m' w o (.loop d st pe (fU f sl)):=by
 cases h with
 |loop h h1 h2 h3 h4 h5 hn hr =>
  refine .loop h h1 h2 h3 h4 h5 hn (fun t x hx=>?_);rw[mN,ZX]at hx;obtain⟨y,hy,rfl⟩:=hx;exact⟨(hr t y hy).1,hf t y _ hy (hr t y hy).2⟩
def dp(f:AV->AV)(k:Nat):Hp->Hp
  |[]=>[]
  |(k',x)::l=>(k',match XK k' k with |true=>none |false=>match x with |some x=>some (x.map f) |none=>none)::dp f k l
theorem jQ(f:AV->AV)(k:Nat):∀(l:Hp)(t:Nat),lk (dp f k l) t=if t=k then none else(lk l t).map (Blk.map f)
 |[],t=>by simp[dp,lk]
 |(k',x)::l,t=>by
  simp only[dp,aq,jQ f k l t]
  by_cases h1:t=k'
  ·subst h1;rw[aa2 rfl,aa2 rfl];cases hb:XK t k with
   |true=>rw[aa2 (ZT hb)]
   |false=>rw[aa1 (Ya hb)];cases x <;> rfl
  ·rw[aa1 h1,aa1 h1]
theorem Wk.freeze{k sz:Nat}{es:List AV}(hk:s.blk k=some (.row sz es)):Wk s ⟨fU (AV.fz k sz es) s.sl,dp (AV.fz k sz es) k s.hp⟩:=by
 intro C m a w hr;refine⟨m,?_⟩
 have nP:∀k' z,lk ((k,none)::s.hp) k'=some z->lk s.hp k'=some z:=by
  intro k' z hz;rw[aq]at hz;split at hz
  ·cases hz
  ·exact hz
 have aC:=hr.fewer nP
 have hb:∀b,m k=some b->∃c:Array abc,Im C.ext ((k,none)::s.hp) m w b c/\es.length*sz<=c.size/\es.length<=an/\(∀(i:Nat)(e:AV),es[i]?=some e->e.cells.length=sz) /\
   (∀(i j:Nat)(e x:AV),es[i]?=some e->e.cells[j]?=some x->x.one=true) /\
   ∀(i j:Nat)(e:AV)(u:abc)(x:AV),es[i]?=some e->e.cells[j]?=some x->c[i*sz+j]?=some u->Rep (Im C.ext ((k,none)::s.hp) m w) (Sz w) bK u x:=by
  intro b hm;obtain⟨c,t,hw,hn,hl,hs,ho,aE⟩:=q8 hr.heap hk hm;have bV:=df (ext:=C.ext) (Frame.refl (aB s.hp m) w) (hp':=(k,none)::s.hp) (m':=m) (fun k' z b' hz hb'=>.inl ⟨k',z,nP k' z hz,hb'⟩);refine⟨c,⟨(hr.heap.sep k _ b hk hm).1,?_,t,(0,0),hw⟩,hn,hl,hs,ho,fun i j e u x he hx hu=>(aE i j e u x he hx hu).mono bV (fun _ _ h=>h) (fun _ _ _ h=>h)⟩;rintro⟨k',z,hz,hb'⟩;have:=hr.heap.inj k k' _ z b hk (nP k' z hz) hm hb';subst this;rw[aq,aa2 rfl]at hz;cases hz
 have b8:∀k' z,lk (dp (AV.fz k sz es) k s.hp) k'=some z->∃y,lk ((k,none)::s.hp) k'=some y/\z=y.map (AV.fz k sz es):=by
  intro k' z hz;rw[jQ]at hz;split at hz
  ·cases hz
  ·rename_i az;simp only[ZX]at hz;obtain⟨y,hy,rfl⟩:=hz;exact⟨y,by rw[aq,aa1 az];exact hy,rfl⟩
 have nK:∀k' y,lk ((k,none)::s.hp) k'=some y->lk (dp (AV.fz k sz es) k s.hp) k'=some (y.map (AV.fz k sz es)):=by
  intro k' y hy;rw[aq]at hy;split at hy
  ·cases hy
  ·rename_i az;rw[jQ,aa1 az,hy];rfl
 have e1:aB (dp (AV.fz k sz es) k s.hp) m=aB ((k,none)::s.hp) m:=by
  funext b;apply propext;constructor
  ·rintro⟨k',z,hz,hb⟩;obtain⟨y,hy,_⟩:=b8 k' z hz;exact⟨k',y,hy,hb⟩
  ·rintro⟨k',y,hy,hb⟩;exact⟨k',_,nK k' y hy,hb⟩
 have e2:Im C.ext (dp (AV.fz k sz es) k s.hp) m w=Im C.ext ((k,none)::s.hp) m w:=by funext b cs;simp only[Im,e1]
 refine⟨?_,⟨?_,?_,?_⟩,aC.frame,?_,?_,aC.defers,aC.nt⟩
 ·intro t x hx;simp only[AS.get,mN,ZX]at hx;obtain⟨y,hy,rfl⟩:=hx;obtain⟨g1,g2⟩:=aC.slots t y hy;refine⟨g1,?_⟩;show Rep (Im C.ext (dp (AV.fz k sz es) k s.hp) m w) _ _ _ _;rw[e2];exact rG g2 hb
 ·intro k' z hz;obtain⟨y,hy,rfl⟩:=b8 k' z hz;rw[e2];have:=aC.heap.blk k' y hy;cases y with
  |row sz' es'=>exact this
  |vec vs =>
   simp only[Blk.map];generalize m k'=o at this;cases this with
   |vec hw hc h1=>exact .vec hw hc h1
  |loop=>exact this.mapLoop _ (fun _ _ _ _ h=>rG h hb)
  |box cs =>
   simp only[Blk.map];generalize m k'=o at this;cases this with
   |box hw hn h1 aE =>
    refine .box hw (by simpa using hn) ?_ ?_
    ·intro j x hx;simp only[ZZ,ZX]at hx;obtain⟨y,hy,rfl⟩:=hx;exact AV.fz_one _ _ _ _ (h1 j y hy)
    ·intro j u x hu hx;simp only[ZZ,ZX]at hx;obtain⟨y,hy,rfl⟩:=hx;exact rG (aE j u y hu hy) hb
 ·intro k1 k2 z1 z2 b g1 g2;obtain⟨y1,nO,_⟩:=b8 k1 z1 g1;obtain⟨y2,lC,_⟩:=b8 k2 z2 g2;exact aC.heap.inj k1 k2 y1 y2 b nO lC
 ·intro k' z b hz hb;obtain⟨y,hy,_⟩:=b8 k' z hz;exact aC.heap.sep k' y b hy hb
 ·intro k' z b hz hb;obtain⟨y,hy,_⟩:=b8 k' z hz;exact aC.new k' y b hy hb
 ·intro k' z k7 hz;obtain⟨y,hy,_⟩:=b8 k' z hz;exact aC.keep k' y k7 hy
mutual
def AV.rn(k d:Nat):AV->AV
  | .ms k' sz off len=>match XK k' k with
    |true=>.ms d sz off len
    |false=>.ms k' sz off len
  | .ptr k' off=>match XK k' k with
    |true=>.ptr d off
    |false=>.ptr k' off
  | .eptr k' sz i off=>match XK k' k with
    |true=>.eptr d sz i off
    |false=>.eptr k' sz i off
  | .agg cs=>.agg (AV.rns k d cs)
  | .tup cs=>.tup (AV.rns k d cs)
  | .fn f cs=>.fn f (AV.rns k d cs)
  | .opt b x=>.opt b (AV.rn k d x)
  | .yl k'=>match XK k' k with
    |true=>.yl d
    |false=>.yl k'
  | .cl f cs ds=>.cl f cs ds
  | .v x=>.v x
  | .lst sz l=>.lst sz l
  | .iptr l=>.iptr l
def AV.rns(k d:Nat):List AV->List AV
  |[]=>[]
  |x::l=>AV.rn k d x::AV.rns k d l
end
theorem AV.rns_eq(k d:Nat):∀l,AV.rns k d l=l.map (AV.rn k d)
 |[]=>rfl
 |x::l=>by simp only[AV.rns,aaz,AV.rns_eq k d l]
theorem AV.rn_one(k d:Nat)(x:AV)(h:x.one=true):(x.rn k d).one=true:=by
 cases x <;> simp only[AV.rn] <;> first |exact h |(split <;> rfl)
theorem Nk{g:Nat->Array abc->Prop}{S:Nat->Nat->Prop}{k d:Nat}{m m':Nat->Option Nat}{v:abc}{x:AV}(h:Rep g S m v x)(hd:¬x.Names d)
  (h1:m' d=m k) (h2:∀k',k'≠d->m' k'=m k'):Rep g S m' v (x.rn k d):=by
 induction h with
 |v x=>exact .v x
 |lst0 a cap sz'=>exact .lst0 a cap sz'
 |lst u hb hc hl hs ho hu hr _=>exact .lst u hb hc hl hs ho hu hr
 |iptr u hb ho hu hr _=>exact .iptr u hb ho hu hr
 | @ptr _ k' off b hm =>
  simp only[AV.rn];split
  ·rename_i hk;obtain rfl:=ZT hk;exact .ptr (h1.trans hm)
  ·exact .ptr ((h2 _ (fun e=>hd (e▸.ptr _ _))).trans hm)
 | @eptr _ k' sz i off b hm =>
  simp only[AV.rn];split
  ·rename_i hk;obtain rfl:=ZT hk;exact .eptr (h1.trans hm)
  ·exact .eptr ((h2 _ (fun e=>hd (e▸.eptr _ _ _ _))).trans hm)
 |ms0 a k' sz' off =>
  simp only[AV.rn];split <;> exact .ms0 _ _ _ _
 |cl hn hr hn' hr' _ _=>exact .cl hn hr hn' hr'
 | @yl _ k' b hm =>
  simp only[AV.rn];split
  ·rename_i hk;obtain rfl:=ZT hk;exact .yl (h1.trans hm)
  ·exact .yl ((h2 _ (fun e=>hd (e▸.yl _))).trans hm)
 | @ms _ k' sz' off len cap b hm hc hS =>
  simp only[AV.rn];split
  ·rename_i hk;obtain rfl:=ZT hk;exact .ms (h1.trans hm) hc hS
  ·exact .ms ((h2 _ (fun e=>hd (e▸.ms _ _ _ _))).trans hm) hc hS
 |opt h h' ih=>exact .opt (fun hb=>ih hb (fun hn=>hd (.opt hn)) h1 h2) h'
 |agg hn h1' hr ih =>
  simp only[AV.rn,AV.rns_eq];refine .agg (by simpa using hn) ?_ ?_
  ·intro j c hc;simp only[ZZ,ZX]at hc;obtain⟨y,hy,rfl⟩:=hc;exact AV.rn_one _ _ _ (h1' j y hy)
  ·intro j u c hu hc;simp only[ZZ,ZX]at hc;obtain⟨y,hy,rfl⟩:=hc;exact ih j u y hu hy (fun hn=>hd (.agg (ZR hy) hn)) h1 h2
 |tup hn hr ih =>
  simp only[AV.rn,AV.rns_eq];refine .tup (by simpa using hn) ?_;intro j u c hu hc;simp only[ZZ,ZX]at hc;obtain⟨y,hy,rfl⟩:=hc;exact ih j u y hu hy (fun hn=>hd (.tup (ZR hy) hn)) h1 h2
 |fn hn hr ih =>
  simp only[AV.rn,AV.rns_eq];refine .fn (by simpa using hn) ?_;intro j u c hu hc;simp only[ZZ,ZX]at hc;obtain⟨y,hy,rfl⟩:=hc;exact ih j u y hu hy (fun hn=>hd (.fn (ZR hy) hn)) h1 h2
def kT(k d:Nat)(y:Blk)(hp:Hp):Hp:=(d,some (y.map (AV.rn k d)))::dp (AV.rn k d) k hp
theorem ns{k d:Nat}{y:Blk}{hp:Hp}{k':Nat}{z:Blk}(h:lk (kT k d y hp) k'=some z) :
  ∃y',lk ((d,some y)::(k,none)::hp) k'=some y'/\z=y'.map (AV.rn k d):=by
 unfold kT at h;rw[aq]at h ⊢;split at h
 ·rename_i he;rw[aa2 he];cases h;exact⟨y,rfl,rfl⟩
 ·rename_i he;rw[aa1 he,aq];rw[jQ]at h;split at h
  ·cases h
  ·rename_i hk;rw[aa1 hk];simp only[ZX]at h;obtain⟨y',hy',rfl⟩:=h;exact⟨y',hy',rfl⟩
theorem Wk.rk{k d:Nat}{y:Blk}(hk:s.blk k=some y)(hd:s.freshB d=true):Wk s ⟨fU (AV.rn k d) s.sl,kT k d y s.hp⟩:=by
 intro C m a w hr;have hfr:=AS.fresh_of hd;have aC:=hr.rk hk hfr;refine⟨fun k'=>if k'=d then m k else m k',?_⟩
 have nK:∀k' y',lk ((d,some y)::(k,none)::s.hp) k'=some y'->lk (kT k d y s.hp) k'=some (y'.map (AV.rn k d)):=by
  intro k' y' h;unfold kT;rw[aq]at h ⊢;split at h
  ·rename_i he;rw[aa2 he];cases h;rfl
  ·rename_i he;rw[aa1 he,jQ];rw[aq]at h;split at h
   ·cases h
   ·rename_i hk';rw[aa1 hk',h];rfl
 have e1:aB (kT k d y s.hp) (fun k'=>if k'=d then m k else m k')=aB ((d,some y)::(k,none)::s.hp) (fun k'=>if k'=d then m k else m k'):=by
  funext b;apply propext;constructor
  ·rintro⟨k',z,hz,hb⟩;obtain⟨y',hy',_⟩:=ns hz;exact⟨k',y',hy',hb⟩
  ·rintro⟨k',y',hy',hb⟩;exact⟨k',_,nK k' y' hy',hb⟩
 have e2:Im C.ext (kT k d y s.hp) (fun k'=>if k'=d then m k else m k') w=Im C.ext ((d,some y)::(k,none)::s.hp) (fun k'=>if k'=d then m k else m k') w:=by
  funext b cs;simp only[Im,e1]
 have bV:=df (ext:=C.ext) (Frame.refl (aB s.hp m) w) (hp':=(d,some y)::(k,none)::s.hp) (m':=fun k'=>if k'=d then m k else m k') (by
  intro k' z b hz hb;rw[aq]at hz;split at hz
  ·rename_i he;rw[aa2 he]at hb;exact .inl ⟨k,y,hk,hb⟩
  ·rename_i he;rw[aa1 he]at hb
   rw[aq]at hz;split at hz
   ·cases hz
   ·exact .inl ⟨k',z,hz,hb⟩)
 have Au:∀v x,¬AV.Names x d->Rep (Im C.ext s.hp m w) (Sz w) m v x->Rep (Im C.ext ((d,some y)::(k,none)::s.hp) (fun k'=>if k'=d then m k else m k') w) (Sz w) (fun k'=>if k'=d then m k else m k') v (x.rn k d):=by
  intro v x hx h;exact Nk (h.mono bV (fun _ _ h=>h) (fun _ _ _ h=>h)) hx (aa2 rfl) (fun k' az=>aa1 az)
 refine⟨?_,⟨?_,?_,?_⟩,aC.frame,?_,?_,aC.defers,aC.nt⟩
 ·intro t x hx;simp only[AS.get,mN,ZX]at hx;obtain⟨z,hz,rfl⟩:=hx;obtain⟨g1,g2⟩:=hr.slots t z hz;refine⟨g1,?_⟩;show Rep (Im C.ext (kT k d y s.hp) _ w) _ _ _ _;rw[e2];exact Au _ _ (hfr.2.2.1 t z hz) g2
 ·intro k' z hz;obtain⟨y',hy',rfl⟩:=ns hz;rw[e2]
  have Av:∃k0,lk s.hp k0=some y'/\(if k'=d then m k else m k')=m k0:=by
   rw[aq]at hy';split at hy'
   ·rename_i he;cases hy';exact⟨k,hk,aa2 he⟩
   ·rename_i he;rw[aq]at hy';split at hy'
    ·cases hy'
    ·exact⟨k',hy',aa1 he⟩
  obtain⟨k0,sq,Vq⟩:=Av;rw[Vq];have hb:=hr.heap.blk k0 y' sq;have b9:=hfr.2.2.2 k0 y' sq;cases y' with
  |row sz es=>exact BlkRep.mono (w:=w) bV (fun _ _ h=>h) (fun _ _ h=>h.elim) rfl (fun _ _=>rfl) hb
  |vec vs=>exact BlkRep.mono (w:=w) bV (fun _ _ h=>h) (fun _ _ h=>h.elim) rfl (fun _ _=>rfl) hb
  |loop=>exact hb.mapLoop _ (fun t x v hx h=>Au v x (fun hn=>b9 ⟨t,x,mj hx,hn⟩) h)
  |box cs =>
   simp only[Blk.map];generalize m k0=o at hb;cases hb with
   |box hw hn h1 aE =>
    refine .box hw (by simpa using hn) ?_ ?_
    ·intro j x hx;simp only[ZZ,ZX]at hx;obtain⟨z,hz,rfl⟩:=hx;exact AV.rn_one _ _ _ (h1 j z hz)
    ·intro j u x hu hx;simp only[ZZ,ZX]at hx;obtain⟨z,hz,rfl⟩:=hx;exact Au u z (fun hn=>b9 ⟨z,ZR hz,hn⟩) (aE j u z hu hz)
 ·intro k1 k2 z1 z2 b g1 g2;obtain⟨y1,nO,_⟩:=ns g1;obtain⟨y2,lC,_⟩:=ns g2;exact aC.heap.inj k1 k2 y1 y2 b nO lC
 ·intro k' z b hz hb;obtain⟨y',hy',_⟩:=ns hz;exact aC.heap.sep k' y' b hy' hb
 ·intro k' z b hz hb;obtain⟨y',hy',_⟩:=ns hz;exact aC.new k' y' b hy' hb
 ·intro k' z k7 hz;obtain⟨y',hy',_⟩:=ns hz;exact aC.keep k' y' k7 hy'
theorem Wk.virt(d sz:Nat)(hd:s.freshB d=true):Wk s ⟨s.sl,(d,some (.row sz []))::s.hp⟩ :=
 fun C m a w hr=>⟨_,hr.virt sz (AS.fresh_of hd)⟩
theorem Sub.nM(a:Option Addr)(d sz:Nat):Sub (.v (.slice a 0 0)) (.ms d sz 0 0):=fun g S m v h=>by cases h;exact .ms0 _ _ _ _
theorem Sub.trans{x y z:AV}(h:Sub x y)(h':Sub y z):Sub x z:=fun g S m v hr=>h' g S m v (h g S m v hr)
theorem aM.keep{x:AV}{H':Hp}(h:∀k z,lk H' k=some z->lk s.hp k=some z):aM s x x H':=by
 intro ext m w v hh hext hx;have bV:=df (ext:=ext) (Frame.refl (aB s.hp m) w) (hp':=H') (m':=m) (fun k' z b hz hb=>.inl ⟨k',z,h k' z hz,hb⟩);refine⟨m,⟨?_,?_,?_⟩,fun k z b hz hb=>⟨k,z,h k z hz,hb⟩,fun k z _ hz=>⟨⟨z,h k z hz⟩,rfl⟩,hx.mono bV (fun _ _ h=>h) (fun _ _ _ h=>h)⟩
 ·intro k z hz;exact BlkRep.mono (w:=w) bV (fun _ _ h=>h) (fun _ _ _ h=>h) rfl (fun _ _=>rfl) (hh.blk k z (h k z hz))
 ·intro k k' z z' b h1 h2;exact hh.inj k k' z z' b (h _ _ h1) (h _ _ h2)
 ·intro k z b hz hb;exact hh.sep k z b (h k z hz) hb
theorem aM.sub{x r r':AV}{H':Hp}(h:aM s x r H')(hs:Sub r r'):aM s x r' H':=by
 intro ext m w v hh hext hx;obtain⟨m',h1,h2,h3,h4⟩:=h ext m w v hh hext hx;exact⟨m',h1,h2,h3,hs _ _ _ _ h4⟩
theorem aM.pure{x:AV}:aM s x x []:=.keep (fun k z h=>by cases h)
end Go.Lw
namespace Go.Lw
abbrev B:Nat:=4294967296
def val:List Nat->Nat
  |[]=>0
  |x::l=>x+4294967296*val l
def Ws(l:List Nat):Prop:=∀x∈l,x<4294967296
def ii:Nat->Nat->List Nat
  |0,_=>[]
  |f+1,n=>match n with
    |0=>[]
    |n+1=>((n+1)%4294967296)::ii f ((n+1)/4294967296)
def ofNat(n:Nat):List Nat:=ii (n.log2/32+1) n
def Nz(l:List Nat):Prop:=∀x,l.getLast?=some x->x≠0
theorem oW(a b:List Nat):val (a++b)=val a+4294967296^a.length*val b:=by
 induction a with
 |nil=>simp[val]
 |cons x a ih=>simp only[List.cons_append,val,ih,Z7,X0];grind
theorem bg(l:List Nat)(h:Ws l):val l<4294967296^l.length:=by
 induction l with
 |nil=>simp[val]
 |cons x l ih =>
  have h1:=h x (by simp);have h2:=ih (fun y hy=>h y (by simp[hy]));simp only[val,Z7,X0];omega
theorem uS(n:Nat):val (YO n 0)=0:=by
 induction n with
 |zero=>rfl
 |succ n ih=>simp[List.replicate_succ,val,ih]
theorem SO(f:Nat):ii f 0=[]:=by cases f <;> rfl
theorem zD(f n:Nat)(h:n≠0):ii (f+1) n=(n%4294967296)::ii f (n/4294967296):=by
 cases n with
 |zero=>exact aa8 rfl h
 |succ n=>rfl
theorem Dq:∀(f n:Nat),n<4294967296^f->val (ii f n)=n:=by
 intro f
 induction f with
 |zero=>intro n h;simp at h;subst h;rfl
 |succ f ih =>
  intro n h
  by_cases h0:n=0
  ·subst h0;rfl
  ·rw[zD f n h0];simp only[val];rw[ih _ (by rw[X0]at h;exact Nat.div_lt_of_lt_mul (by rw[X6];exact h))];omega
theorem JZ:∀(f n:Nat),Ws (ii f n):=by
 intro f
 induction f with
 |zero=>intro n x h;simp[ii]at h
 |succ f ih =>
  intro n
  by_cases h0:n=0
  ·subst h0;intro x h;simp[ii]at h
  ·rw[zD f n h0];intro x h;rcases aai.1 h with rfl |h
   ·omega
   ·exact ih _ x h
theorem Kl:∀(f n:Nat),n<4294967296^f->Nz (ii f n):=by
 intro f
 induction f with
 |zero=>intro n h x hx;simp[ii]at hx
 |succ f ih =>
  intro n h
  by_cases h0:n=0
  ·subst h0;intro x hx;simp[ii]at hx
  ·rw [zD f n h0];have hd:n / 4294967296 < 4294967296 ^ f:=by rw [X0] at h; exact Nat.div_lt_of_lt_mul (by rw [X6]; exact h)
   intro x hx
   by_cases h1:n/4294967296=0
   ·rw[h1,SO]at hx;simp at hx;omega
   ·have h2:=ih _ hd x;cases hq:ii f (n/4294967296)with
    |nil =>
     have:=Dq f _ hd;rw[hq]at this;simp[val]at this;omega
    |cons y ys =>
     rw[hq]at hx h2;rw[Yz]at hx;exact h2 hx
theorem Hr(n:Nat):n<4294967296^(n.log2/32+1):=by
 have h1:n<2^(n.log2+1):=Nat.lt_log2_self;have h2:(4294967296:Nat)=2^32:=by decide
 rw[h2,<- XR];exact Z9 h1 (Xt (by decide) oz)
theorem bi(n:Nat):val (ofNat n)=n:=Dq _ _ (Hr n)
theorem b7(n:Nat):Ws (ofNat n):=JZ _ _
theorem ou(n:Nat):Nz (ofNat n):=Kl _ _ (Hr n)
theorem vu{x:Nat}{l:List Nat}(h:Nz (x::l)):Nz l:=by
 intro y hy;cases l with
 |nil=>simp at hy
 |cons z l=>exact h y (by rw[Yz];exact hy)
theorem Lg:∀(a b:List Nat),Ws a->Ws b->Nz a->Nz b->val a=val b->a=b:=by
 have key:∀(l:List Nat),Nz l->val l=0->l=[]:=by
  intro l
  induction l with
  |nil=>intro _ _;rfl
  |cons x l ih =>
   intro hn hv;simp only[val]at hv;have:=ih (vu hn) oz;subst this;exact aa8 (by omega:x=0) (hn x rfl)
 intro a
 induction a with
 |nil=>intro b _ _ _ hb hv;exact(key b hb hv.symm).symm
 |cons x a ih =>
  intro b ha hb vK sa hv;cases b with
  |nil=>exact key _ vK hv
  |cons y b =>
   have h1:=ha x (by simp);have h2:=hb y (by simp);simp only[val]at hv;have:=ih b (fun z hz=>ha z (by simp[hz])) (fun z hz=>hb z (by simp[hz])) (vu vK) (vu sa) oz;subst this;rw[show x=y by omega]
theorem oO{l:List Nat}(h:Ws l)(hn:Nz l):ofNat (val l)=l :=
 Lg _ _ (b7 _) h (ou _) hn (bi _)
theorem HS{l:List Nat}{n:Nat}(h:Ws l)(hn:Nz l)(hv:val l=n):l=ofNat n:=by subst hv;exact(oO h hn).symm
theorem LW:ofNat 0=[]:=rfl
theorem mW{l:List Nat}(hn:Nz l)(h:l≠[]):0<val l:=by
 rcases XC (val l)with h0 |h0
 ·exfalso
  induction l with
  |nil=>exact h rfl
  |cons x l ih =>
   simp only[val]at h0
   by_cases hl:l=[]
   ·subst hl;exact hn x rfl oz
   ·exact ih (vu hn) hl oz
 ·exact h0
theorem dM{n k:Nat}(h:n<4294967296^k):(ofNat n).length<=k:=by
 have hv:=bi n;rcases Z2 k (ofNat n).length with hlt |hge
 ·exfalso;have az:ofNat n ≠ []:=by intro e; rw [e] at hlt; simp at hlt
  have sr:ofNat n=(ofNat n).dropLast++[(ofNat n).getLast az]:=(Yt az).symm;have nQ:(ofNat n).getLast az≠0:=ou n _ (List.getLast?_eq_some_getLast az)
  have eN:val (ofNat n)=val (ofNat n).dropLast+4294967296^(ofNat n).dropLast.length*(ofNat n).getLast az:=by
   conv=>lhs;rw[sr]
   rw[oW];simp[val]
  have a6:(ofNat n).dropLast.length=(ofNat n).length-1:=List.length_dropLast;have h1:4294967296^k<=4294967296^(ofNat n).dropLast.length:=Xt (by decide) oz;have h2:4294967296^(ofNat n).dropLast.length*1<=4294967296^(ofNat n).dropLast.length*(ofNat n).getLast az:=Z4 _ oz;omega
 ·exact hge
theorem H5{l:List Nat}{i x:Nat}(h:l[i]?=some x):val (l.take (i+1))=val (l.take i)+4294967296^i*x:=by
 have hi:i<l.length:=by
  rcases Z2 i l.length with h' |h'
  ·exact h'
  ·rw[Z5 h']at h;cases h
 rw[List.take_add_one,h,oW];simp[val,aao];rw[X7 oz]
theorem dk{l:List Nat}{i:Nat}(h:l.length<=i):val (l.take i)=val l:=by rw[aag h]
variable{P:abe}{N:Nat}{R:Array Oper}{s:AS}{pos:String}{after:Array Edge}
def wi(s:AS)(u:Out):Bool:=u.upd.all fun p=>u.rd.contains p.1||s.freshB p.1
theorem vo{u:Out}(h:wi s u=true):iI s u:=by
 intro k hk;obtain⟨p,hp,rfl⟩:=Yr.1 hk;have:=Z6.1 h p hp;simp only[aav]at this;rcases this with h |h
 ·exact .inl (by simpa using h)
 ·exact .inr (AS.fresh_of h)
theorem Ny{f:FuncId}{fn:Func}{c:Code}{rs:List ResultVar}{args:List AV}{r:AV}(hf:P.funcs[f]?=some fn)(hb:fn.body=some c)
  (hn : (fn.name == "runtime.NumGoroutine") = false) (hrs : fn.results = rs.toArray) (hN : fn.ntmps = N)
  (h:aR P N c (mo P rs r []) ⟨kz 0 args,[]⟩):gh P f args r :=
 ye hf hb hn hrs hN (fun k z h=>by cases h) h
theorem C0{x r:AV}(h:x=r):aM s (ck [x]) r []:=h▸aM.pure
theorem jD{x r:AV}(h:Sub x r):aM s (ck [x]) r []:=aM.pure.sub h
theorem LN{x y r:AV}(h:AV.tup [x,y]=r):aM s (ck [x,y]) r []:=h▸aM.pure
theorem vt{x y z r:AV}(h:AV.tup [x,y,z]=r):aM s (ck [x,y,z]) r []:=h▸aM.pure
theorem kK{x r:AV}(h:Sub x r):aM s x r []:=aM.pure.sub h
theorem dg{d:Nat}{x y:abb}{k k':IntKind}{a b c:Int}{S T t:abd}
  (hx:Ev s x (.v (.int k a))) (hy:Ev s y (.v (.int k' b))) (hb:0<=b) (hc:a.fdiv (2^(min b.toNat k.bits))=c) (hN:XU d N=true) :
  Step P N R s ⟨some d,.binOp .shr S x y T,t,pos,after,none⟩ ⟨some (.v (.int k c)),[],ae x++ae y,[]⟩:=hc▸B4 hx hy hb hN
theorem jk{d:Nat}{x y:abb}{k k':IntKind}{a b c:Int}{S T t:abd}
  (hx:Ev s x (.v (.int k a))) (hy:Ev s y (.v (.int k' b))) (hb:0<=b) (hc:k.wrap (a*2^(min b.toNat k.bits))=c) (hN:XU d N=true) :
  Step P N R s ⟨some d,.binOp .shl S x y T,t,pos,after,none⟩ ⟨some (.v (.int k c)),[],ae x++ae y,[]⟩:=hc▸Fj hx hy hb hN
theorem kt{d:Nat}{x y:abb}{k:IntKind}{a b c:Int}{S T t:abd}
  (hx:Ev s x (.v (.int k a))) (hy:Ev s y (.v (.int k b))) (hb:b≠0) (hc:k.wrap (a.tdiv b)=c) (hN:XU d N=true) :
  Step P N R s ⟨some d,.binOp .quo S x y T,t,pos,after,none⟩ ⟨some (.v (.int k c)),[],ae x++ae y,[]⟩:=hc▸Fs hx hy hb hN
theorem tP{d:Nat}{x y:abb}{k:IntKind}{a b c:Int}{S T t:abd}
  (hx:Ev s x (.v (.int k a))) (hy:Ev s y (.v (.int k b))) (hb:b≠0) (hc:a.tmod b=c) (hN:XU d N=true) :
  Step P N R s ⟨some d,.binOp .rem S x y T,t,pos,after,none⟩ ⟨some (.v (.int k c)),[],ae x++ae y,[]⟩:=hc▸G9 hx hy hb hN
theorem il{d:Nat}{op:BinOp}{x y:abb}{k:IntKind}{a b c:Int}{S T t:abd}
  (hx:Ev s x (.v (.int k a))) (hy:Ev s y (.v (.int k b))) (cQ:(match op with | .and | .or | .xor | .andNot=>true |_=>false)=true) (hc:kS op k a b=c) (hN:XU d N=true) :
  Step P N R s ⟨some d,.binOp op S x y T,t,pos,after,none⟩ ⟨some (.v (.int k c)),[],ae x++ae y,[]⟩:=hc▸Fc hx hy cQ hN
theorem bJ{x y:abb}{k sz i:Nat}{es:List AV}{e v:AV}{T t:abd}{ti:TI}
  (hx:Ev s x (.eptr k sz i 0)) (hk:s.blk k=some (.row sz es)) (he:es[i]?=some e) (gz:e.cells.length=sz) (hy:Ev s y v) (hv:v.ok=true) (hnm:v.nm=[]) (hT:ak P T=some ti)
  (aA:XK v.cells.length ti.size=true) (hs:XK ti.size sz=true) :
  Step P N R s ⟨none,.store T x y,t,pos,after,none⟩ ⟨none,[(k,some (.row sz (es.set i v)))],ae x++ae y,[k]⟩:=by
 have h1:=ZT aA;have h2:=ZT hs;refine gN hx hk he hy hv hnm hT aA (by rw[XS];omega) ?_;unfold over;rw[List.take_zero,YK,aal oz,List.append_nil]
theorem Sub.int{k:IntKind}{a b:Int}(h:a=b):Sub (.v (.int k a)) (.v (.int k b)):=h▸.refl _
theorem BlkSub.of{x y:Blk}(h:x=y):BlkSub x y:=h▸.refl _
theorem Sub.of{x y:AV}(h:x=y):Sub x y:=h▸.refl _
theorem aJ{α:Type}{l:List α}{i:Nat}(h:i<l.length):∃x,l[i]?=some x:=⟨_,ZV h⟩
theorem ao{α:Type}{f:α->AV}{l:List α}{i:Nat}{x:α}(h:l[i]?=some x):(l.map f)[i]?=some (f x):=by simp[h]
theorem J0{c:Code}{Q:Exit->AS->Prop}{t sz:Nat}{es:List AV}(ht:s.get t=some (.lst sz es))(h:es.length<=an->aR P N c Q s):aR P N c Q s:=by
 refine Uz (p:=es.length<=an) ?_ h;intro C m a w hr;obtain⟨_,h2⟩:=hr.slots t _ ht;generalize a.tmps.getD t undef=u at h2;cases h2 with
 |lst0=>exact aaf _
 |lst u hb hc hl=>exact hl
theorem gk{x y:Nat}(h:x+y<18446744073709551616):IntKind.u64.wrap (dV .add (x:Int) (y:Int))=((x+y:Nat):Int):=by
 show IntKind.u64.wrap ((x:Int)+y)=_;rw[IntWalk.u64_in _ oz];simp
theorem uc{x y:Nat}(h:x*y<18446744073709551616):IntKind.u64.wrap (dV .mul (x:Int) (y:Int))=((x*y:Nat):Int):=by
 show IntKind.u64.wrap ((x:Int)*y)=_;rw[<- Int.natCast_mul,IntWalk.u64_in _ oz]
theorem jm{x y:Nat}(hx:x<18446744073709551616)(hy:y<18446744073709551616) :
  IntKind.u64.wrap (dV .sub (x:Int) (y:Int))=((if y<=x then x-y else x+18446744073709551616-y:Nat):Int):=by
 show IntKind.u64.wrap ((x:Int)-y)=_;simp only[IntKind.wrap,IntKind.signed,IntKind.bits,Zo,if_false,Zm];split <;> omega
theorem cm(x:Nat):IntKind.u32.wrap (x:Int)=((x%4294967296:Nat):Int):=by
 simp only[IntKind.wrap,IntKind.signed,IntKind.bits,Zo,if_false,Zm];omega
theorem u64_in{x:Nat}(h:x<18446744073709551616):IntKind.u64.wrap (x:Int)=(x:Int):=IntWalk.u64_in _ oz
theorem u32_in{x:Nat}(h:x<4294967296):IntKind.u32.wrap (x:Int)=(x:Int):=IntWalk.u32_in _ oz
theorem i64_in{x:Int}(h:-9223372036854775808<=x/\x<=9223372036854775807):IntKind.i64.wrap x=x:=IntWalk.i64_in _ h
theorem fd(x n:Nat)(hn:n<=64):(x:Int).fdiv (2^(min (n:Int).toNat IntKind.u64.bits))=((x/2^n:Nat):Int):=by
 have:min (n:Int).toNat IntKind.u64.bits=n:=by simp[IntKind.bits];omega
 rw[this,YV _ (Int.le_of_lt (Int.pow_pos (by decide)))];simp
theorem bZ{x:Nat}(h:0<x)(hx:x<=an):IntKind.i64.wrap (dV .sub (x:Int) 1)=((x-1:Nat):Int):=by
 show IntKind.i64.wrap ((x:Int)-1)=_;unfold an at hx;rw[IntWalk.i64_in _ oz];omega
theorem Gm{x:Nat}(hx:x<=an):IntKind.i64.wrap (dV .add (x:Int) 1)=((x+1:Nat):Int):=by
 show IntKind.i64.wrap ((x:Int)+1)=_;unfold an at hx;rw[IntWalk.i64_in _ oz];omega
theorem aF{x:Nat}(hx:x<=an:=by unfold an;omega):IntKind.i64.wrap (dV .add (x:Int) 1)=((x+1:Nat):Int):=Gm hx
theorem eY{x y:Nat}(hx:x<=an)(hy:y<=an):IntKind.i64.wrap (dV .add (x:Int) (y:Int))=((x+y:Nat):Int):=by
 show IntKind.i64.wrap ((x:Int)+y)=_;unfold an at hx hy;rw[IntWalk.i64_in _ oz];omega
abbrev al:Nat:=1099511627776
def i64(n:Int):AV:=.v (.int .i64 n)
def u32(n:Nat):AV:=.v (.int .u32 n)
def u64(n:Nat):AV:=.v (.int .u64 n)
def bl(b:Bool):AV:=.v (.bool b)
def ws(l:List Nat):AV:=.lst 1 (l.map u32)
def ah(m:List Nat)(i:Nat):Nat:=m.getD i 0
theorem a7{m:List Nat}(h:Ws m)(i:Nat):ah m i<4294967296:=by
 unfold ah;rw[ZS];cases hi:m[i]? with
 |none=>simp
 |some x=>exact h x (ZR hi)
theorem gM{m:List Nat}{i:Nat}(h:i<m.length):m[i]?=some (ah m i):=by
 rw[ZV h,ah,ZS,ZV h];rfl
theorem o5{m:List Nat}{i:Nat}(h:m.length<=i):ah m i=0:=by
 rw[ah,ZS,Z5 h];rfl
theorem bn{m:List Nat}{i:Nat}(h:i<m.length):(m.map u32)[i]?=some (u32 (ah m i)):=ao (gM h)
theorem bY{l:List Nat}{i:Nat}:val (l.take (i+1))=val (l.take i)+4294967296^i*ah l i:=by
 rcases Z2 i l.length with h |h
 ·exact H5 (gM h)
 ·rw[o5 h,dk h,dk oz];simp
theorem oh{d:Nat}{x:abb}{sz:Nat}{α:Type}{f:α->AV}{l:List α}{T t:abd}{ti:TI}{e:Nat}
  (hx:Ev s x (.lst sz (l.map f))) (hT:ak P T=some ti) (hk:ti.k=.slice e) (hN:XU d N=true) :
  Step P N R s ⟨some d,.call ⟨.builtin .len,#[x],#[T]⟩,t,pos,after,none⟩ ⟨some (.v (.int .i64 l.length)),[],ae x,[]⟩:=by
 have:=k6 (P:=P) (R:=R) (d:=d) (t:=t) (pos:=pos) (after:=after) hx hT hk hN
 rwa [ZU]at this
theorem Ud{c:Code}{Q:Exit->AS->Prop}{α:Type}{f:α->AV}{l:List α}{t sz:Nat}(ht:s.get t=some (.lst sz (l.map f)))(h:l.length<=an->aR P N c Q s):aR P N c Q s :=
 J0 ht (fun hl=>h (by simpa using hl))
theorem uk{k sz off len:Nat}{es:List AV}(h:off+len<=es.length):AV.fz k sz es (.ms k sz off len)=.lst sz ((es.drop off).take len):=by
 have h1:Nat.ble (off+len) es.length=true:=XH h;have h2:∀n,XK n n=true:=fun n=>XP n
 simp only[AV.fz,h1,h2,Bool.and_self]
theorem bH{k sz len:Nat}{es:List AV}(h:len=es.length):AV.fz k sz es (.ms k sz 0 len)=.lst sz es:=by
 subst h;rw[uk oz,aax,aab]
theorem d9{m:List Nat}{i:Int}{n:Nat}(h:i=n)(hn:n<m.length):(m.map u32)[i.toNat]?=some (u32 (ah m n)):=by
 subst h;exact bn hn
theorem ng{α:Type}{f:α->AV}{l:List α}{i:Int}{n:Nat}{x:α}(h:i=n)(hx:l[n]?=some x):(l.map f)[i.toNat]?=some (f x):=by
 subst h;exact ao hx
theorem f6{d:Nat}{x ix:abb}{kk:IntKind}{i:Int}{k sz off len n:Nat}{T E t:abd}{ti te:TI}
  (hx:Ev s x (.ms k sz off len)) (hi:Ev s ix (.v (.int kk i))) (hT:ak P T=some ti) (hk:ti.k=.slice E) (hE:ak P E=some te) (aA:te.size=sz)
  (h0:i=(n:Int)) (he:n<len) (hN:XU d N=true) :
  Step P N R s ⟨some d,.indexAddr T x ix,t,pos,after,none⟩ ⟨some (.eptr k sz (off+n) 0),[],ae x++ae ix,[]⟩:=by
 subst h0;have:=G6 (R:=R) (t:=t) (pos:=pos) (after:=after) hx hi hT hk hE aA oz oz hN
 rwa [Int.toNat_natCast]at this
theorem Ql{a b:List Nat}{i:Nat}(ha:i<a.length)(hb:i<b.length)(h:ah a i=ah b i):a[i]=b[i]:=by
 have h1:=gM ha;have h2:=gM hb;rw[ZV ha]at h1;rw[ZV hb]at h2;rw[Option.some.inj h1,Option.some.inj h2,h]
theorem cf{x y:Int}(h:-9223372036854775808<=x+y/\x+y<=9223372036854775807):IntKind.i64.wrap (dV .add x y)=x+y:=i64_in h
theorem co{x y:Int}(h:-9223372036854775808<=x-y/\x-y<=9223372036854775807):IntKind.i64.wrap (dV .sub x y)=x-y:=i64_in h
theorem Bn{x y:Int}(h:-9223372036854775808<=x*y/\x*y<=9223372036854775807):IntKind.i64.wrap (dV .mul x y)=x*y:=i64_in h
theorem aP{d:Nat}{x ix:abb}{kk:IntKind}{i:Int}{k sz len n:Nat}{T E t:abd}{ti te:TI}
  (hx:Ev s x (.ms k sz 0 len)) (hi:Ev s ix (.v (.int kk i))) (hT:ak P T=some ti) (hk:ti.k=.slice E) (hE:ak P E=some te) (aA:te.size=sz)
  (h0:i=(n:Int)) (he:n<len) (hN:XU d N=true) :
  Step P N R s ⟨some d,.indexAddr T x ix,t,pos,after,none⟩ ⟨some (.eptr k sz n 0),[],ae x++ae ix,[]⟩:=by
 have:=f6 (R:=R) (t:=t) (pos:=pos) (after:=after) hx hi hT hk hE aA h0 he hN
 rwa [XF]at this
theorem o1{x w:Bool}(h:x=w):(x==w)=true:=by subst h;exact beq_self_eq_true x
theorem o2{c x w:Bool}(hc:c=true)(h:x=w):(c&&x==w)=true:=by subst h;subst hc;simp
theorem o3{c x w:Bool}(h:(c&&x==w)=true):c=true:=by cases c <;> simp_all
end Go.Lw
namespace Go.Lw
variable{P:abe}{N:Nat}{R:Array Oper}{s:AS}{pos:String}{after:Array Edge}
mutual
theorem AV.fz_id(k sz:Nat)(es:List AV):∀x:AV,¬x.Names k->x.fz k sz es=x
 | .ms k' sz' off len,h=>by
  have:XK k' k=false:=by
   cases hb:XK k' k
   ·rfl
   ·obtain rfl:=ZT hb;exact aa8 (AV.Names.ms _ _ _ _) h
  simp only[AV.fz,this,Zo]
 | .agg cs,h=>by simp only[AV.fz];rw[AV.fzs_id k sz es cs (fun c hc hn=>h (.agg hc hn))]
 | .tup cs,h=>by simp only[AV.fz];rw[AV.fzs_id k sz es cs (fun c hc hn=>h (.tup hc hn))]
 | .fn f cs,h=>by simp only[AV.fz];rw[AV.fzs_id k sz es cs (fun c hc hn=>h (.fn hc hn))]
 | .cl f cs ds,_=>by simp only[AV.fz]
 | .opt b x,h=>by simp only[AV.fz];rw[AV.fz_id k sz es x (fun hn=>h (.opt hn))]
 | .v x,_=>by simp only[AV.fz]
 | .lst sz l,_=>by simp only[AV.fz]
 | .iptr l,_=>by simp only[AV.fz]
 | .ptr k off,_=>by simp only[AV.fz]
 | .eptr k sz i off,_=>by simp only[AV.fz]
 | .yl k,_=>by simp only[AV.fz]
theorem AV.fzs_id(k sz:Nat)(es:List AV):∀l:List AV,(∀c∈l,¬c.Names k)->AV.fzs k sz es l=l
 |[],_=>by simp only[AV.fzs]
 |x::l,h=>by simp only[AV.fzs];rw[AV.fz_id k sz es x (h x (by simp)),AV.fzs_id k sz es l (fun c hc=>h c (by simp[hc]))]
end
theorem Ce{k sz:Nat}{es:List AV}{x:Blk}(h:¬x.Names k):x.map (AV.fz k sz es)=x:=by
 cases x with
 |row=>rfl
 |vec=>rfl
 |box cs =>
  simp only[Blk.map];congr 1;rw[<- AV.fzs_eq];exact AV.fzs_id k sz es cs (fun c hc hn=>h ⟨c,hc,hn⟩)
 |loop d st pe sl =>
  simp only[Blk.map];congr 1
  induction sl with
  |nil=>rfl
  |cons p sl ih =>
   obtain⟨t,x⟩:=p;simp only[fU];rw[ih (fun⟨t',x',h1,h2⟩=>h ⟨t',x',Z8 _ h1,h2⟩)];cases x with
   |none=>rfl
   |some x=>simp only[AV.fz_id k sz es x (fun hn=>h ⟨t,x,aaa ..,hn⟩)]
theorem N4{o:Oper}{d k sz n:Nat}{es:List AV}{rt rd:List Nat}(hd:o.dst=some d)(hn:n=es.length)(Vr:d∉rd)(eO:d≠k)
  (h:Step P N R s o ⟨some (.ms d sz 0 n),[(d,some (.row sz es)),(k,none)],rt,rd⟩):Step P N R s o ⟨some (.lst sz es),[(d,none),(k,none)],rt,rd⟩:=by
 refine⟨fun s' aj ba C m a w Q next hC hr hnext=>?_⟩
 have hfr:s'.Fresh d:=by
  rcases ba d (by simp)with h |h
  ·exact aa8 h Vr
  ·exact h
 refine h.run s' aj ba C m a w Q next hC hr (fun m' a' w' hr'=>?_);rw[hd]at hr'
 have hk:(s'.app (some d) ⟨some (.ms d sz 0 n),[(d,some (.row sz es)),(k,none)],rt,rd⟩).blk d=some (.row sz es):=by
  simp[AS.blk,AS.app,aq]
 obtain⟨m2,cP⟩:=Wk.freeze hk C m' a' w' hr';refine hnext m2 a' w' ?_;rw[hd];refine cP.congr ?_ ?_
 ·intro t;simp only[AS.get,mN,AS.app,aq];split
  ·subst hn;have e1:XK d d=true:=XP d;have e2:XK sz sz=true:=XP sz;have e3:Nat.ble (0+es.length) es.length=true:=XH oz;simp only[ZP,AV.fz,e1,e2,e3,Bool.and_self,aax,aab]
  ·cases hx:lk s'.sl t with
   |none=>rfl
   |some x=>simp only[ZP];rw[AV.fz_id _ _ _ _ (hfr.2.2.1 t x hx)]
 ·intro k';simp only[AS.blk,jQ,AS.app,List.cons_append,YK,aq]
  by_cases h1:k'=d
  ·rw[aa2 h1,aa2 h1]
  ·rw[aa1 h1,aa1 h1,aa1 h1];split
   ·rfl
   ·cases hx:lk s'.hp k' with
    |none=>rfl
    |some x=>simp only[ZP];rw[Ce (hfr.2.2.2 k' x hx)]
theorem wJ{d k sz len:Nat}{es xs:List AV}{x y:abb}{T E t:abd}{ti te:TI}
  (hx:Ev s x (.ms k sz 0 len)) (hk:s.blk k=some (.row sz es)) (a6:len=es.length) (hy:Ev s y (.lst sz xs)) (hT:ak P T=some ti) (iX:ti.k=.slice E) (hE:ak P E=some te)
  (aA:te.size=sz) (bb:(XK te.zero.length te.size&&XU 0 te.size&&XU 0 te.bytes)=true) (hb:(len+xs.length)*te.bytes<=140737488355328) (eO:XK d k=false)
  (hN:XU d N=true) :
  Step P N R s ⟨some d,.call ⟨.builtin .append,#[x,y],#[T,T]⟩,t,pos,after,none⟩
   ⟨some (.lst sz (es++xs)),[(d,none),(k,none)],ae x++ae y,[k]⟩ :=
 N4 rfl (by rw[aah,a6]) (by simpa using Ya eO) (Ya eO) (cU hx hk a6 hy hT iX hE aA bb hb eO hN)
theorem Dd{ρ:abb->abc}{d:Option Tmp}{x y:abb}{T t:abd}{w w':abf}{v:abc}
  (h:(Builtin.copy_ #[T,T] t #[ρ x,ρ y]).run P w=.ok v w') :
  (execOp ρ ⟨d,.call ⟨.builtin .copy,#[x,y],#[T,T]⟩,t,pos,after,none⟩).run P w=.ok (.value v) w':=by
 simp[execOp,resolve,invoke,builtin,h]
set_option maxHeartbeats 1000000 in
theorem JE{d k sz len:Nat}{es xs:List AV}{x y:abb}{T E t:abd}{ti te:TI}
  (hx:Ev s x (.ms k sz 0 len)) (hk:s.blk k=some (.row sz es)) (a6:len=es.length) (hy:Ev s y (.lst sz xs)) (hT:ak P T=some ti) (iX:ti.k=.slice E) (hE:ak P E=some te)
  (aA:te.size=sz) (dX:XU 0 te.size=true) (hb:xs.length<=len) (hN:XU d N=true) :
  Step P N R s ⟨some d,.call ⟨.builtin .copy,#[x,y],#[T,T]⟩,t,pos,after,none⟩
   ⟨some (.v (.int .i64 xs.length)),[(k,some (.row sz (xs++es.drop xs.length)))],ae x++ae y,[k]⟩:=by
 refine vl rfl ?_;intro s' aj ba C m a w next hC hr hnext;subst aA;subst a6
 rw[Yb]at hN dX;have de:lk s'.hp k=some (.row te.size es):=(aj.2 k (by simp)).trans hk;have hd:d<C.nt:=by omega
 have dl:=(hx.agree aj (fun _ h=>ZY.2 (.inl h))).rep hr;have kc:=(hy.agree aj (fun _ h=>ZY.2 (.inr h))).rep hr;obtain⟨dd2,h3,h4,-,hu⟩:=bX hT w;obtain rfl:=eZ (h4.trans iX);obtain⟨ll,ke⟩:∃ll,ll=es.length:=⟨_,rfl⟩
 rw[<- ke]at dl
 have Io:∀(w':abf),RelM C ⟨s'.sl,(k,some (.row te.size (xs++es.drop xs.length)))::s'.hp⟩ m a w'->next (a.put (some d) (goInt xs.length)) w':=by
  intro w' hr';refine hnext m _ _ ?_;have:=hr'.put d (.int .i64 xs.length) (some (.v (.int .i64 xs.length))) (fun z hz=>by cases hz;exact⟨Z9 hd hr'.nt,.v _⟩);simpa[AS.app,Act.put,goInt]using this
 have Ip:∀(b1 a1:Option Addr)(c1 c2 l1:Nat),a.eval x=.slice b1 l1 c1->a.eval y=.slice a1 0 c2->xs=[] ->
   (⟨some d,.call ⟨.builtin .copy,#[x,y],#[T,T]⟩,t,pos,after,none⟩:Oper).upon P a next (fun _ _ _=>False) ((execOp a.eval ⟨some d,.call ⟨.builtin .copy,#[x,y],#[T,T]⟩,t,pos,after,none⟩).run P w):=by
  intro b1 a1 c1 c2 l1 e1 e2 e3;subst e3
  have kd:(Builtin.firstCells te.size 0 (.slice a1 0 c2)).run P w=.ok #[] w:=by
   cases a1 with
   |none=>rfl
   |some a1=>exact run_firstCells_some w _ _ a1 _ _ [] (by simp) (by simp)
  have db:(Builtin.copy_ #[T,T] t #[.slice b1 l1 c1,.slice a1 0 c2]).run P w=.ok (goInt 0) w:=by
   have e0:Nat.min 0 l1=0:=Nat.zero_min _;cases b1 with
   |none=>simp[Builtin.copy_,h3,ef hE,Builtin.lenOf,e0,kd]
   |some b1=>simp[Builtin.copy_,h3,ef hE,Builtin.lenOf,e0,kd,storeCells]
  rw[Dd (ρ:=a.eval) (by rw[e1,e2];exact db)];refine Io w ?_;refine RelM.congr (s:=s') (fun t=>rfl) ?_ hr;intro k';simp only[AS.blk,aq];split
  ·subst_vars;rw[de];rfl
  ·rfl
 rcases HJ kc dX with⟨rfl,a1,cap1,gE⟩ |⟨b1,off1,cap1,cs,gE,iY,bV,Vg,lA,nJ,fF,aC⟩
 ·generalize cZ:a.eval x=u at dl;cases dl with
  |ms0 a0=>exact Ip _ _ _ _ _ cZ gE rfl
  |ms hm hc hS=>exact Ip _ _ _ _ _ cZ gE rfl
 ·obtain ⟨Vh, Vi, t1, f1, iV⟩:=bV;have dc:(cs.extract off1 (off1 + xs.length * te.size)).toList.length = xs.length * te.size:=by simp; omega
  have mv:∀(j:Nat) v,(cs.extract off1 (off1+xs.length*te.size)).toList[j]?=some v->w.cell? ((⟨b1,off1,none⟩:Addr).add j)=some v:=by
   intro j v hj;rw[gx,om iV];rw[ZM,Zz]at hj;split at hj
   ·exact hj
   ·cases hj
  have gB:∀u∈(cs.extract off1 (off1+xs.length*te.size)).toList,u.oneCell'=true:=by
   intro u hu;obtain⟨p,hp,rfl⟩:=YB.1 hu;rw[dc]at hp;have hi':p/te.size<xs.length:=by rw[XM dX];exact hp
   have he:=ZV hi';have gz:=nJ _ _ he;have cc:p%te.size<te.size:=X8 _ dX;have lw:=ZV (show p%te.size<(xs[p/te.size]).cells.length by omega);have pI:p/te.size*te.size+p%te.size=p:=by rw[X6];exact X9 _ _
   have kf:cs[off1+p/te.size*te.size+p%te.size]?=some ((cs.extract off1 (off1+xs.length*te.size)).toList[p]'oz):=by
    rw[XG,pI];simp only[Array.getElem_toList,Array.getElem_extract];exact ZC oz
   exact(aC _ _ _ _ _ he lw kf).one (fF _ _ _ _ he lw)
  generalize cZ:a.eval x=u at dl;cases dl with
  |ms0 a0=>omega
  | @ms _ _ _ _ _ cap b hm hc hS =>
   subst ke;obtain⟨c,t2,hw,hn,hl,pM,pN,is⟩:=q8 hr.heap de hm;have An:xs.length*te.size<=es.length*te.size:=aad _ hb;have kd:=run_firstCells_some (P:=P) w te.size xs.length ⟨b1,off1,none⟩ xs.length cap1 _ dc mv;have aZ:=xM (P:=P) (cs.extract off1 (off1+xs.length*te.size)).toList c w 0 0 hw (by rw[dc];omega) gB;simp only[XW]at aZ;have Vs:Nat.min xs.length es.length=xs.length:=X7 hb
   have db:(Builtin.copy_ #[T,T] t #[.slice (some ⟨b,0*te.size,none⟩) es.length cap,.slice (some ⟨b1,off1,none⟩) xs.length cap1]).run P w =
     .ok (goInt xs.length) { w with heap:=w.heap.setIfInBounds b (.cells (over c.toList 0 (cs.extract off1 (off1+xs.length*te.size)).toList).toArray t2 (0,0)) }:=by
    rw[Nat.zero_mul];generalize(cs.extract off1 (off1+xs.length*te.size)).toList=news at kd aZ ⊢;simp[Builtin.copy_,h3,ef hE,Builtin.lenOf,Vs,kd,aZ]
   rw[Dd (ρ:=a.eval) (by rw[cZ,gE];exact db)];refine Io _ ?_
   have it:(over c.toList 0 (cs.extract off1 (off1+xs.length*te.size)).toList).toArray.size=c.size:=by
    simp only[YT];rw[r5 _ _ _ (by rw[dc];simp;omega)];simp
   refine hr.write (x':=.row te.size (xs++es.drop xs.length)) de hm hw it rfl (fun g S hg hS hw'=>?_)
   have sr:∀(i:Nat)(e:AV),(xs++es.drop xs.length)[i]?=some e->(i<xs.length/\xs[i]?=some e)\/(xs.length<=i/\es[i]?=some e):=by
    intro i e he;rcases Z2 i xs.length with h |h
    ·rw[aae h]at he;exact .inl ⟨h,he⟩
    ·rw[aac h,aar,show xs.length+(i-xs.length)=i by omega]at he;exact .inr ⟨h,he⟩
   refine .row hw' ?_ (by simp;omega) ?_ ?_ ?_
   ·rw [it];have:(xs ++ es.drop xs.length).length = es.length:=by simp; omega
    rw[this];exact hn
   ·intro i e he;rcases sr i e he with⟨_,h⟩ |⟨_,h⟩
    ·exact nJ i e h
    ·exact pM i e h
   ·intro i j e z he hz;rcases sr i e he with⟨_,h⟩ |⟨_,h⟩
    ·exact fF i j e z h hz
    ·exact pN i j e z h hz
   ·intro i j e u z he hz hu;refine Rep.mono hg hS ?_ (fun _ _ _ h=>h);rw [Yf,ib _ _ _ (by rw [dc]; simp; omega),aa1 oz,dc] at hu;rcases sr i e he with ⟨hi,h⟩ | ⟨hi,h⟩
    ·have hj:j<te.size:=by
      rw[<- nJ i e h];rcases Z2 j e.cells.length with h |h
      ·exact h
      ·rw[Z5 h]at hz;cases hz
     have:=kv (sz:=te.size) hi;rw[aa2 oz,ZM,Zz,aa2 oz]at hu;exact aC i j e z u h hz (by rw[<- hu];congr 1;omega)
    ·have h9:xs.length*te.size<=i*te.size:=aad _ hi;rw[aa1 oz,ZM]at hu;exact is i j e u z h hz hu
theorem Sub.lst{sz:Nat}{es es':List AV}(hn:es.length=es'.length)(h:∀(i:Nat)(e e':AV),es[i]?=some e->es'[i]?=some e'->jF e e'):Sub (.lst sz es) (.lst sz es'):=by
 intro g S m v hv;cases hv with
 |lst0 a cap =>
  have:es'=[]:=YG (by rw[<- hn];rfl);subst this;exact .lst0 _ _ _
 | @lst _ b off cap _ _ cs u hb hc hl hs h1 hu hr =>
  have hg:∀(i:Nat)(e':AV),es'[i]?=some e'->∃e,es[i]?=some e/\jF e e':=by
   intro i e' he';obtain⟨e,he⟩:=f8 hn.symm he';exact⟨e,he,h i e e' he he'⟩
  have:=Rep.lst (g:=g) (S:=S) (m:=m) (b:=b) (off:=off) (cap:=cap) (sz:=sz) (es:=es') u hb oz oz
   (fun i e' he'=>by obtain⟨e,he,hc⟩:=hg i e' he';rw[<- hc.1];exact hs i e he)
   (fun i j e' x' he' hx'=>by
    obtain⟨e,he,hc⟩:=hg i e' he';obtain⟨x,hx⟩:=f8 hc.1.symm hx';exact(hc.2 j x x' hx hx').1)
   (fun i j e' x' he' hx'=>by
    obtain⟨e,he,hc⟩:=hg i e' he';obtain⟨x,hx⟩:=f8 hc.1.symm hx';exact hu i j e x he hx)
   (fun i j e' x' he' hx'=>by
    obtain⟨e,he,hc⟩:=hg i e' he';obtain⟨x,hx⟩:=f8 hc.1.symm hx';exact(hc.2 j x x' hx hx').2 _ _ _ _ (hr i j e x he hx))
  rwa [<- hn]at this
end Go.Lw
namespace Go.Lw
variable{P:abe}{N:Nat}{R:Array Oper}{s:AS}{pos:String}{after:Array Edge}
mutual
def AV.fb(k:Nat)(xs:List AV):AV->AV
  | .ptr k' off=>match XK k' k with
    |true=>.iptr (xs.drop off)
    |false=>.ptr k' off
  | .agg cs=>.agg (AV.fbs k xs cs)
  | .tup cs=>.tup (AV.fbs k xs cs)
  | .fn f cs=>.fn f (AV.fbs k xs cs)
  | .opt b x=>.opt b (AV.fb k xs x)
  | .v x=>.v x
  | .lst sz l=>.lst sz l
  | .iptr l=>.iptr l
  | .ms k sz off len=>.ms k sz off len
  | .eptr k sz i off=>.eptr k sz i off
  | .yl k=>.yl k
  | .cl f cs ds=>.cl f cs ds
def AV.fbs(k:Nat)(xs:List AV):List AV->List AV
  |[]=>[]
  |x::l=>AV.fb k xs x::AV.fbs k xs l
end
theorem AV.fbs_eq(k:Nat)(xs:List AV):∀l,AV.fbs k xs l=l.map (AV.fb k xs)
 |[]=>rfl
 |x::l=>by simp only[AV.fbs,aaz,AV.fbs_eq k xs l]
theorem AV.fb_one(k:Nat)(xs:List AV)(x:AV)(h:x.one=true):(x.fb k xs).one=true:=by
 cases x <;> simp only[AV.fb] <;> first |exact h |(split <;> rfl)
theorem z9{g:Nat->Array abc->Prop}{S:Nat->Nat->Prop}{k:Nat}{xs:List AV}{m:Nat->Option Nat}{v:abc}{x:AV}(h:Rep g S m v x)
  (hb:∀b,m k=some b->∃c:Array abc,g b c/\c.size=xs.length/\(∀(j:Nat)(x:AV),xs[j]?=some x->x.one=true) /\
   ∀(j:Nat)(u:abc)(x:AV),c[j]?=some u->xs[j]?=some x->Rep g S bK u x):Rep g S m v (x.fb k xs):=by
 induction h with
 |v x=>exact .v x
 |lst0 a cap sz'=>exact .lst0 a cap sz'
 |lst u hb' hc hl hs h1 hu hr _=>exact .lst u hb' hc hl hs h1 hu hr
 |iptr u hb' h1 hu hr _=>exact .iptr u hb' h1 hu hr
 |ms0 a k' sz' off=>exact .ms0 _ _ _ _
 |ms hm hc hS=>exact .ms hm hc hS
 |eptr h=>exact .eptr h
 |yl h=>exact .yl h
 |opt h h' ih=>exact .opt (fun gH=>ih gH hb) h'
 |agg hn h1 hr ih =>
  simp only[AV.fb,AV.fbs_eq];refine .agg (by simpa using hn) ?_ ?_
  ·intro j c hc;simp only[ZZ,ZX]at hc;obtain⟨y,hy,rfl⟩:=hc;exact AV.fb_one _ _ _ (h1 j y hy)
  ·intro j u c hu hc;simp only[ZZ,ZX]at hc;obtain⟨y,hy,rfl⟩:=hc;exact ih j u y hu hy hb
 |tup hn hr ih =>
  simp only[AV.fb,AV.fbs_eq];refine .tup (by simpa using hn) ?_;intro j u c hu hc;simp only[ZZ,ZX]at hc;obtain⟨y,hy,rfl⟩:=hc;exact ih j u y hu hy hb
 |fn hn hr ih =>
  simp only[AV.fb,AV.fbs_eq];refine .fn (by simpa using hn) ?_;intro j u c hu hc;simp only[ZZ,ZX]at hc;obtain⟨y,hy,rfl⟩:=hc;exact ih j u y hu hy hb
 |cl hn hr hn' hr' _ _=>exact .cl hn hr hn' hr'
 | @ptr mm k' off b hm =>
  simp only[AV.fb];split
  ·rename_i h1;obtain rfl:=ZT h1;obtain⟨c,At,aA,ho,hr⟩:=hb b hm
   have dm:∀(j:Nat)(x:AV),(xs.drop off)[j]?=some x->∃u,c[off+j]?=some u:=by
    intro j x hx;rw[aar]at hx
    have hi:off+j<xs.length:=by
     rcases Z2 (off+j) xs.length with h |h
     ·exact h
     ·rw[Z5 h]at hx;cases hx
    exact⟨_,ZC oz⟩
   refine .iptr (fun j=>c.getD (off+j) undef) At (fun j x hx=>?_) (fun j x hx=>?_) (fun j x hx=>?_)
   ·rw[aar]at hx;exact ho _ x hx
   ·obtain⟨u,hu⟩:=dm j x hx;rw[Z1,hu];rfl
   ·obtain⟨u,hu⟩:=dm j x hx;rw[aar]at hx;rw[Z1,hu];exact hr _ u x hu hx
  ·exact .ptr hm
theorem Wk.freezeB{k:Nat}{xs:List AV}(hk:s.blk k=some (.box xs))(hnm:(xs.all fun x=>x.nm.isEmpty)=true):Wk s ⟨fU (AV.fb k xs) s.sl,dp (AV.fb k xs) k s.hp⟩:=by
 intro C m a w hr;refine⟨m,?_⟩
 have nP:∀k' z,lk ((k,none)::s.hp) k'=some z->lk s.hp k'=some z:=by
  intro k' z hz;rw[aq]at hz;split at hz
  ·cases hz
  ·exact hz
 have aC:=hr.fewer nP
 have hb:∀b,m k=some b->∃c:Array abc,Im C.ext ((k,none)::s.hp) m w b c/\c.size=xs.length/\(∀(j:Nat)(x:AV),xs[j]?=some x->x.one=true) /\
   ∀(j:Nat)(u:abc)(x:AV),c[j]?=some u->xs[j]?=some x->Rep (Im C.ext ((k,none)::s.hp) m w) (Sz w) bK u x:=by
  intro b hm;obtain⟨c,t,hw,hn,ho,aE⟩:=ua hr.heap hk hm;have bV:=df (ext:=C.ext) (Frame.refl (aB s.hp m) w) (hp':=(k,none)::s.hp) (m':=m) (fun k' z b' hz hb'=>.inl ⟨k',z,nP k' z hz,hb'⟩);refine⟨c,⟨(hr.heap.sep k _ b hk hm).1,?_,t,(0,0),hw⟩,hn,ho,fun j u x hu hx=>(aE j u x hu hx).mono bV (fun _ _ h=>h) (fun k' _ hn _=>?_)⟩
  ·rintro⟨k',z,hz,hb'⟩;have:=hr.heap.inj k k' _ z b hk (nP k' z hz) hm hb';subst this;rw[aq,aa2 rfl]at hz;cases hz
  ·have h9:=Z6.1 hnm x (ZR hx);have h8:=AV.Names.mem hn;rw[List.isEmpty_iff.1 h9]at h8;cases h8
 have b8:∀k' z,lk (dp (AV.fb k xs) k s.hp) k'=some z->∃y,lk ((k,none)::s.hp) k'=some y/\z=y.map (AV.fb k xs):=by
  intro k' z hz;rw[jQ]at hz;split at hz
  ·cases hz
  ·rename_i az;simp only[ZX]at hz;obtain⟨y,hy,rfl⟩:=hz;exact⟨y,by rw[aq,aa1 az];exact hy,rfl⟩
 have nK:∀k' y,lk ((k,none)::s.hp) k'=some y->lk (dp (AV.fb k xs) k s.hp) k'=some (y.map (AV.fb k xs)):=by
  intro k' y hy;rw[aq]at hy;split at hy
  ·cases hy
  ·rename_i az;rw[jQ,aa1 az,hy];rfl
 have e1:aB (dp (AV.fb k xs) k s.hp) m=aB ((k,none)::s.hp) m:=by
  funext b;apply propext;constructor
  ·rintro⟨k',z,hz,hb⟩;obtain⟨y,hy,_⟩:=b8 k' z hz;exact⟨k',y,hy,hb⟩
  ·rintro⟨k',y,hy,hb⟩;exact⟨k',_,nK k' y hy,hb⟩
 have e2:Im C.ext (dp (AV.fb k xs) k s.hp) m w=Im C.ext ((k,none)::s.hp) m w:=by funext b cs;simp only[Im,e1]
 refine⟨?_,⟨?_,?_,?_⟩,aC.frame,?_,?_,aC.defers,aC.nt⟩
 ·intro t x hx;simp only[AS.get,mN,ZX]at hx;obtain⟨y,hy,rfl⟩:=hx;obtain⟨g1,g2⟩:=aC.slots t y hy;refine⟨g1,?_⟩;show Rep (Im C.ext (dp (AV.fb k xs) k s.hp) m w) _ _ _ _;rw[e2];exact z9 g2 hb
 ·intro k' z hz;obtain⟨y,hy,rfl⟩:=b8 k' z hz;rw[e2];have:=aC.heap.blk k' y hy;cases y with
  |row sz' es'=>exact this
  |vec vs =>
   simp only[Blk.map];generalize m k'=o at this;cases this with
   |vec hw hc h1=>exact .vec hw hc h1
  |loop=>exact this.mapLoop _ (fun _ _ _ _ h=>z9 h hb)
  |box cs =>
   simp only[Blk.map];generalize m k'=o at this;cases this with
   |box hw hn h1 aE =>
    refine .box hw (by simpa using hn) ?_ ?_
    ·intro j x hx;simp only[ZZ,ZX]at hx;obtain⟨y,hy,rfl⟩:=hx;exact AV.fb_one _ _ _ (h1 j y hy)
    ·intro j u x hu hx;simp only[ZZ,ZX]at hx;obtain⟨y,hy,rfl⟩:=hx;exact z9 (aE j u y hu hy) hb
 ·intro k1 k2 z1 z2 b g1 g2;obtain⟨y1,nO,_⟩:=b8 k1 z1 g1;obtain⟨y2,lC,_⟩:=b8 k2 z2 g2;exact aC.heap.inj k1 k2 y1 y2 b nO lC
 ·intro k' z b hz hb;obtain⟨y,hy,_⟩:=b8 k' z hz;exact aC.heap.sep k' y b hy hb
 ·intro k' z b hz hb;obtain⟨y,hy,_⟩:=b8 k' z hz;exact aC.new k' y b hy hb
 ·intro k' z k7 hz;obtain⟨y,hy,_⟩:=b8 k' z hz;exact aC.keep k' y k7 hy
theorem QU{d:Nat}{x:abb}{u:abc}{T S t:abd}{ti:TI}{k:IntKind}(hx:Ev s x (.v (.iface T u)))
  (hT:ak P T=some ti) (hk:ti.k=.int k) (hN:XU d N=true) :
  Step P N R s ⟨some d,.typeAssert x S T true,t,pos,after,none⟩ ⟨some (.tup [.v u,.v (.bool true)]),[],ae x,[]⟩ :=
 bA rfl rfl hN fun s' aj C m a w hr=>by
  have h:=(hx.agree aj (fun _ h=>h)).rep hr;generalize hu:a.eval x=y at h;cases h;obtain⟨d2,h3,h4,-,-⟩:=bX hT w;obtain rfl:=BA (h4.trans hk);refine⟨.tuple #[u,.bool true],by simp[execOp,hu,Instr.typeAssert,h3],.tup rfl ?_⟩;intro j v c hv hc
  match j,hv,hc with
  |0,hv,hc=>cases hv;cases hc;exact .v _
  |1,hv,hc=>cases hv;cases hc;exact .v _
def qF(P:abe)(t:abd):Bool:=match P.underlying t with |some (.int .i64)=>true |_=>false
theorem zO{P:abe}{t:abd}(h:qF P t=true):P.underlying t=some (.int .i64):=by
 unfold qF at h;split at h
 ·assumption
 ·cases h
def vn(P:abe)(T:abd):Bool:=match P.underlying T with
  |some (.struct fs)=>(match fs.toList with
    | [f, g] => f.name != "_" && g.name != "_" && XK f.offset 0 && XK g.offset 1 && qF P f.type && qF P g.type
    |_=>false)&&!P.stoodInHeld T&&!P.eqGuardType P.depth T
  |_=>false
theorem Ke{P:abe}{T:abd}(h:vn P T=true)(w:abf)(a b c d:Int) :
  (Op.equalIn 10000 T (.agg #[.int .i64 a,.int .i64 b]) (.agg #[.int .i64 c,.int .i64 d])).run P w=.ok (a==c&&b==d) w/\P.eqGuardType P.depth T=false:=by
 unfold vn at h;split at h
 ·rename_i fs hu;rw[ZW,ZW]at h;obtain⟨⟨h,h1⟩,h2⟩:=h;split at h
  ·rename_i f g Vt;simp only [ZW] at h;obtain ⟨⟨⟨⟨⟨g1,g2⟩,g3⟩,g4⟩,g5⟩,g6⟩:=h;have hF:P.fieldsOf T = fs:=by unfold Program.fieldsOf; rw [hu]
   have hs:P.stoodInHeld T=false:=by simpa using h1
   refine ⟨?_,by simpa using h2⟩;have u5:=zO g5;have u6:=zO g6;have o3:=ZT g3;have o4:=ZT g4;have n1 : f.name ≠ "_" := by simpa using g1
   have n2 : g.name ≠ "_" := by simpa using g2
   rw[run_equalIn_struct w 9999 T _ _ (by rw[hF];exact hu) hs,hF,Vt]
   have e1:∀(x:Int)(y:Int),(part f.type #[.int .i64 x,.int .i64 y] f.offset).run P w=.ok (.int .i64 x) w:=by
    intro x y;simp[part,isAgg,run_underlying u5,o3]
   have e2:∀(x:Int)(y:Int),(part g.type #[.int .i64 x,.int .i64 y] g.offset).run P w=.ok (.int .i64 y) w:=by
    intro x y;simp[part,isAgg,run_underlying u6,o4]
   have e3:∀(x y:Int),(Op.equalIn 9999 f.type (.int .i64 x) (.int .i64 y)).run P w=.ok (x==y) w:=fun x y=>run_equalIn_int w 9998 f.type .i64 .i64 x y u5
   have e4:∀(x y:Int),(Op.equalIn 9999 g.type (.int .i64 x) (.int .i64 y)).run P w=.ok (x==y) w:=fun x y=>run_equalIn_int w 9998 g.type .i64 .i64 x y u6
   simp only[Op.eqFields,n1,n2,ne_eq,not_false_eq_true,if_true,abh,e1,e2,e3,e4,abg,Sem.run_ite];cases(a==c) <;> cases(b==d) <;> simp
  ·cases h
 ·cases h
theorem LR{d:Nat}{x y:abb}{a b c e:Int}{S T t:abd}(hx:Ev s x (.agg [.v (.int .i64 a),.v (.int .i64 b)]))(hy:Ev s y (.agg [.v (.int .i64 c),.v (.int .i64 e)]))
  (hS:vn P S=true) (hN:XU d N=true) :
  Step P N R s ⟨some d,.binOp .eql S x y T,t,pos,after,none⟩ ⟨some (.v (.bool (a==c&&b==e))),[],ae x++ae y,[]⟩ :=
 bA rfl rfl hN fun s' aj C m ac w hr=>⟨.bool (a==c&&b==e),by
  have h:=(hx.agree aj (fun _ h=>ZY.2 (.inl h))).rep hr;have h':=(hy.agree aj (fun _ h=>ZY.2 (.inr h))).rep hr
  have pair:∀{v:abc}{p q:Int},Rep (Im C.ext s'.hp m w) (Sz w) m v (.agg [.v (.int .i64 p),.v (.int .i64 q)])->v=.agg #[.int .i64 p,.int .i64 q]:=by
   intro v p q hv;cases hv with
   | @agg _ vs _ hn h1 aE =>
    have i0:0<vs.size:=by rw[hn];simp
    have i1:1<vs.size:=by rw[hn];simp
    have r0:=aE 0 vs[0] _ (by simp[i0]) rfl;have r1:=aE 1 vs[1] _ (by simp[i1]) rfl;generalize bb:vs[0]=z0 at r0;generalize dX:vs[1]=z1 at r1;cases r0;cases r1
    congr 1;refine Array.ext (by rw[hn];rfl) (fun i hi _=>?_)
    match i,hi with
    |0,_=>exact bb
    |1,_=>exact dX
    |i+2,hi=>rw[hn]at hi;simp at hi;omega
  have hu:=pair h;have hv:=pair h';obtain⟨r1,r2⟩:=Ke hS w a b c e;simp only[execOp,hu,hv,abh,run_eqGuard_agg w .eql S x y _ _ r2,abg,run_eql_struct,r1,abi],.v _⟩
theorem Qr{d n e:Nat}{x y:abb}{kk:IntKind}{i:Int}{k off sz:Nat}{T t:abd}{ti te:TI}(hx:Ev s x (.ptr k off))(hi:Ev s y (.v (.int kk i)))
  (hT:ak P T=some ti) (hk:ti.k=.array n e) (hE:ak P e=some te) (aA:te.size=sz) (h0:0<=i) (he:i<(n:Int)) (hN:XU d N=true) :
  Step P N R s ⟨some d,.indexAddr T x y,t,pos,after,none⟩ ⟨some (.ptr k (off+i.toNat*sz)),[],ae x++ae y,[]⟩ :=
 bA rfl rfl hN fun s' aj C m a w hr=>by
  obtain⟨b,hm,hv⟩:=pw hr (hx.agree aj (fun _ h=>ZY.2 (.inl h)));have r7:=kR hr (hi.agree aj (fun _ h=>ZY.2 (.inr h)));obtain⟨d2,h2,h3,-,-⟩:=bX hT w;obtain rfl:=Ou (h3.trans hk);subst aA;refine⟨.pointer (some ⟨b,off+i.toNat*te.size,none⟩),?_,.ptr hm⟩;simp[execOp,hv,r7,Instr.indexAt,Instr.sureAddr,asIntOf,h2,h0,he,ef hE,gx]
end Go.Lw
namespace Go.Lw
theorem SlW.k {sl l : aX} {x y : AV} {t : Nat} (hl : SlW sl l) (h : lk sl t = some y := by exact rfl)
  (hs:Sub y x:=by first |exact Sub.refl _ |exact Sub.nil _ _ _ |exact Sub.nM _ _ _ |exact Sub.int oz):SlW sl ((t,some x)::l):=.cons h hs hl
open Go.Proofs
abbrev FP(f:FuncId)(a:List AV)(r:AV):Prop:=gh prog f a r
theorem R9:prog.follows .mixedOrders=true:=by kernel_rfl
theorem T3:ak prog 3=some ⟨1,8,[.int .i64 0],.int .i64,[]⟩:=by kernel_rfl
theorem T4:ak prog 4=some ⟨1,1,[.bool false],.bool,[]⟩:=by kernel_rfl
theorem T5:ak prog 5=some ⟨1,1,[.int .u8 0],.int .u8,[]⟩:=by kernel_rfl
theorem T9:ak prog 9=some ⟨1,16,[.string ⟨#[]⟩],.string,[]⟩:=by kernel_rfl
theorem T22:ak prog 22=some ⟨1,24,[.slice none 0 0],.slice 142,[]⟩:=by kernel_rfl
theorem T24:ak prog 24=some ⟨3,56,[.bool false,.slice none 0 0,.slice none 0 0],.struct,[(0,1),(1,1),(2,1)]⟩:=by kernel_rfl
theorem T25:ak prog 25=some ⟨1,24,[.slice none 0 0],.slice 24,[]⟩:=by kernel_rfl
theorem T26:ak prog 26=some ⟨1,24,[.slice none 0 0],.slice 35,[]⟩:=by kernel_rfl
theorem T28:ak prog 28=some ⟨2,48,[.slice none 0 0,.slice none 0 0],.struct,[(0,1),(1,1)]⟩:=by kernel_rfl
theorem T30:ak prog 30=some ⟨5,104,[.bool false,.slice none 0 0,.slice none 0 0,.slice none 0 0,.slice none 0 0],.struct,[(0,3),(3,2)]⟩:=by kernel_rfl
theorem T35:ak prog 35=some ⟨1,24,[.slice none 0 0],.slice 24,[]⟩:=by kernel_rfl
theorem T36:ak prog 36=some ⟨1,24,[.slice none 0 0],.slice 47,[]⟩:=by kernel_rfl
theorem T38:ak prog 38=some ⟨1,16,[.nilIface],.iface 1,[]⟩:=by kernel_rfl
theorem T47:ak prog 47=some ⟨6,112,[.bool false,.slice none 0 0,.slice none 0 0,.bool false,.slice none 0 0,.slice none 0 0],.struct,[(0,3),(3,3)]⟩:=by kernel_rfl
theorem T51:ak prog 51=some ⟨6,112,[.bool false,.slice none 0 0,.slice none 0 0,.bool false,.slice none 0 0,.slice none 0 0],.struct,[(0,3),(3,3)]⟩:=by kernel_rfl
theorem T55:ak prog 55=some ⟨1,8,[.int .i64 0],.int .i64,[]⟩:=by kernel_rfl
theorem T59:ak prog 59=some ⟨1,24,[.slice none 0 0],.slice 124,[]⟩:=by kernel_rfl
theorem T60:ak prog 60=some ⟨1,24,[.slice none 0 0],.slice 126,[]⟩:=by kernel_rfl
theorem T61:ak prog 61=some ⟨1,24,[.slice none 0 0],.slice 128,[]⟩:=by kernel_rfl
theorem T63:ak prog 63=some ⟨4,88,[.string ⟨#[]⟩,.slice none 0 0,.slice none 0 0,.slice none 0 0],.struct,[(0,1),(1,1),(2,1),(3,1)]⟩:=by kernel_rfl
theorem T66:ak prog 66=some ⟨18,336,[.bool false,.slice none 0 0,.slice none 0 0,.bool false,.slice none 0 0,.slice none 0 0,.bool false,.slice none 0 0,.slice none 0 0,.bool false,.slice none 0 0,.slice none 0 0,.bool false,.slice none 0 0,.slice none 0 0,.bool false,.slice none 0 0,.slice none 0 0],.struct,[(0,3),(3,3),(6,3),(9,3),(12,3),(15,3)]⟩:=by kernel_rfl
theorem T68:ak prog 68=some ⟨4,64,[.bool false,.slice none 0 0,.slice none 0 0,.bool false],.struct,[(0,3),(3,1)]⟩:=by kernel_rfl
theorem T69:ak prog 69=some ⟨1,24,[.slice none 0 0],.slice 68,[]⟩:=by kernel_rfl
theorem T70:ak prog 70=some ⟨1,24,[.slice none 0 0],.slice 83,[]⟩:=by kernel_rfl
theorem T74:ak prog 74=some ⟨2,16,[.int .i64 0,.int .i64 0],.struct,[(0,1),(1,1)]⟩:=by kernel_rfl
theorem T77:ak prog 77=some ⟨1,24,[.slice none 0 0],.slice 188,[]⟩:=by kernel_rfl
theorem T79:ak prog 79=some ⟨1,24,[.slice none 0 0],.struct,[(0,1)]⟩:=by kernel_rfl
theorem T80:ak prog 80=some ⟨1,24,[.slice none 0 0],.slice 191,[]⟩:=by kernel_rfl
theorem T81:ak prog 81=some ⟨1,24,[.slice none 0 0],.slice 3,[]⟩:=by kernel_rfl
theorem T83:ak prog 83=some ⟨3,72,[.slice none 0 0,.slice none 0 0,.slice none 0 0],.struct,[(0,1),(1,1),(2,1)]⟩:=by kernel_rfl
theorem T86:ak prog 86=some ⟨2,32,[.bool false,.slice none 0 0],.struct,[(0,1),(1,1)]⟩:=by kernel_rfl
theorem T114:ak prog 114=some ⟨1,24,[.slice none 0 0],.slice 55,[]⟩:=by kernel_rfl
theorem T120:ak prog 120=some ⟨7,128,[.string ⟨#[]⟩,.bool false,.slice none 0 0,.slice none 0 0,.bool false,.slice none 0 0,.slice none 0 0],.struct,[(0,1),(1,3),(4,3)]⟩:=by kernel_rfl
theorem T122:ak prog 122=some ⟨1,24,[.slice none 0 0],.slice 120,[]⟩:=by kernel_rfl
theorem T124:ak prog 124=some ⟨2,40,[.string ⟨#[]⟩,.slice none 0 0],.struct,[(0,1),(1,1)]⟩:=by kernel_rfl
theorem T126:ak prog 126=some ⟨7,64,[.string ⟨#[]⟩,.int .i64 0,.int .i64 0,.int .i64 0,.int .i64 0,.int .i64 0,.int .i64 0],.struct,[(0,1),(1,1),(2,1),(3,1),(4,1),(5,1),(6,1)]⟩:=by kernel_rfl
theorem T128:ak prog 128=some ⟨2,24,[.string ⟨#[]⟩,.int .i64 0],.struct,[(0,1),(1,1)]⟩:=by kernel_rfl
theorem T134:ak prog 134=some ⟨1,24,[.slice none 0 0],.slice 180,[]⟩:=by kernel_rfl
theorem T135:ak prog 135=some ⟨1,8,[.nilFunc],.other,[]⟩:=by kernel_rfl
theorem T137:ak prog 137=some ⟨9,176,[.string ⟨#[]⟩,.slice none 0 0,.slice none 0 0,.slice none 0 0,.slice none 0 0,.slice none 0 0,.nilFunc,.bool false,.slice none 0 0],.struct,[(0,4),(4,1),(5,1),(6,1),(7,1),(8,1)]⟩:=by kernel_rfl
theorem T142:ak prog 142=some ⟨1,4,[.int .u32 0],.int .u32,[]⟩:=by kernel_rfl
theorem T154:ak prog 154=some ⟨1,8,[.int .u64 0],.int .u64,[]⟩:=by kernel_rfl
theorem T159:ak prog 159=some ⟨1,24,[.slice none 0 0],.slice 36,[]⟩:=by kernel_rfl
theorem T175:ak prog 175=some ⟨1,8,[.int .u64 0],.int .u64,[]⟩:=by kernel_rfl
theorem T180:ak prog 180=some ⟨4,64,[.int .i64 0,.slice none 0 0,.slice none 0 0,.int .i64 0],.struct,[(0,1),(1,1),(2,1),(3,1)]⟩:=by kernel_rfl
theorem T181:ak prog 181=some ⟨1,24,[.slice none 0 0],.slice 186,[]⟩:=by kernel_rfl
theorem T186:ak prog 186=some ⟨3,56,[.slice none 0 0,.slice none 0 0,.int .i64 0],.struct,[(0,1),(1,1),(2,1)]⟩:=by kernel_rfl
theorem T188:ak prog 188=some ⟨1,24,[.slice none 0 0],.slice 24,[]⟩:=by kernel_rfl
theorem T191:ak prog 191=some ⟨4,96,[.slice none 0 0,.slice none 0 0,.slice none 0 0,.slice none 0 0],.struct,[(0,1),(1,1),(2,1),(3,1)]⟩:=by kernel_rfl
theorem T214:ak prog 214=some ⟨1,8,[.int .i64 0],.int .i64,[]⟩:=by kernel_rfl
theorem T230:ak prog 230=some ⟨1,8,[.pointer none],.pointer 236,[]⟩:=by kernel_rfl
theorem T234:ak prog 234=some ⟨1,24,[.slice none 0 0],.slice 4,[]⟩:=by kernel_rfl
theorem T236:ak prog 236=some ⟨8,184,[.string ⟨#[]⟩,.slice none 0 0,.slice none 0 0,.slice none 0 0,.slice none 0 0,.slice none 0 0,.slice none 0 0,.slice none 0 0],.struct,[(0,4),(4,1),(5,1),(6,1),(7,1)]⟩:=by kernel_rfl
theorem T243:ak prog 243=some ⟨12,240,[.string ⟨#[]⟩,.slice none 0 0,.slice none 0 0,.slice none 0 0,.int .i64 0,.slice none 0 0,.slice none 0 0,.int .i64 0,.slice none 0 0,.slice none 0 0,.slice none 0 0,.nilIface],.struct,[(0,4),(4,4),(8,3),(11,1)]⟩:=by kernel_rfl
theorem T253:ak prog 253=some ⟨2,48,[.slice none 0 0,.slice none 0 0],.struct,[(0,1),(1,1)]⟩:=by kernel_rfl
theorem T264:ak prog 264=some ⟨1,8,[.int .u64 0],.int .u64,[]⟩:=by kernel_rfl
theorem T282:ak prog 282=some ⟨6,112,[.bool false,.slice none 0 0,.slice none 0 0,.bool false,.slice none 0 0,.slice none 0 0],.struct,[(0,3),(3,3)]⟩:=by kernel_rfl
theorem T287:ak prog 287=some ⟨2,40,[.slice none 0 0,.nilIface],.struct,[(0,1),(1,1)]⟩:=by kernel_rfl
theorem T292:ak prog 292=some ⟨14,272,[.bool false,.slice none 0 0,.slice none 0 0,.bool false,.slice none 0 0,.slice none 0 0,.slice none 0 0,.slice none 0 0,.bool false,.slice none 0 0,.slice none 0 0,.bool false,.slice none 0 0,.slice none 0 0],.struct,[(0,6),(6,2),(8,6)]⟩:=by kernel_rfl
theorem T297:ak prog 297=some ⟨1,24,[.slice none 0 0],.slice 253,[]⟩:=by kernel_rfl
theorem T299:ak prog 299=some ⟨2,48,[.slice none 0 0,.slice none 0 0],.struct,[(0,1),(1,1)]⟩:=by kernel_rfl
theorem T303:ak prog 303=some ⟨3,72,[.slice none 0 0,.slice none 0 0,.slice none 0 0],.struct,[(0,2),(2,1)]⟩:=by kernel_rfl
theorem T310:ak prog 310=some ⟨19,392,[.bool false,.slice none 0 0,.slice none 0 0,.bool false,.slice none 0 0,.slice none 0 0,.slice none 0 0,.slice none 0 0,.bool false,.slice none 0 0,.slice none 0 0,.bool false,.slice none 0 0,.slice none 0 0,.slice none 0 0,.slice none 0 0,.slice none 0 0,.slice none 0 0,.slice none 0 0],.struct,[(0,6),(6,2),(8,6),(14,1),(15,1),(16,1),(17,2)]⟩:=by kernel_rfl
theorem T334:ak prog 334=some ⟨2,40,[.slice none 0 0,.nilIface],.struct,[(0,1),(1,1)]⟩:=by kernel_rfl
theorem T351:ak prog 351=some ⟨1,24,[.slice none 0 0],.slice 282,[]⟩:=by kernel_rfl
theorem T358:ak prog 358=some ⟨2,40,[.slice none 0 0,.nilIface],.struct,[(0,1),(1,1)]⟩:=by kernel_rfl
theorem T365:ak prog 365=some ⟨1,24,[.slice none 0 0],.slice 292,[]⟩:=by kernel_rfl
theorem T378:ak prog 378=some ⟨1,8,[.nilFunc],.other,[]⟩:=by kernel_rfl
theorem T386:ak prog 386=some ⟨1,24,[.slice none 0 0],.slice 303,[]⟩:=by kernel_rfl
theorem o9{k:Nat}{x:Blk}{m:Nat->Option Nat}{b:Nat}:aB [(k,some x)] m b↔m k=some b:=by
 constructor
 ·rintro⟨k',y,hy,hb⟩;rw[aq]at hy;split at hy
  ·rename_i e;rw[<- e]at *;exact hb
  ·cases hy
 ·intro h;exact⟨k,x,by rw[aq,aa2 rfl],h⟩
theorem kA{k k':Nat}{x:Option Blk}{z:Blk}(h:lk [(k,x)] k'=some z):k'=k/\x=some z:=by
 rw[aq]at h;split at h
 ·rename_i e;exact⟨e,h⟩
 ·cases h
theorem rz{ext:Nat->Prop}{k d:Nat}{x y:Blk}{m m2:Nat->Option Nat}{w:abf}(h:m2 d=m k):Im ext [(d,some y)] m2 w=Im ext [(k,some x)] m w:=by
 funext b cs;apply propext;have:aB [(d,some y)] m2 b↔aB [(k,some x)] m b:=by rw[o9,o9,h]
 simp only[Im,this]
theorem uo{ext:Nat->Prop}{k d sz:Nat}{es:List AV}{m m2:Nat->Option Nat}{w:abf}(h:m2 d=m k)(hr:HeapRel ext [(k,some (.row sz es))] m w):HeapRel ext [(d,some (.row sz es))] m2 w:=by
 refine⟨?_,?_,?_⟩
 ·intro k' z hz;obtain⟨rfl,h9⟩:=kA hz;cases h9;have h1:=hr.blk k _ (by rw[aq,aa2 rfl]);rw[rz h (y:=.row sz es) (x:=.row sz es)];exact BlkRep.mono (w:=w) (fun _ _ h=>h) (fun _ _ h=>h) (fun _ _ hn=>hn.elim) h (fun _ _=>rfl) h1
 ·intro k1 k2 z z' b h1 h2 _ _;rw[(kA h1).1,(kA h2).1]
 ·intro k' z b hz hb;obtain⟨rfl,h9⟩:=kA hz;cases h9;exact hr.sep k _ b (by rw[aq,aa2 rfl]) (h▸hb)
mutual
def AV.sc:AV->Bool
  | .v _=>true
  | .agg cs=>AV.scs cs
  | .tup cs=>AV.scs cs
  |_=>false
def AV.scs:List AV->Bool
  |[]=>true
  |x::l=>x.sc&&AV.scs l
end
theorem AV.scs_mem:∀{l:List AV}{c:AV},AV.scs l=true->c∈l->c.sc=true
 |x::l,c,h,hc=>by
  simp only[AV.scs,ZW]at h;rcases aai.1 hc with rfl |hc
  ·exact h.1
  ·exact AV.scs_mem h.2 hc
theorem x8{g g':Nat->Array abc->Prop}{S S':Nat->Nat->Prop}{m m':Nat->Option Nat}{v:abc}{x:AV}(hx:x.sc=true)(h:Rep g S m v x):Rep g' S' m' v x:=by
 induction h with
 |v=>exact .v _
 |agg hn h1 hr ih=>exact .agg hn h1 (fun j u c hu hc=>ih j u c hu hc (AV.scs_mem hx (ZR hc)))
 |tup hn hr ih=>exact .tup hn (fun j u c hu hc=>ih j u c hu hc (AV.scs_mem hx (ZR hc)))
 |_=>cases hx
def Blk.sc:Blk->Bool
  | .row _ es=>es.all fun e=>e.cells.all AV.sc
  | .box cs=>cs.all AV.sc
  | .loop _ _ _ _=>false
  | .vec _=>true
theorem K7{g g':Nat->Array abc->Prop}{S S':Nat->Nat->Prop}{m m':Nat->Option Nat}{w:abf}{o:Option Nat}{x:Blk}(hx:x.sc=true)(h:BlkRep g S m w o x):BlkRep g' S' m' w o x:=by
 cases h with
 |none=>exact .none _
 |box hw hn h1 hr =>
  refine .box hw hn h1 (fun j u x hu hc=>x8 ?_ (hr j u x hu hc));exact Z6.1 hx x (ZR hc)
 |row hw hn hl hs h1 hr =>
  refine .row hw hn hl hs h1 (fun i j e u x he hc hu=>x8 ?_ (hr i j e u x he hc hu));exact Z6.1 (Z6.1 hx e (ZR he)) x (ZR hc)
 |loop=>cases hx
 |vec hw hc h1=>exact .vec hw hc h1
theorem tX{g:Nat->Array abc->Prop}{S:Nat->Nat->Prop}{m m':Nat->Option Nat}{v:abc}{x:AV}(hx:x.nm=[])(h:Rep g S m v x):Rep g S m' v x :=
 h.mono (fun _ _ h=>h) (fun _ _ h=>h) (fun k b hk=>by have:=hk.mem;rw[hx]at this;cases this)
theorem Con.rk{P:abe}{f:FuncId}{k sz off len:Nat}{xs es es':List AV}{r:AV}(d:Nat)(kj:(xs.all fun x=>x.nm.isEmpty)=true)(hr:r.nm=[])
  (h:Con P f (.ms k sz off len::xs) [(k,some (.row sz es))] r [(k,some (.row sz es'))]):Con P f (.ms d sz off len::xs) [(d,some (.row sz es))] r [(d,some (.row sz es'))]:=by
 refine⟨h.ok,?_⟩;intro ext m w vs hext bw cM dP
 have h1 := h.ret ext (fun _ => m d) w vs hext (uo (k := d) rfl bw) (by simpa using cM) (by
  intro j v x hv hx;rw[rz (d:=k) (k:=d) (y:=.row sz es) (x:=.row sz es) (m2:=fun _=>m d) (m:=m) rfl]
  match j,hx with
  |0,hx =>
   cases hx;have h2:=dP 0 v _ hv rfl;cases h2 with
   |ms0 a=>exact .ms0 a _ _ _
   |ms hm hc hS=>exact .ms hm hc hS
  |j+1,hx =>
   have h2:=dP (j+1) v x hv hx;refine tX ?_ h2;have:=Z6.1 kj x (ZR hx);simpa using this)
 refine Calls.mono h1 ?_;rintro e w' ⟨v,m',rfl,hf,hh,hn,hk,aE⟩
 have ho:aB [(k,some (Blk.row sz es))] (fun _=>m d)=aB [(d,some (Blk.row sz es))] m:=by
  funext b;apply propext;rw[o9,o9]
 refine⟨v,fun _=>m' k,rfl,ho▸hf,uo (k:=k) rfl hh,?_,?_,?_⟩
 ·intro k' x b hx hb;rw[<- ho];exact hn k _ b (by rw[aq,aa2 rfl]) hb
 ·intro k' x y hx hy;obtain⟨rfl,_⟩:=kA hx;exact hk k _ _ (by rw[aq,aa2 rfl]) (by rw[aq,aa2 rfl])
 ·rw[rz (d:=d) (k:=k) (y:=.row sz es') (x:=.row sz es') (m2:=fun _=>m' k) (m:=m') rfl];exact tX hr aE
theorem Con.borrowF{P:abe}{f:FuncId}{args args':List AV}{H H':Hp}{r:AV}(k sz:Nat)(es:List AV)(hk:lk H k=none)(hk':lk H' k=none)(hl:args'.length=args.length)
  (mz:∀(j:Nat)(x':AV),args'[j]?=some x'->args[j]?=some x'\/args[j]?=some (x'.fz k sz es))
  (hr:r.sc=true) (hH':∀k' x,lk H' k'=some x->x.sc=true) (h:Con P f args H r H') :
  Con P f args' ((k,some (.row sz es))::H) r ((k,some (.row sz es))::H'):=by
 refine⟨h.ok,?_⟩;intro ext m w vs hext bw cM dP
 have ka:∀k' z,lk H k'=some z->lk ((k,some (.row sz es))::H) k'=some z:=by
  intro k' z hz;rw[aq];split
  ·rename_i e;rw[e,hk]at hz;cases hz
  ·exact hz
 have Aw:∀b,aB H m b->aB ((k,some (.row sz es))::H) m b:=fun b ⟨k',z,h1,h2⟩=>⟨k',z,ka k' z h1,h2⟩
 have bV:∀b cs,Im ext ((k,some (.row sz es))::H) m w b cs->Im ext H m w b cs:=fun b cs ⟨h1,h2,h3⟩=>⟨h1,fun h'=>h2 (Aw b h'),h3⟩
 have Vu:HeapRel ext H m w:=by
  refine⟨?_,?_,?_⟩
  ·intro k' z hz;exact BlkRep.mono (w:=w) bV (fun _ _ h=>h) (fun _ _ _ h=>h) rfl (fun _ _=>rfl) (bw.blk k' z (ka k' z hz))
  ·intro k1 k2 z z' b h1 h2;exact bw.inj k1 k2 z z' b (ka _ _ h1) (ka _ _ h2)
  ·intro k' z b hz;exact bw.sep k' z b (ka _ _ hz)
 have de:lk ((k,some (Blk.row sz es))::H) k=some (.row sz es):=by rw[aq,aa2 rfl]
 have j9:=bw.blk k _ de
 have Ax:∀b,m k=some b->¬aB H m b:=by
  rintro b hb ⟨k',z,hz,hb'⟩;have:=bw.inj k k' _ _ b de (ka _ _ hz) hb hb';subst this;rw[hk]at hz;cases hz
 have h1 := h.ret ext m w vs hext Vu (by rw [cM, hl]) (by
  intro j v x hv hx
  have hj:j<args'.length:=by
   rw[hl];rcases Z2 j args.length with h |h
   ·exact h
   ·rw[Z5 h]at hx;cases hx
  have hx':=ZV hj;have h2:=dP j v _ hv hx';rcases mz j _ hx' with h3 |h5
  ·rw[hx]at h3;cases h3
   exact h2.mono bV (fun _ _ h=>h) (fun _ _ _ h=>h)
  ·rw[hx]at h5;cases h5
   have h6:=rG (g:=Im ext H m w) (k:=k) (sz:=sz) (es:=es) (h2.mono bV (fun _ _ h=>h) (fun _ _ _ h=>h)) (by
    intro b hb;rw[hb]at j9;cases j9 with
    | @row _ _ _ c t hw hn hl hs h1 hr =>
     exact⟨c,⟨(bw.sep k _ b de hb).1,Ax b hb,t,_,hw⟩,hn,hl,hs,h1,fun i j e u x he hx hu=>(hr i j e u x he hx hu).mono bV (fun _ _ h=>h) (fun _ _ _ h=>h)⟩)
   exact h6)
 refine Calls.mono h1 ?_;rintro e w' ⟨v,m',rfl,hf,hh,hn,nL,aE⟩
 have pO:∀k' z,lk ((k,some (Blk.row sz es))::H') k'=some z->(k'=k/\z=.row sz es)\/(k'≠k/\lk H' k'=some z):=by
  intro k' z hz;rw[aq]at hz;split at hz
  ·rename_i e;cases hz;exact .inl ⟨e,rfl⟩
  ·rename_i e;exact .inr ⟨e,hz⟩
 have ss:Frame (aB ((k,some (.row sz es))::H) m) w w':=⟨hf.os,hf.tape,hf.output,hf.size,hf.sz,fun b h1 h2=>hf.keep b h1 (fun h'=>h2 (Aw b h'))⟩
 have ba:∀k' x b,lk ((k,some (Blk.row sz es))::H') k'=some x->(if k'=k then m k else m' k')=some b->aB ((k,some (.row sz es))::H) m b\/w.heap.size<=b:=by
  intro k' x b hx hb;rcases pO k' x hx with⟨rfl,rfl⟩ |⟨h2,h3⟩
  ·rw[aa2 rfl]at hb;exact .inl ⟨k',_,de,hb⟩
  ·rw[aa1 h2]at hb;rcases hn k' x b h3 hb with h4 |h4
   ·exact .inl (Aw b h4)
   ·exact .inr h4
 have Vv:=df (ext:=ext) ss (hp':=(k,some (.row sz es))::H') (m':=fun k'=>if k'=k then m k else m' k') ba;refine⟨v,fun k'=>if k'=k then m k else m' k',rfl,ss,⟨?_,?_,?_⟩,ba,?_,x8 hr aE⟩
 ·intro k' z hz;rcases pO k' z hz with⟨rfl,rfl⟩ |⟨h2,h3⟩
  ·rw[aa2 rfl];exact BlkRep.mono Vv (fun b n h=>hf.sz b n h) (fun _ _ hn=>hn.elim) rfl (fun b hb=>hf.keep b (bw.sep k' _ b de hb).2 (Ax b hb)) j9
  ·rw[aa1 h2];exact K7 (hH' k' z h3) (hh.blk k' z h3)
 ·intro k1 k2 z z' b h1 h2 aN aH
  have key:∀k' z,k'≠k->lk H' k'=some z->m k=some b->m' k'=some b->False:=by
   intro k' z az hz hb hb';rcases hn k' z b hz hb' with h4 |h4
   ·exact Ax b hb h4
   ·have:=(bw.sep k _ b de hb).2;omega
  rcases pO k1 z h1 with⟨rfl,rfl⟩ |⟨h3,h4⟩ <;> rcases pO k2 z' h2 with⟨h5,rfl⟩ |⟨h5,h6⟩
  ·exact h5.symm
  ·rw[aa2 rfl]at aN;rw[aa1 h5]at aH
   exact(key k2 z' h5 h6 aN aH).elim
  ·rw[aa1 h3]at aN;rw[aa2 h5]at aH
   exact(key k1 z h3 h4 aH aN).elim
  ·rw[aa1 h3]at aN;rw[aa1 h5]at aH
   exact hh.inj k1 k2 z z' b h4 h6 aN aH
 ·intro k' z b hz hb;rcases pO k' z hz with⟨rfl,rfl⟩ |⟨h2,h3⟩
  ·rw[aa2 rfl]at hb;have:=bw.sep k' _ b de hb;exact⟨this.1,Z9 this.2 hf.size⟩
  ·rw[aa1 h2]at hb;exact hh.sep k' z b h3 hb
 ·intro k' x y hx hy;rcases pO k' y hy with⟨rfl,rfl⟩ |⟨h2,h3⟩
  ·exact aa2 rfl
  ·have hx' : lk H k' = some x := by rw [aq, aa1 h2] at hx; exact hx
   exact(aa1 h2).trans (nL k' x y hx' h3)
theorem Og{k sz off len:Nat}{es:List AV}(h:off+len<=es.length):AV.fz k sz es (.ms k sz off len)=.lst sz ((es.drop off).take len):=by
 have e1:Nat.ble (off+len) es.length=true:=XH h;have e2:∀n,XK n n=true:=fun n=>XP n
 simp only[AV.fz,e1,e2,Bool.and_self]
theorem Con.borrow{P:abe}{f:FuncId}{args args':List AV}{H H':Hp}{r:AV}(k sz:Nat)(es:List AV)(hk:lk H k=none)(hk':lk H' k=none)(hl:args'.length=args.length)
  (mz:∀(j:Nat)(x':AV),args'[j]?=some x'->args[j]?=some x'\/(∃off len,x'=.ms k sz off len/\off+len<=es.length/\args[j]?=some (.lst sz ((es.drop off).take len))))
  (hr:r.sc=true) (hH':∀k' x,lk H' k'=some x->x.sc=true) (h:Con P f args H r H') :
  Con P f args' ((k,some (.row sz es))::H) r ((k,some (.row sz es))::H') :=
 Con.borrowF k sz es hk hk' hl (fun j x' hj=>by
  rcases mz j x' hj with h |⟨off,len,rfl,h1,h2⟩
  ·exact .inl h
  ·exact .inr (by rw[Og h1];exact h2)) hr hH' h
theorem Con.freeze{P:abe}{f:FuncId}{args:List AV}{k sz off len:Nat}{es:List AV}(hl:off+len<=es.length)
  (h:Con P f args [] (.ms k sz off len) [(k,some (.row sz es))]):gh P f args (.lst sz ((es.drop off).take len)):=by
 refine⟨h.ok,?_⟩;intro ext m w vs hext bw cM dP;refine Calls.mono (h.ret ext m w vs hext bw cM dP) ?_;rintro e w' ⟨v,m',rfl,hf,hh,hn,nL,aE⟩;have de:lk [(k,some (Blk.row sz es))] k=some (.row sz es):=by rw[aq,aa2 rfl]
 have j9:=hh.blk k _ de;have bV:∀b cs,Im ext [(k,some (.row sz es))] m' w' b cs->Im ext [] m' w' b cs:=fun b cs ⟨h1,h2,h3⟩=>⟨h1,(fun⟨_,_,h',_⟩=>by cases h'),h3⟩
 refine⟨v,m',rfl,hf,⟨(fun k z h=>by cases h),(fun k k' z z' b h=>by cases h),(fun k z b h=>by cases h)⟩,(fun k x b h=>by cases h),(fun k x y h=>by cases h),?_⟩
 have h6:=rG (g:=Im ext [] m' w') (k:=k) (sz:=sz) (es:=es) (aE.mono bV (fun _ _ h=>h) (fun _ _ _ h=>h)) (by
  intro b hb;rw[hb]at j9;cases j9 with
  | @row _ _ _ c t hw hn hl hs h1 hr =>
   exact⟨c,⟨(hh.sep k _ b de hb).1,(fun⟨_,_,h',_⟩=>by cases h'),t,_,hw⟩,hn,hl,hs,h1,fun i j e u x he hx hu=>(hr i j e u x he hx hu).mono bV (fun _ _ h=>h) (fun _ _ _ h=>h)⟩)
 have h7:AV.fz k sz es (.ms k sz off len)=.lst sz ((es.drop off).take len):=by
  have e1:Nat.ble (off+len) es.length=true:=XH hl;have e2:∀n,XK n n=true:=fun n=>XP n
  simp only[AV.fz,e1,e2,Bool.and_self]
 rwa [h7]at h6
theorem Con.rekeyR{P:abe}{f:FuncId}{k sz off len off' len':Nat}{xs es es':List AV}(d:Nat)(kj:(xs.all fun x=>x.nm.isEmpty)=true)
  (h:Con P f (.ms k sz off len::xs) [(k,some (.row sz es))] (.ms k sz off' len') [(k,some (.row sz es'))]) :
  Con P f (.ms d sz off len::xs) [(d,some (.row sz es))] (.ms d sz off' len') [(d,some (.row sz es'))]:=by
 refine⟨h.ok,?_⟩;intro ext m w vs hext bw cM dP
 have h1 := h.ret ext (fun _ => m d) w vs hext (uo (k := d) rfl bw) (by simpa using cM) (by
  intro j v x hv hx;rw[rz (d:=k) (k:=d) (y:=.row sz es) (x:=.row sz es) (m2:=fun _=>m d) (m:=m) rfl]
  match j,hx with
  |0,hx =>
   cases hx;have h2:=dP 0 v _ hv rfl;cases h2 with
   |ms0 a=>exact .ms0 a _ _ _
   |ms hm hc hS=>exact .ms hm hc hS
  |j+1,hx =>
   have h2:=dP (j+1) v x hv hx;refine tX ?_ h2;have:=Z6.1 kj x (ZR hx);simpa using this)
 refine Calls.mono h1 ?_;rintro e w' ⟨v,m',rfl,hf,hh,hn,hk,aE⟩
 have ho:aB [(k,some (Blk.row sz es))] (fun _=>m d)=aB [(d,some (Blk.row sz es))] m:=by
  funext b;apply propext;rw[o9,o9]
 refine⟨v,fun _=>m' k,rfl,ho▸hf,uo (k:=k) rfl hh,?_,?_,?_⟩
 ·intro k' x b hx hb;rw[<- ho];exact hn k _ b (by rw[aq,aa2 rfl]) hb
 ·intro k' x y hx hy;obtain⟨rfl,_⟩:=kA hx;exact hk k _ _ (by rw[aq,aa2 rfl]) (by rw[aq,aa2 rfl])
 ·rw[rz (d:=d) (k:=k) (y:=.row sz es') (x:=.row sz es') (m2:=fun _=>m' k) (m:=m') rfl];cases aE with
  |ms0 a=>exact .ms0 a _ _ _
  |ms hm hc hS=>exact .ms hm hc hS
end Go.Lw
namespace Go.Lw
variable{P:abe}{N:Nat}{R:Array Oper}{s:AS}{pos:String}{after:Array Edge}
end Go.Lw
namespace Go.Lw
variable{P:abe}{N:Nat}{Q:Exit->AS->Prop}
inductive TyT where
  |lf
  |nd (l:TyT) (k:Nat) (t:TI) (r:TyT)
def TyT.get:TyT->Nat->Option TI
  | .lf,_=>none
  | .nd l k t r,n=>match XK n k with
    |true=>some t
    |false=>match XU n k with
      |true=>l.get n
      |false=>r.get n
inductive TyT.Ok(P:abe):TyT->Prop
  |lf:TyT.Ok P .lf
  |nd {l r:TyT} {k:Nat} {t:TI} (hl:TyT.Ok P l) (h:ak P k=some t) (hr:TyT.Ok P r):TyT.Ok P (.nd l k t r)
theorem TyT.Ok.get{T:TyT}(h:T.Ok P){n:Nat}{t:TI}(hg:T.get n=some t):ak P n=some t:=by
 induction h with
 |lf=>cases hg
 |nd _ h _ ihl ihr =>
  unfold TyT.get at hg;split at hg
  ·rename_i hb;rw[ZT hb,h];exact hg
  ·split at hg
   ·exact ihl hg
   ·exact ihr hg
structure Tys(P:abe) where
  tab:TyT
  ok:tab.Ok P
  mix:P.follows .mixedOrders=true
def bm(P:abe)[Inhabited (Tys P)](n:Nat):Option TI:=(default:Tys P).tab.get n
theorem a8[Inhabited (Tys P)]{n:Nat}{t:TI}(h:bm P n=some t):ak P n=some t:=(default:Tys P).ok.get h
inductive AllP:List Prop->Prop
  |nil:AllP []
  |cons {p:Prop} {l:List Prop} (h:p) (hl:AllP l):AllP (p::l)
theorem AllP.app{a b:List Prop}(h:AllP (a++b)):AllP a/\AllP b:=by
 induction a with
 |nil=>exact⟨.nil,h⟩
 |cons p a ih =>
  cases h with |cons h hl=>exact⟨.cons h (ih hl).1,(ih hl).2⟩
def AV.optB:AV->Option (Bool×AV)
  | .opt b x=>some (b,x)
  |_=>none
theorem AV.optB_some{x y:AV}{b:Bool}(h:x.optB=some (b,y)):x=.opt b y:=by cases x <;> simp_all [AV.optB]
def cw(g:Bool)(G:Prop)(s:AS):abb->Option (AV×List Prop)
  | .tmp t=>match s.get t with
    |some x=>match g with
      |true=>match x.optB with
        |some (b,y)=>some (y,[G->b=true])
        |none=>some (x,[])
      |false=>some (x,[])
    |none=>none
  | .const c=>some (.v c,[])
  | .func f=>some (.v (.func (.func f) #[] #[]),[])
  | .global _=>none
theorem cL{g:Bool}{G:Prop}{s:AS}{o:abb}{x:AV}{ob:List Prop}(h:cw g G s o=some (x,ob))(ho:AllP ob)(hG:G):Ev s o x:=by
 cases o with
 |tmp t =>
  simp only[cw]at h;split at h
  ·rename_i y hy;split at h
   ·split at h
    ·rename_i b z hz;cases h;cases ho with
     |cons h1 _=>exact .opt (by rw[hy,AV.optB_some hz]) (h1 hG)
    ·cases h;exact .tmp hy
   ·cases h;exact .tmp hy
  ·cases h
 |const c=>cases h;exact .const c
 |func f=>cases h;exact .func f
 |global n=>cases h
def fp:List AV->Option (List AV)
  |[]=>some []
  |x::l=>match fp l with
    |some r=>some (x::r)
    |none=>none
theorem gm:∀{l r:List AV},fp l=some r->r=l
 |[],r,h=>by cases h;rfl
 |x::l,r,h=>by
  unfold fp at h;split at h
  ·rename_i r' hr;cases h;rw[gm hr]
  ·cases h
def mg(g:Bool)(G:Prop)(s:AS):List abb->Option (List AV×List Prop)
  |[]=>some ([],[])
  |o::os=>match cw g G s o with
    |some (x,a)=>match mg g G s os with
      |some (xs,b)=>some (x::xs,a++b)
      |none=>none
    |none=>none
theorem oU{g:Bool}{G:Prop}{s:AS}(hG:G):∀{os:List abb}{xs:List AV}{ob:List Prop},mg g G s os=some (xs,ob)->AllP ob->EvL s os xs
 |[],xs,ob,h,ho=>by cases h;exact .nil
 |o::os,xs,ob,h,ho=>by
  unfold mg at h;split at h
  ·rename_i x a h1;split at h
   ·rename_i ys b h2;cases h;exact .cons (cL h1 ho.app.1 hG) (oU hG h2 ho.app.2)
   ·cases h
  ·cases h
def tB(g:Bool)(G:Prop)(s:AS):List (Nat×abb)->Option (List (Nat×AV)×List Prop)
  |[]=>some ([],[])
  |p::os=>match cw g G s p.2 with
    |some (x,a)=>match tB g G s os with
      |some (xs,b)=>some ((p.1,x)::xs,a++b)
      |none=>none
    |none=>none
theorem Cv{g:Bool}{G:Prop}{s:AS}(hG:G):∀{os:List (Nat×abb)}{xs:List (Nat×AV)}{ob:List Prop},tB g G s os=some (xs,ob)->AllP ob->EvP s os xs
 |[],xs,ob,h,ho=>by cases h;exact .nil
 |p::os,xs,ob,h,ho=>by
  unfold tB at h;split at h
  ·rename_i x a h1;split at h
   ·rename_i ys b h2;cases h;exact .cons (cL h1 ho.app.1 hG) (Cv hG h2 ho.app.2)
   ·cases h
  ·cases h
structure R1 where
  x:AV
  rt:List Nat
  rd:List Nat
  ob:List Prop
def cN:IntKind->Nat
  | .i8=>0 | .i16=>1 | .i32=>2 | .i64=>3 | .u8=>4 | .u16=>5 | .u32=>6 | .u64=>7
theorem ky{a b:IntKind}(h:XK (cN a) (cN b)=true):a=b:=by cases a <;> cases b <;> first |rfl |(exact aa8 h (by decide))
def tI:BinOp->Bool
  | .eql | .neq | .lss | .leq | .gtr | .geq=>true
  |_=>false
def rD(ti:TI)(l:List AV):Option AV:=match ti.ag with
  |true=>match fp (l.take ti.size)with
    |some r=>some (.agg r)
    |none=>none
  |false=>match XK ti.size 1,l with
    |true,x::_=>some x
    |_,_=>none
theorem wP{ti:TI}{l:List AV}{x:AV}(h:rD ti l=some x):(ti.ag||XK ti.size 1)=true/\x=ik ti.ag (l.take ti.size):=by
 unfold rD at h;split at h
 ·rename_i ha;split at h
  ·rename_i r hr;cases h;rw[ha,gm hr];exact⟨rfl,rfl⟩
  ·cases h
 ·rename_i ha;split at h
  ·rename_i h1;cases h
   rw[ha,ZT h1];exact⟨rfl,rfl⟩
  ·cases h
section
variable{s:AS}{R:Array Oper}{d:Nat}{t T:abd}{pos:String}{after:Array Edge}{r:R1}
def qG(ti:TI)(x:abb)(f:Nat)(ob:List Prop)(y:AV):Option R1:=match ti.k with
  | .struct=>match ti.fs[f]? with
    |some (o,n)=>match XU 0 n with
      |true=>match y with
        | .ptr k off=>some ⟨.ptr k (off+o),ae x,[],ob⟩
        | .eptr k sz i off=>some ⟨.eptr k sz i (off+o),ae x,[],ob⟩
        | .iptr xs=>some ⟨.iptr (xs.drop o),ae x,[],ob⟩
        |_=>none
      |false=>none
    |none=>none
  |_=>none
theorem Ko{x:abb}{y:AV}{f:Nat}{ti:TI}{ob:List Prop}(hx:Ev s x y)(hT:ak P T=some ti)(h:qG ti x f ob y=some r)(hN:XU d N=true) :
  Step P N R s ⟨some d,.fieldAddr T x f,t,pos,after,none⟩ ⟨some r.x,[],r.rt,r.rd⟩:=by
 unfold qG at h;split at h
 ·rename_i hk;split at h
  ·rename_i o n hf;split at h
   ·rename_i hn;split at h
    ·cases h;exact Sf hx hT hk hf hn hN
    ·cases h;exact RF hx hT hk hf hn hN
    ·cases h;exact QN hx hT hk hf hn hN
    ·cases h
   ·cases h
  ·cases h
 ·cases h
theorem Om{x:abb}{y:AV}{f:Nat}{ti:TI}{ob:List Prop}(h:qG ti x f ob y=some r):r.ob=ob:=by
 unfold qG at h
 repeat' split at h
 all_goals first |(cases h;rfl) |cases h
end
variable[Inhabited (Tys P)]
def oH(P:abe)[Inhabited (Tys P)](s:AS)(ti:TI)(x:abb)(ob:List Prop):AV->Option R1
  | .ptr k off=>match s.blk k with
    |some (.box cs)=>match Nat.ble (off+ti.size) cs.length with
      |true=>match rD ti (cs.drop off)with
        |some v=>some ⟨v,ae x,[k],ob⟩
        |none=>none
      |false=>none
    |_=>none
  | .iptr xs=>match XU 0 ti.size&&Nat.ble ti.size xs.length with
    |true=>match rD ti xs with
      |some v=>some ⟨v,ae x,[],ob⟩
      |none=>none
    |false=>none
  |_=>none
def zX:abc->Prop:=fun v=>v=.nilIface\/∃T u,v=.iface T u
def oX(P:abe)[Inhabited (Tys P)](op:BinOp)(S:abd)(x y:abb)(ob:List Prop)(vx vy:abc):Option R1:=match vy with
  | .int k b=>match vx with
    | .int k' a=>match tI op&&XK (cN k) (cN k')with
      |true=>some ⟨.v (.bool (aa op a b)),ae x++ae y,[],ob⟩
      |false=>none
    |_=>none
  | .string b=>match vx with
    | .string a=>match op with
      | .eql=>some ⟨.v (.bool (a.toList==b.toList)),ae x++ae y,[],ob⟩
      | .neq=>some ⟨.v (.bool !(a.toList==b.toList)),ae x++ae y,[],ob⟩
      |_=>none
    |_=>none
  | .bool b=>match vx with
    | .bool a=>match bm P S with
      |some ti=>match ti.k with
        | .bool=>match op with
          | .eql=>some ⟨.v (.bool (a==b)),ae x++ae y,[],ob⟩
          | .neq=>some ⟨.v (.bool (a != b)),ae x++ae y,[],ob⟩
          |_=>none
        |_=>none
      |none=>none
    |_=>none
  | .nilIface=>match y with
    | .const _=>match bm P S with
      |some ti=>match ti.k with
        | .iface _=>match op with
          | .eql=>some ⟨.v (.bool (eH vx)),ae x++[],[],zX vx::ob⟩
          | .neq=>some ⟨.v (.bool !(eH vx)),ae x++[],[],zX vx::ob⟩
          |_=>none
        |_=>none
      |none=>none
    |_=>none
  |_=>none
def pv(P:abe)[Inhabited (Tys P)](x:abb)(T:abd)(ob:List Prop)(y:AV):Option R1:=match bm P T with
  |some ti=>match ti.k with
    | .slice _=>match y with
      | .ms _ _ _ len=>some ⟨.v (.int .i64 len),ae x,[],ob⟩
      | .v (.slice _ n _)=>some ⟨.v (.int .i64 n),ae x,[],ob⟩
      |_=>none
    | .string=>match y with
      | .v (.string b)=>some ⟨.v (.int .i64 b.size),ae x,[],ob⟩
      |_=>none
    |_=>none
  |none=>none
def BE:TK->Bool
  | .int _ | .struct | .pointer _ | .string=>true
  |_=>false
def qq:Nat->List (Nat×abb)->Bool
  |_,[]=>true
  |n,p::l=>XK p.1 n&&qq (n+1) l
theorem yW:∀{l:List (Nat×abb)}{n:Nat},qq n l=true->l=fR n (l.map (·.2))
 |[],n,_=>rfl
 |(i,o)::l,n,h=>by
  simp only[qq,ZW]at h;have h1:=ZT h.1;subst h1;simp only[aaz,fR];rw[<- yW h.2]
def sZ{α:Type}:List α->Bool
  |[]=>true
  |_=>false
theorem EQ{α:Type}{l:List α}(h:sZ l=true):l=[]:=by cases l <;> simp_all [sZ]
def pG(g:Bool)(G:Prop)(b w:Bool):Prop:=match g with
  |true=>G/\b=w
  |false=>b=w
theorem CC{g:Bool}{G:Prop}{b w:Bool}(hG:G)(h:b=w):pG g G b w:=by cases g <;> first |exact h |exact⟨hG,h⟩
def qB(P:abe)[Inhabited (Tys P)](g:Bool)(G:Prop)(s:AS):Op->Option R1
  | .move x=>match cw g G s x with
    |some (v,ob)=>some ⟨v,ae x,[],ob⟩
    |none=>none
  | .assign x=>match cw g G s x with
    |some (v,ob)=>some ⟨v,ae x,[],ob⟩
    |none=>none
  | .load T x=>match cw g G s x with
    |some (v,ob)=>match bm P T with
      |some ti=>oH P s ti x ob v
      |none=>none
    |none=>none
  | .fieldAddr T x f=>match cw g G s x with
    |some (v,ob)=>match bm P T with
      |some ti=>qG ti x f ob v
      |none=>none
    |none=>none
  | .extract x i=>match cw g G s x with
    |some (.tup xs,ob)=>match xs[i]? with
      |some y=>some ⟨y,ae x,[],ob⟩
      |none=>none
    |_=>none
  | .unOp .not _ x=>match cw g G s x with
    |some (.v (.bool b),ob)=>some ⟨.v (.bool !b),ae x,[],ob⟩
    |_=>none
  | .binOp op S x y _=>match cw g G s y with
    |some (.v vy,ob)=>match cw g G s x with
      |some (.v vx,ob')=>oX P op S x y (ob'++ob) vx vy
      |_=>none
    |_=>none
  | .makeInterface T x=>match cw g G s x with
    |some (.v v,ob)=>match bm P T with
      |some ti=>match BE ti.k with
        |true=>some ⟨.v (.iface T v),ae x,[],ob⟩
        |false=>none
      |none=>none
    |_=>none
  | .nilCheck x=>match cw g G s x with
    |some (.ptr k off,ob)=>some ⟨.ptr k off,ae x,[],ob⟩
    |some (.iptr xs,ob)=>some ⟨.iptr xs,ae x,[],ob⟩
    |_=>none
  | .makeFunc (.func f) first caps=>match first.toList with
    |[]=>match mg g G s caps.toList with
      |some (xs,ob)=>some ⟨.fn f xs,bO caps.toList,[],ob⟩
      |none=>none
    |_=>match caps.toList with
      |[]=>match mg g G s first.toList with
        |some (xs,ob)=>match xs.all fun x=>x.nm.isEmpty with
          |true=>some ⟨.cl f xs [],bO first.toList,[],ob⟩
          |false=>none
        |none=>none
      |_=>none
  | .build T parts=>match bm P T with
    |some ti=>match ti.k with
      | .struct=>match ti.zero.all Value.oneCell'&&ti.fs.all fun p=>XU 0 p.2 with
        |true=>match tB g G s parts.toList with
          |some (xs,ob)=>match rZ (fun i=>ti.fs[i]?) (ti.zero.map .v) xs with
            |some l=>match fp l with
              |some l=>some ⟨.agg l,oL parts.toList,[],ob⟩
              |none=>none
            |none=>none
          |none=>none
        |false=>none
      |_=>none
    |none=>none
  | .buildSlice T n parts=>match n with
    |0=>none
    |n+1=>match bm P T with
      |some ti=>match ti.k with
        | .slice E=>match bm P E with
          |some te=>match mg g G s (parts.toList.map (·.2))with
            |some (es,ob)=>match qq 0 parts.toList&&te.zero.all Value.oneCell'&&XK te.zero.length te.size&&(es.all fun e=>XK e.cells.length te.size&&e.ok) &&
                sZ (AV.nms es)&&XK (n+1) es.length&&Nat.ble ((n+1)*te.size) 16777216&&Nat.ble (n+1) 16777216 with
              |true=>some ⟨.lst te.size es,bO (parts.toList.map (·.2)),[],ob⟩
              |false=>none
            |none=>none
          |none=>none
        |_=>none
      |none=>none
  | .pick c x y=>match cw g G s c with
    |some (.v (.bool b),ob)=>match cw true (pG g G b true) s x with
      |some (.v (.bool bx),ob')=>match cw true (pG g G b false) s y with
        |some (.v (.bool bz),ob'')=>some ⟨.v (.bool (cond b bx bz)),ae c++(ae x++ae y),[],ob++(ob'++ob'')⟩
        |_=>none
      |_=>none
    |_=>none
  | .call ⟨.builtin .len,args,ts⟩=>match args.toList with
    |[x]=>match ts.toList with
      |[T]=>match cw g G s x with
        |some (y,ob)=>pv P x T ob y
        |none=>none
      |_=>none
    |_=>none
  |_=>none
section
variable{g:Bool}{G:Prop}{s:AS}{R:Array Oper}{d:Nat}{t T:abd}{pos:String}{after:Array Edge}{r:R1}
theorem Bc{x:abb}{y:AV}{ti:TI}{ob:List Prop}(hx:Ev s x y)(hT:ak P T=some ti)(h:oH P s ti x ob y=some r)(hN:XU d N=true) :
  Step P N R s ⟨some d,.load T x,t,pos,after,none⟩ ⟨some r.x,[],r.rt,r.rd⟩:=by
 unfold oH at h;split at h
 ·split at h
  ·split at h
   ·split at h
    ·cases h;rename_i hk _ h1 _ v hv;obtain⟨h2,rfl⟩:=wP hv;exact Jq hx hk hT h1 h2 hN
    ·cases h
   ·cases h
  ·cases h
 ·split at h
  ·split at h
   ·cases h;rename_i h1 _ v hv;obtain⟨h2,rfl⟩:=wP hv;exact M2 hx hT h1 h2 hN
   ·cases h
  ·cases h
 ·cases h
theorem Cl{op:BinOp}{x y:abb}{vx vy:abc}{S:abd}{ob:List Prop}(hx:Ev s x (.v vx))(hy:Ev s y (.v vy))(h:oX P op S x y ob vx vy=some r)(ho:AllP r.ob)
  (hN:XU d N=true):Step P N R s ⟨some d,.binOp op S x y T,t,pos,after,none⟩ ⟨some r.x,[],r.rt,r.rd⟩:=by
 unfold oX at h;split at h
 ·split at h
  ·split at h
   ·rename_i hc;cases h
    simp only[ZW]at hc;cases ky hc.2;exact Be hx hy (by have:=hc.1;cases op <;> simp_all [tI]) hN
   ·cases h
  ·cases h
 ·split at h
  ·split at h
   ·cases h;exact CZ hx hy hN
   ·cases h;exact E2 hx hy hN
   ·cases h
  ·cases h
 ·split at h
  ·split at h
   ·rename_i ti bj;split at h
    ·rename_i hk;split at h
     ·cases h;exact TD hx hy (a8 bj) hk hN
     ·cases h;exact Pj hx hy (a8 bj) hk hN
     ·cases h
    ·cases h
   ·cases h
  ·cases h
 ·split at h
  ·rename_i c;have hc:c = .nilIface:=by cases hy; rfl
   subst hc;split at h
   ·rename_i ti bj;split at h
    ·rename_i hk;split at h
     ·cases h;cases ho with |cons h1 _=>exact B5 hx h1 (a8 bj) hk hN
     ·cases h;cases ho with |cons h1 _=>exact CV hx h1 (a8 bj) hk hN
     ·cases h
    ·cases h
   ·cases h
  ·cases h
 ·cases h
theorem LF{op:BinOp}{x y:abb}{vx vy:abc}{S:abd}{ob:List Prop}(h:oX P op S x y ob vx vy=some r)(ho:AllP r.ob):AllP ob:=by
 unfold oX at h
 repeat' split at h
 all_goals first |(cases h;exact ho) |(cases h;cases ho;assumption) |cases h
theorem Hs{x:abb}{y:AV}{ob:List Prop}(hx:Ev s x y)(h:pv P x T ob y=some r)(hN:XU d N=true) :
  Step P N R s ⟨some d,.call ⟨.builtin .len,#[x],#[T]⟩,t,pos,after,none⟩ ⟨some r.x,[],r.rt,r.rd⟩:=by
 unfold pv at h;split at h
 ·rename_i ti bj;have bj:=a8 bj;split at h
  ·rename_i hk;split at h
   ·cases h;exact P1 hx bj hk hN
   ·cases h;exact Ks hx bj hk hN
   ·cases h
  ·rename_i hk;split at h
   ·cases h;exact SC hx bj hk hN
   ·cases h
  ·cases h
 ·cases h
theorem Sn{x:abb}{y:AV}{ti:TI}{ob:List Prop}(h:oH P s ti x ob y=some r):r.ob=ob:=by
 unfold oH at h
 repeat' split at h
 all_goals first |(cases h;rfl) |cases h
theorem LA{x:abb}{y:AV}{ob:List Prop}(h:pv P x T ob y=some r):r.ob=ob:=by
 unfold pv at h
 repeat' split at h
 all_goals first |(cases h;rfl) |cases h
theorem tk{op:Op}(h:qB P g G s op=some r)(ho:AllP r.ob)(hG:G)(hN:XU d N=true):Step P N R s ⟨some d,op,t,pos,after,none⟩ ⟨some r.x,[],r.rt,r.rd⟩:=by
 unfold qB at h;split at h
 ·split at h
  ·rename_i h1;cases h;exact L2 (cL h1 ho hG) hN
  ·cases h
 ·split at h
  ·rename_i h1;cases h;exact UF (cL h1 ho hG) hN
  ·cases h
 ·split at h
  ·rename_i h1;split at h
   ·rename_i ti bj;rw[Sn h]at ho;exact Bc (cL h1 ho hG) (a8 bj) h hN
   ·cases h
  ·cases h
 ·split at h
  ·rename_i h1;split at h
   ·rename_i ti bj;rw[Om h]at ho;exact Ko (cL h1 ho hG) (a8 bj) h hN
   ·cases h
  ·cases h
 ·split at h
  ·rename_i h1;split at h
   ·rename_i hy;cases h;exact U4 (cL h1 ho hG) hy hN
   ·cases h
  ·cases h
 ·split at h
  ·rename_i h1;cases h;exact Ts (cL h1 ho hG) hN
  ·cases h
 ·split at h
  ·rename_i h1;split at h
   ·rename_i h2;have:=(LF h ho).app;exact Cl (cL h2 this.1 hG) (cL h1 this.2 hG) h ho hN
   ·cases h
  ·cases h
 ·split at h
  ·rename_i h1;split at h
   ·rename_i ti bj;split at h
    ·rename_i hk;cases h
     exact Mj (cL h1 ho hG) hN (a8 bj) (by
      generalize ti.k=k at hk;cases k <;> simp_all [BE])
    ·cases h
   ·cases h
  ·cases h
 ·split at h
  ·rename_i h1;cases h;exact Od (cL h1 ho hG) hN
  ·rename_i h1;cases h;exact Rm (cL h1 ho hG) hN
  ·cases h
 ·rename_i f first caps
  split at h
  ·rename_i hf;have:first = #[]:=by apply ZL.1; simpa using hf
   subst this;split at h
   ·rename_i h1;cases h;exact QX (oU hG h1 ho) hN
   ·cases h
  ·split at h
   ·rename_i hf;have:caps = #[]:=by apply ZL.1; simpa using hf
    subst this;split at h
    ·rename_i h1;split at h
     ·rename_i h2;cases h;exact Ul (oU hG h1 ho) h2 hN
     ·cases h
    ·cases h
   ·cases h
 ·split at h
  ·rename_i ti bj;split at h
   ·rename_i hk;split at h
    ·rename_i hz;simp only[ZW]at hz;split at h
     ·rename_i h1;split at h
      ·rename_i hl;split at h
       ·rename_i hr;cases h;exact Mp (Cv hG h1 ho) (a8 bj) hk hz.1 hz.2 (by rw[hl,gm hr]) hN
       ·cases h
      ·cases h
     ·cases h
    ·cases h
   ·cases h
  ·cases h
 ·rename_i T n parts;split at h
  ·cases h
  ·rename_i n;split at h
   ·rename_i ti bj;split at h
    ·rename_i E hk;split at h
     ·rename_i te su;split at h
      ·rename_i es ob h1;split at h
       ·rename_i hc;cases h;simp only[ZW]at hc;obtain⟨⟨⟨⟨⟨⟨⟨c1,c2⟩,c3⟩,c4⟩,c5⟩,c6⟩,c7⟩,c8⟩:=hc;exact KU (by rw[<- yW c1]) (oU hG h1 ho) (a8 bj) hk (a8 su) c2 c3 (by simpa only[ZW]using c4) (EQ c5) (ZT c6) c7 c8 hN
       ·cases h
      ·cases h
     ·cases h
    ·cases h
   ·cases h
 ·split at h
  ·rename_i h1;split at h
   ·rename_i h2;split at h
    ·rename_i h3;cases h;have hp:=ho.app;have hq:=hp.2.app;exact xb (cL h1 hp.1 hG) (fun hb=>cL h2 hq.1 (CC hG hb)) (fun hb=>cL h3 hq.2 (CC hG hb)) hN
    ·cases h
   ·cases h
  ·cases h
 ·rename_i args ts;split at h
  ·rename_i x hx;split at h
   ·rename_i T hT;have e1:args = #[x]:=by apply ZL.1; simpa using hx
    have e2:ts=#[T]:=by apply ZL.1;simpa using hT
    subst e1;subst e2
    split at h
    ·rename_i h1;rw[LA h]at ho;exact Hs (cL h1 ho hG) h hN
    ·cases h
   ·cases h
  ·cases h
 ·cases h
end
end Go.Lw
namespace Go.Lw
variable{P:abe}{N:Nat}{R:Array Oper}{s:AS}{pos:String}{after:Array Edge}{Q:Exit->AS->Prop}
theorem MM{ρ:abb->abc}{o:Oper}{g:abb}{l:Nat}{args:Array abb}{ts:Array abd}(ho:o.op=.call ⟨.value g,args,ts⟩)
  (hρ:ρ g=.func (.yield l) #[] #[]):(execOp ρ o).run P=(Instr.yield l (args.map ρ)).run P:=by
 obtain⟨dst,op,type,pos,after,guard⟩:=o;subst ho;funext w;simp[execOp,resolve,hρ,Deferred.ofValue,invoke]
def oo(P:abe)(vs:Array abc)(w:abf)(R:Ending->abf->Prop):Prop :=
  ∃l f ts x y,vs[0]?=some (.func (.yield l) #[] #[])/\(Instr.yield l (vs.toList.drop 1).toArray).run P w=.ok (.round l f ts x y) w/\∀ro n,RoundIn (Fw ro) n P l f ts x y w R
theorem oo.mono{vs:Array abc}{w:abf}{R R':Ending->abf->Prop}(h:oo P vs w R)(hr:∀e w',R e w'->R' e w'):oo P vs w R':=by
 obtain⟨l,f,ts,x,y,h1,h2,h3⟩:=h;exact⟨l,f,ts,x,y,h1,h2,fun ro n=>(h3 ro n).mono hr⟩
def vA(P:abe)(k:Nat)(xs:List AV)(H:Hp)(r:AV)(H':Hp):Prop:=yO (oo P) (.yl k::xs) H r H'
theorem Tt{d:Nat}{g:abb}{k:Nat}{args:Array abb}{ts:Array abd}{xs:List AV}{H H':Hp}{r:AV}{t:abd}
  (hg:Ev s g (.yl k)) (cj:vA P k xs H r H') (ha:EvL s args.toList xs) (hH:∀k z,lk H k=some z->s.blk k=some z) (bc:eL s H H' r=true) (hN:XU d N=true) :
  Step P N R s ⟨some d,.call ⟨.value g,args,ts⟩,t,pos,after,none⟩ ⟨some r,H'++cr H,ae g++bO args.toList,H.map (·.1)⟩:=by
 refine⟨fun s' aj ba C m a w Q next hC hr hnext=>?_⟩;rw[aa2 (kM rfl _)];intro ro n;have js:fQ s s' ⟨none,[],ae g++bO args.toList,[]⟩:=⟨aj.1,fun k hk=>by cases hk⟩
 have ha':=ha.agree js (fun _ h=>ZY.2 (.inr h));have eP:=(hg.agree js (fun _ h=>ZY.2 (.inl h))).rep hr
 have eA:∃l,a.eval g=.func (.yield l) #[] #[]:=by
  generalize a.eval g=u at eP;cases eP;exact⟨_,rfl⟩
 obtain⟨l,eA⟩:=eA;rw[MM rfl eA];simp only[eL,ZW,Z6]at bc;obtain⟨nN,so⟩:=bc
 have hc := hr.called (run := oo P) (fun _ _ _ _ h h' => oo.mono h h') cj (vs := #[Value.func (.yield l) #[] #[]] ++ args.map a.eval) (by have := ha'.length; simp at this ⊢; omega) (by
   intro j v x hv hx;cases j with
   |zero =>
    cases hx;rw[ZH,aa2 (by show 0<1;omega)]at hv;cases hv;rw[<- eA];exact eP
   |succ j =>
    refine ha'.rep hr j v x ?_ (by simpa using hx);rw[ZH,aa1 (by show ¬j+1<1;omega)]at hv;have h9:(Array.map a.eval args)[j]?=some v:=hv;simpa using h9)
  (fun k z hz=>by rw[<- hH k z hz];exact aj.2 k (g7 hz)) (by
  intro k z hz;rcases ba k (by simp only[aas,ZY];exact .inl (g7 hz))with h |h
  ·obtain⟨p,hp,rfl⟩:=Yr.1 h;exact .inl (fC.1 (nN p hp))
  ·exact .inr h) (by
  intro k hk;obtain⟨p,hp,rfl⟩:=Yr.1 hk;exact nN p hp) so
 obtain⟨l',f,ts',x,y,h1,h2,h3⟩:=hc
 have hl:l'=l:=by
  rw[ZH,aa2 (by show 0<1;omega)]at h1;cases h1;rfl
 subst hl;have e1:((#[Value.func (.yield l') #[] #[]]++args.map a.eval).toList.drop 1).toArray=args.map a.eval:=by simp;rw[<- Array.toList_map,Array.toArray_toList]
 rw[e1]at h2;rw[h2];refine⟨(fun h=>by cases h),(h3 ro (n-1)).mono ?_⟩;rintro e w' ⟨v,m'',rfl,hr',aE,_⟩;rw[Yb]at hN;have:=hr'.put d v (some r) (fun z hz=>by cases hz;exact⟨by have:=hr'.nt;omega,aE⟩);exact hnext m'' _ _ (by simpa[AS.app,Act.put]using this)
theorem Dx{d j g:Nat}{op:Op}{t:abd}{want b:Bool}{x:AV}{upd:Hp}{rt rd:List Nat}
  (hj:(R[j]?).bind (·.dst)=some g) (hb:s.get g=some (.v (.bool b))) (hN:XU d N=true)
  (fY:b≠want->∀k∈upd.map (·.1),k∈rd/\lk upd k=s.blk k)
  (h:b=want->Step P N R s ⟨some d,op,t,pos,after,none⟩ ⟨some x,upd,rt,rd⟩) :
  Step P N R s ⟨some d,op,t,pos,after,some (j,want)⟩ ⟨some (.opt (b==want) x),upd,g::rt,rd⟩:=by
 refine⟨fun s' aj ba C m a w Q next hC hr hnext=>?_⟩;have hg:=hr.slots g _ ((aj.1 g (by simp)).trans hb)
 have lh:a.tmps[g]?=some (.bool b):=by
  obtain⟨h1,h2⟩:=hg;generalize hu:a.tmps.getD g undef=u at h2;cases h2;simp only[Z1]at hu;rw[ZC h1]at hu ⊢;simpa using hu
 have hy:yielded R a.tmps j=some b:=by simp[yielded,hj,lh]
 have hd:d<a.tmps.size:=by rw[Yb]at hN;have:=hr.nt;omega
 by_cases iT:b=want
 ·subst iT;have ch:Region.wanted ⟨some d,op,t,pos,after,some (j,b)⟩ (yielded R a.tmps) = true:=by simp [Region.wanted,hy]
  rw[aa2 ch];have:=(h rfl).run s' ⟨fun t ht=>aj.1 t (by simp[show t∈rt from ht]),aj.2⟩ ba C m a w Q next hC hr (fun m' a' w' h'=>hnext m' a' w' ?_)
  ·rw[aa2 (kM rfl _)]at this;exact this
  ·refine⟨fun t y hy=>?_,h'.heap,h'.frame,h'.new,h'.keep,h'.defers,h'.nt⟩;simp only[eK]at hy;split at hy
   ·rename_i jr;cases hy;have:=h'.slots t x (by simp only[eK,aa2 jr]);exact⟨this.1,.opt (fun _=>this.2) (fun h=>by simp at h)⟩
   ·rename_i jr;exact h'.slots t y (by simp only[eK,aa1 jr];exact hy)
 ·have ch : ¬ Region.wanted ⟨some d, op, t, pos, after, some (j, want)⟩ (yielded R a.tmps) = true := by simp [Region.wanted, hy, iT]
  rw[aa1 ch];have:=hr.put d undef (some (.opt (b==want) x)) (fun y hy=>by cases hy;exact⟨hd,.opt (fun h=>aa8 (beq_iff_eq.1 h) iT) (fun _=>rfl)⟩);refine hnext m _ _ ?_;refine RelM.congr (s:=⟨(d,some (.opt (b==want) x))::s'.sl,s'.hp⟩) (fun t=>rfl) (fun k=>?_) (by simpa[Act.put]using this);simp only[AS.app,AS.blk,iD];split
  ·rename_i hk;obtain⟨h1,h2⟩:=fY iT k hk;rw[h2];exact aj.2 k h1
  ·rfl
theorem RelM.setLoop{C:Ctx}{m:Nat->Option Nat}{a:Act}{w:abf}(h:RelM C s m a w){k l:Nat}{d:LpD}{st:LoopState}{pe:Option Code}{sl:aX}{r:Loop}
  (hk:lk s.hp k=some (.loop d st pe sl)) (hm:m k=some l) (hl:w.heap[l]?=some (.loop r)) (st':LoopState) (pe':Option Code) :
  RelM C ⟨s.sl,(k,some (.loop d st' pe' sl))::s.hp⟩ m a (w.putObj l (.loop { r with state:=st',pending:=pe' })):=by
 have hlt:=(h.heap.sep k _ l hk hm).2;have cD:∀b',b'≠l->(w.putObj l (.loop { r with state:=st',pending:=pe' })).heap[b']?=w.heap[b']? := fun b' hb=>World.putObj_heap_other hb
 have bf:∀k' y,lk ((k,some (Blk.loop d st' pe' sl))::s.hp) k'=some y->∃z,lk s.hp k'=some z:=by
  intro k' y hy;rw[aq]at hy;split at hy
  ·subst_vars;exact⟨_,hk⟩
  ·exact⟨y,hy⟩
 have hf:Frame (aB s.hp m) w (w.putObj l (.loop { r with state:=st',pending:=pe' })):=by
  refine⟨rfl,rfl,rfl,by simp,?_,?_⟩
  ·rintro b' n ⟨c1,t1,f1,h1,h2⟩;refine⟨c1,t1,f1,?_,h2⟩;rw[cD,h1];rintro rfl;rw[hl]at h1;cases h1
  ·intro b' hb' hn;refine cD b' ?_;rintro rfl;exact hn ⟨k,_,hk,hm⟩
 have aT:∀k' y b',lk ((k,some (Blk.loop d st' pe' sl))::s.hp) k'=some y->m k'=some b'->aB s.hp m b'\/w.heap.size<=b':=by
  intro k' y b' hy hb';obtain⟨z,hz⟩:=bf k' y hy;exact .inl ⟨k',z,hz,hb'⟩
 refine h.update hf (fun t y k' b' _ _ hb'=>hb') aT (fun k' y _ hy=>⟨bf k' y hy,rfl⟩) ⟨?_,?_,?_⟩
 ·intro k' y hy
  by_cases e:k'=k
  ·subst e;rw[aq,aa2 rfl]at hy;cases hy;have hb:=h.heap.blk k' _ hk;rw[hm]at hb ⊢;cases hb with
   |loop hw h1 h2 h3 h4 h5 hn hr =>
    rw[hl]at hw;cases hw
    exact .loop (World.putObj_heap_same hlt) rfl rfl h3 h4 h5 hn (fun t x hx=>⟨(hr t x hx).1,(hr t x hx).2.mono (df hf aT) hf.sz (fun _ _ _ h=>h)⟩)
  ·rw[aq,aa1 e]at hy;refine BlkRep.mono (df hf aT) hf.sz (fun k'' b' _ hb'=>hb') rfl ?_ (h.heap.blk k' y hy);intro b' hb';refine cD b' ?_;rintro rfl;exact e (h.heap.inj k' k y _ b' hy hk hb' hm)
 ·intro k1 k2 y1 y2 b' h1 h2 aN aH;obtain⟨z1,dX⟩:=bf k1 y1 h1;obtain⟨z2,k8⟩:=bf k2 y2 h2;exact h.heap.inj k1 k2 z1 z2 b' dX k8 aN aH
 ·intro k' y b' hy hb';obtain⟨z,hz⟩:=bf k' y hy;have:=h.heap.sep k' z b' hz hb';exact⟨this.1,Z9 this.2 hf.size⟩
def p6:List Tmp->List AV->aX->aX
  |p::ps,x::xs,sl=>p6 ps xs ((p,some x)::sl)
  |_,_,sl=>sl
theorem RelM.params{C:Ctx}{m:Nat->Option Nat}{w:abf}{hp:Hp}:∀(ps:List Tmp)(xs:List AV)(vs:List abc)(sl:aX)(a:Act),RelM C ⟨sl,hp⟩ m a w->vs.length=xs.length->(∀p∈ps,p<C.nt) ->
  (∀(j:Nat) v x,vs[j]?=some v->xs[j]?=some x->Rep (Im C.ext hp m w) (Sz w) m v x) ->
  RelM C ⟨p6 ps xs sl,hp⟩ m { a with tmps:=(ps.zip vs).foldl (fun t (p,v)=>t.setIfInBounds p v) a.tmps } w
 |[],_,_,sl,a,h,_,_,_=>by simpa[p6]using h
 |p::ps,[],[],sl,a,h,_,_,_=>by simpa[p6]using h
 |p::ps,x::xs,v::vs,sl,a,h,hl,hp,hr=>by
  have h1:=h.put p v (some x) (fun y hy=>by cases hy;exact⟨Z9 (hp p (by simp)) h.nt,hr 0 v x rfl rfl⟩);exact RelM.params ps xs vs _ _ h1 (by simpa using hl) (fun q hq=>hp q (by simp[hq])) (fun j v' x' hv hx=>hr (j+1) v' x' hv hx)
def L1(k:Nat)(d:LpD)(r:AV)(H':Hp):Exit->AS->Prop
  | .normal,s=>∃pe sl,lk s.hp k=some (.loop d .busy pe sl)/\aM ⟨s.sl,(k,some (.loop d .ready none sl))::s.hp⟩ (.v (.bool true)) r H'
  | .ret,s=>∃pe sl,lk s.hp k=some (.loop d .busy pe sl)/\aM ⟨s.sl,(k,some (.loop d .done (some .ret) sl))::s.hp⟩ (.v (.bool false)) r H'
  |_,_=>False
def Ti(P:abe)(k:Nat)(d:LpD)(r:AV)(H':Hp)(e:Exit)(s:AS):Prop :=
  e=.normal/\∃pe sl,lk s.hp k=some (.loop d .ready pe sl)/\aR P d.nt d.body (L1 k d r H') ⟨s.sl,(k,some (.loop d .busy pe sl))::s.hp⟩
theorem RelM.loopAt{C:Ctx}{m:Nat->Option Nat}{a:Act}{w:abf}(h:RelM C s m a w){k l:Nat}{d:LpD}{st:LoopState}{pe:Option Code}{sl:aX}
  (hk:lk s.hp k=some (.loop d st pe sl)) (hm:m k=some l):∃r:Loop,w.heap[l]?=some (.loop r)/\r.state=st/\r.pending=pe:=by
 have hb:=h.heap.blk k _ hk;rw[hm]at hb;cases hb with
 |loop hw h1 h2=>exact⟨_,hw,h1,h2⟩
theorem Uu{k:Nat}{d:LpD}{xs:List AV}{H:Hp}{r:AV}{H':Hp}{sl:aX}(hH:∀k z,lk H k=some z->1000<=k)(hk:lk H k=some (.loop d .ready none sl))
  (hl:xs.length=d.params.size) (nI:∀p∈d.params.toList,p<d.nt) (h:aR P d.nt d.assign (Ti P k d r H') ⟨p6 d.params.toList xs sl,H⟩):vA P k xs H r H':=by
 intro ext m w vs hext bw cM dP;have hs:vs.size=xs.length+1:=cM;have h0:vs[0]?=some vs[0]:=ZC oz;have hy:=dP 0 _ _ h0 rfl;generalize vs[0]=v0 at h0 hy;cases hy with
 | @yl _ _ l hm =>
  have hb:=bw.blk k _ hk;rw[hm]at hb;cases hb with
  | @loop _ r0 _ _ _ _ hw h1 h2 h3 h4 h5 hn hr =>
   have Iq:=hH k _ hk
   let C:Ctx:=⟨w,ext,aB H m,m,d.nt,hext,some l⟩
   have is:RelM C ⟨sl,H⟩ m { tmps:=r0.tmps,defers:=[] } w :=
    ⟨fun t x hx=>hr t x hx,bw,Frame.refl _ _,fun k x b h1 h2=>.inl ⟨k,x,h1,h2⟩,fun _ _ _ _=>rfl,oQ.nil _ _,hn⟩
   have mz:((vs.toList.drop 1).toArray).size=r0.params.size:=by rw[h3];simp;omega
   have aC:=is.params d.params.toList xs (vs.toList.drop 1) sl _ (by simp;omega) nI (fun j v x hv hx=>dP (j+1) v x (by simpa[Nat.add_comm]using hv) (by simpa using hx))
   have e1:(r0.params.zip (vs.toList.drop 1).toArray).foldl (fun tmps (t,a)=>tmps.setIfInBounds t a) r0.tmps=(d.params.toList.zip (vs.toList.drop 1)).foldl (fun t (p,v)=>t.setIfInBounds p v) r0.tmps:=by
    rw[h3,<- Array.foldl_toList,Array.toList_zip]
   refine⟨l,r0.fn,_,r0.assign,r0.body,h0,run_yield hw mz,fun ro n=>roundIn_of_wpIn (F:=Fw ro) trivial ?_⟩;rw[e1,h4,h5];refine wpIn_mono (h C m _ w n rfl aC) ?_;rintro e a1 w1 ⟨s1,m1,⟨rfl,pe1,sl1,mC,Vw⟩,Ay⟩;have en:m1 k=some l:=(Ay.keep k _ Iq mC).trans hm;obtain⟨r1,iV,Vx,Vy⟩:=Ay.loopAt mC en;have cP:=Ay.setLoop mC en iV .busy pe1;refine⟨_,run_beginRound iV Vx,?_⟩;have e2:({ r1 with state:=.busy }:Loop)={ r1 with state:=.busy,pending:=pe1 }:=by rw[<- Vy]
   rw[e2];refine wpIn_mono (Vw C m1 a1 _ n rfl cP) ?_;rintro e a3 w3 ⟨s3,m3,hq,my⟩
   have fin:∀(jump:Option Code)(pe:Option Code)(sl3:aX),lk s3.hp k=some (.loop d .busy pe sl3) ->
     aM ⟨s3.sl,(k,some (.loop d (if jump.isNone then .ready else .done) jump sl3))::s3.hp⟩ (.v (.bool jump.isNone)) r H' ->
     ∃v w',(Instr.endRound l jump).run P w3=.ok v w'/\∃v' m',Ending.returned v=.returned v'/\Frame (aB H m) w w'/\HeapRel ext H' m' w' /\
      (∀k x b,lk H' k=some x->m' k=some b->aB H m b\/w.heap.size<=b)/\(∀k x y,lk H k=some x->lk H' k=some y->m' k=m k)/\Rep (Im ext H' m' w') (Sz w') m' v' r:=by
    intro jump pe sl3 nT j8;have Ir:m3 k=some l:=(my.keep k _ Iq nT).trans hm;obtain⟨r3,sv,Is,It⟩:=my.loopAt nT Ir;have kg:=my.setLoop nT Ir sv (if jump.isNone then .ready else .done) jump;obtain⟨m'',g3,g4,g5,g6⟩:=j8 ext m3 _ _ kg.heap (fun b hb=>kg.ext_lt hb) (.v (.bool jump.isNone));refine⟨_,_,run_endRound jump sv,_,m'',rfl,kg.frame,g3,?_,?_,g6⟩
    ·intro k' z b hk' hb';obtain⟨k2,z2,ez,aH⟩:=g4 k' z b hk' hb';exact kg.new k2 z2 b ez aH
    ·intro k' z y hk' hy';obtain⟨⟨y',lC⟩,h8⟩:=g5 k' y (hH k' z hk') hy';rw[h8];exact kg.keep k' y' (hH k' z hk') lC
   cases e with
   |normal =>
    obtain⟨pe,sl3,nT,j8⟩:=hq;exact fin none pe sl3 nT j8
   |ret =>
    obtain⟨pe,sl3,nT,j8⟩:=hq;exact fin (some .ret) pe sl3 nT j8
   |_=>exact hq.elim
theorem yw{x y:Code}(h:aR P N x (fun e s=>match e with | .normal=>iK P N y Q s |e=>Q e s) s):iK P N (.seq x y) Q s:=by
 intro C m a w n dZ hN hr;refine wpIn_seq (wpIn_mono (h C m a w n hN hr) ?_);rintro e a' w' ⟨s',m',hq,hr'⟩;cases e with
 |normal=>exact hq C m' a' w' n dZ hN hr'
 |_=>exact⟨s',m',hq,hr'⟩
theorem Jx{x y:Code}(h:iK P N x (fun e s=>match e with | .normal=>iK P N y Q s |e=>Q e s) s):iK P N (.seq x y) Q s:=by
 intro C m a w n dZ hN hr;refine wpIn_seq (wpIn_mono (h C m a w n dZ hN hr) ?_);rintro e a' w' ⟨s',m',hq,hr'⟩;cases e with
 |normal=>exact hq C m' a' w' n dZ hN hr'
 |_=>exact⟨s',m',hq,hr'⟩
theorem U0{id:Nat}{c:Code}(h:iK P N c (tm id (Q .normal) Q) s):iK P N (.block id c) Q s:=by
 intro C m a w n dZ hN hr;refine wpIn_block (wpIn_mono (h C m a w n dZ hN hr) ?_);rintro e a' w' ⟨s',m',hq,hr'⟩;cases e with
 |exit id' =>
  simp only[Exit.inBlock];simp only[tm]at hq;split at hq
  ·rename_i hb;rw[aa2 (ZT hb)];exact⟨s',m',hq,hr'⟩
  ·rename_i hb;rw[aa1 (Ya hb)];exact⟨s',m',hq,hr'⟩
 |_=>exact⟨s',m',hq,hr'⟩
theorem RelM.mark{C:Ctx}{m:Nat->Option Nat}{a:Act}{w:abf}(hr:RelM C s m a w) :
  RelM C s m { a with defers:=pf w.heap.size::a.defers } { w with heap:=w.heap.push (.deferred (some [])) }:=by
 have hf:=y3 (aB s.hp m) w (.deferred (some []));have aT:∀k' y b',lk s.hp k'=some y->m k'=some b'->aB s.hp m b'\/w.heap.size<=b':=fun k' y b' h1 h2=>.inl ⟨k',y,h1,h2⟩
 have aC:RelM C s m a { w with heap:=w.heap.push (.deferred (some [])) }:=by
  refine hr.update hf (fun t y k' b' _ _ hb'=>hb') aT (fun k' y _ hy=>⟨⟨y,hy⟩,rfl⟩) ⟨?_,hr.heap.inj,?_⟩
  ·intro k y hk;refine BlkRep.mono (df hf aT) hf.sz (fun _ _ _ h=>h) rfl ?_ (hr.heap.blk k y hk);intro b hb;have:=(hr.heap.sep k y b hk hb).2;show(w.heap.push _)[b]?=_;rw[ZJ,aa1 oz]
  ·intro k y b hk hb;have:=hr.heap.sep k y b hk hb;refine⟨this.1,?_⟩;have:=this.2;simp;omega
 refine⟨aC.slots,aC.heap,aC.frame,aC.new,aC.keep,?_,aC.nt⟩;obtain⟨Ds,e,hn,hD⟩:=hr.defers;have ba:(w.heap.push (.deferred (some [])))[w.heap.size]?=some (Obj.deferred (some [])):=by simp
 refine⟨w.heap.size::Ds,by simp[e],List.nodup_cons.2 ⟨fun hm=>?_,hn⟩,?_⟩
 ·have:=hr.heap.lt (hD _ hm).2;omega
 ·intro D hm;rcases aai.1 hm with rfl |hm
  ·exact⟨hr.frame.size,ba⟩
  ·obtain⟨h1,h2⟩:=hD D hm;refine⟨h1,?_⟩;have:=hr.heap.lt h2;show(w.heap.push _)[D]?=_;rw[ZJ,aa1 oz];exact h2
theorem A5{g:abb}{ps:Array Tmp}{assign body:Code}{f:FuncId}{caps:List AV}{k:Nat}{H H':Hp}{r:AV}{st:LoopState}{pe:Option Code}{sl0 sl':aX}
  (hg:Ev s g (.fn f caps)) (iu:∀t x,lk sl0 t=some x->s.get t=some x) (Iu:(xu sl0).contains k=false) (hfr:s.freshB k=true) (cj:Con P f (.yl k::caps) H r H')
  (hH:∀k' z,lk H k'=some z->lk ((k,some (.loop ⟨ps,assign,body,N⟩ .ready none sl0))::s.hp) k'=some z) (bc:eL s H H' r=true)
  (Vz:fB H k=true) (ba:(H'.all fun p=>fB H p.1)=true) (ki:lk H' k=some (.loop ⟨ps,assign,body,N⟩ st pe sl')) (aZ:st≠.busy)
  (pI:pe=none/\Q .normal ⟨s.sl,(k,none)::(H'++cr H++s.hp)⟩\/pe=some .ret/\Q .ret ⟨s.sl,(k,none)::(H'++cr H++s.hp)⟩) :
  iK P N (.rangeFunc g ps assign body) Q s:=by
 intro C m a w n dZ hN hr;rw[dZ];simp only[eL,ZW,Z6]at bc ba;obtain⟨nN,so⟩:=bc;have eP:=hg.rep hr;generalize eA:a.eval g=u at eP;cases eP with
 | @fn _ _ cvs _ hn' aE =>
  refine wpIn_rangeFunc (F:=Fw none) fun fn _=>?_
  have Iv:=AS.fresh_of hfr;have aC:=hr.mark
  have hnm:¬(Blk.loop ⟨ps,assign,body,N⟩ .ready none sl0).Names k:=by
   rintro⟨t,x,hx,hn⟩;have h9:k∈xu sl0:=YH.2 ⟨_,hx,hn.mem⟩;have h8:=List.elem_eq_true_of_mem h9;rw[List.contains]at Iu;rw[Iu]at h8;cases h8
  have cP:=aC.alloc (k:=k) Iv (.loop { state:=.ready,pending:=none,fn,tmps:=a.tmps,params:=ps,assign,body,defers:=w.heap.size }) (.loop ⟨ps,assign,body,N⟩ .ready none sl0) hnm
   (fun g' S' m' w' h1 h2 h3 h4 => .loop h4 rfl rfl rfl rfl rfl (by have := hr.nt; rw [hN] at this; exact this) (fun t x hx => by
    obtain⟨g1,g2⟩:=aC.slots t x (iu t x hx);exact⟨g1,g2.mono h1 h2 (fun k' b hk hb=>h3 k' b (fun e=>Iv.2.2.1 t x (iu t x hx) (e▸hk)) hb)⟩))
  have VA:(w.heap.push (Obj.deferred (some []))).size=w.heap.size+1:=by simp
  have aA:∀k',k'=k->(if k'=k then some (w.heap.push (Obj.deferred (some []))).size else m k')=some (w.heap.size+1):=fun k' e=>by rw[aa2 e,VA]
  have hc := cP.called (run := Calls P f) (fun _ _ _ _ h h' => Calls.mono h h') cj.ret (vs := #[Value.func (.yield (w.heap.size + 1)) #[] #[]] ++ cvs) (by simp [hn']; omega) (by
    intro j v x hv hx;cases j with
    |zero =>
     cases hx;rw[ZH,aa2 (by show 0<1;omega)]at hv;cases hv;exact .yl (aA k rfl)
    |succ j =>
     rw[ZH,aa1 (by show ¬j+1<1;omega)]at hv;have h9:cvs[j]?=some v:=hv;have hx':caps[j]?=some x:=hx;have VB:({ a with defers:=pf w.heap.size::a.defers }:Act).eval g=.func (.func f) #[] cvs:=by cases g <;> exact eA
     have VC:fQ s ⟨s.sl,(k,some (.loop ⟨ps,assign,body,N⟩ .ready none sl0))::s.hp⟩ ⟨none,[],ae g,[]⟩:=⟨fun _ _=>rfl,fun k hk=>by cases hk⟩
     have h8:=(hg.agree VC (fun _ h=>h)).rep cP;rw[VB]at h8;cases h8 with
     |fn lB Az=>exact Az j v x h9 hx')
   hH (by
    intro k' z hz;have:=ba _ (mj hz);exact .inl (fC.1 this)) (by
    intro k' hk';obtain⟨p,hp,rfl⟩:=Yr.1 hk';exact nN p hp) so
  let W2:=(w.alloc (.deferred (some []))).alloc (.loop { state:=.ready,pending:=none,fn,tmps:=a.tmps,params:=ps,assign,body,defers:=w.heap.size })
  refine⟨w.heap.size+1,[pf w.heap.size],W2,{ target:=.fn (.func f) cvs,args:=#[.func (.yield (w.heap.size+1)) #[] #[]] },W2,f,
   #[Value.func (.yield (w.heap.size+1)) #[] #[]]++cvs,W2,run_enterLoop_outer fn a.tmps ps assign body,?_,fun _ _=>trivial,?_,(fun h=>by cases h),(callsIn_wide (n:=n-1)).2 (Calls.mono hc ?_)⟩
  ·simp only[resolve,eA];simp[go_sem]
  ·simp[invoke,go_sem,cj.ok _ _]
  ·rintro e w' ⟨v,m'',rfl,my,_,de⟩;obtain⟨y,hy⟩:=fC.1 Vz;have hm:m'' k=some (w.heap.size+1):=(de k y _ hy ki).trans (aA k rfl)
   have Iw:lk (H'++cr H++(k,some (Blk.loop ⟨ps,assign,body,N⟩ .ready none sl0))::s.hp) k=some (.loop ⟨ps,assign,body,N⟩ st pe sl'):=by
    rw[aay,iD,aa2 (g7 ki)];exact ki
   obtain⟨r3,sv,Is,It⟩:=my.loopAt Iw hm
   have kg:=(my.setLoop Iw hm sv .exhausted pe).fewer (hp':=(k,none)::(H'++cr H++s.hp)) (by
    intro k' z hz;rw[aq]at hz;split at hz
    ·cases hz
    ·rename_i az;rw[aq,aa1 az];rw[aay,iD]at hz ⊢;split at hz
     ·rename_i h1;rw[aa2 h1];exact hz
     ·rename_i h1;rw[aa1 h1]
      rw[iD]at hz ⊢;split at hz
      ·rename_i h2;rw[aa2 h2];exact hz
      ·rename_i h2;rw[aa1 h2,aq,aa1 az];exact hz)
   have db:=run_endLoop (P:=P) sv (by rw[Is];exact aZ);rw[It]at db;refine⟨pe,_,db,?_⟩;rcases pI with⟨rfl,hq⟩ |⟨rfl,hq⟩
   ·exact⟨_,m'',hq,kg⟩
   ·exact wpIn_ret ⟨_,m'',hq,kg⟩
theorem oF{f:FuncId}{caps:List AV}(hnm:(caps.all fun x=>x.nm.isEmpty)=true):Sub (.fn f caps) (.cl f [] caps):=by
 intro g S m v h;cases h with
 |fn hn hr =>
  exact .cl rfl (fun j u c hu hc => by simp at hc) hn (fun j u c hu hc => (hr j u c hu hc).mono (fun _ _ h => h) (fun _ _ h => h) (fun k b hk => by
   have h1:=Z6.1 hnm c (ZR hc);have h2:=hk.mem;simp only[List.isEmpty_iff]at h1;rw[h1]at h2;cases h2))
theorem Q9{ρ:abb->abc}{o:Oper}{g:abb}{f:FuncId}{pre caps:Array abc}{args:Array abb}{ts:Array abd}{w:abf}{vs:Array abc}(ho:o.op=.call ⟨.value g,args,ts⟩)
  (hρ:ρ g=.func (.func f) pre caps) (bc:rN P f) (cM:pre++args.map ρ++caps=vs):(execOp ρ o).run P w=.ok (.enter f vs) w:=by
 subst cM;have:=bc (pre++args.map ρ++caps) w;rw[Array.append_assoc]at this;obtain⟨dst,op,type,pos,after,guard⟩:=o;subst ho;simp[execOp,resolve,hρ,Deferred.ofValue,invoke,this]
theorem Fq{d:Nat}{g:abb}{f:FuncId}{pre caps:List AV}{args:Array abb}{ts:Array abd}{xs:List AV}{H H':Hp}{r:AV}{t:abd}
  (hg:Ev s g (.cl f pre caps)) (cj:Con P f (pre++xs++caps) H r H') (ha:EvL s args.toList xs) (hH:∀k z,lk H k=some z->s.blk k=some z) (bc:eL s H H' r=true) (hN:XU d N=true) :
  Step P N R s ⟨some d,.call ⟨.value g,args,ts⟩,t,pos,after,none⟩ ⟨some r,H'++cr H,ae g++bO args.toList,H.map (·.1)⟩:=by
 refine qi rfl (fun d' h=>by cases h;exact⟨hN,rfl⟩) cj hH bc fun s' aj C m a w hr=>?_
 have js:fQ s s' ⟨none,[],ae g++bO args.toList,[]⟩:=⟨aj,fun k hk=>by cases hk⟩
 have ha':=ha.agree js (fun _ h=>ZY.2 (.inr h));have eP:=(hg.agree js (fun _ h=>ZY.2 (.inl h))).rep hr;generalize hv:a.eval g=u at eP;cases eP with
 | @cl _ _ pvs cvs _ _ hn aE hn' VD =>
  have hl:=ha'.length;simp only[ZI]at hl;refine⟨pvs++args.map a.eval++cvs,Q9 rfl hv cj.ok rfl,by simp[hn,hn',hl],?_⟩;intro j v x hv' hx;rw[ZH]at hv';rw[List.getElem?_append]at hx;simp only[ZN,Array.size_map,aah,hn,hl]at hv' hx;split at hv'
  ·rename_i h1;rw[aa2 h1]at hx;rw[ZH]at hv';rw[List.getElem?_append]at hx;split at hv'
   ·rename_i h2;rw[aa2 oz]at hx;exact(aE j v x hv' hx).mono (fun _ _ h=>h) (fun _ _ h=>h) (fun k b _ h=>by cases h)
   ·rename_i h2;rw[aa1 oz]at hx;rw[hn]at hv';exact ha'.rep hr _ v x (by simpa using hv') hx
  ·rename_i h1;rw[aa1 h1]at hx;exact(VD _ v x hv' hx).mono (fun _ _ h=>h) (fun _ _ h=>h) (fun k b _ h=>by cases h)
end Go.Lw
namespace Go.Lw
variable{P:abe}{N:Nat}{Q:Exit->AS->Prop}
def tD(s:AS)(g:Nat)(want:Bool):Option (Prop×Bool):=match s.get g with
  |some x=>match x with
    | .v (.bool b)=>some (b=want,b==want)
    | .opt c (.v (.bool b))=>some (c=true/\b=want,c&&b==want)
    |_=>none
  |none=>none
inductive Want where
  |ar (op:BinOp) (k:IntKind) (a b:Int)
  |cv (k:IntKind) (n:Int)
  |ln (es:List AV)
  |ix (es:List AV) (i:Int)
  |cl (f:FuncId) (xs:List AV)
def rH(P:abe)(w:Want)(x:AV):Prop:=match w with
  | .ar op k a b=>∃n,k.wrap (dV op a b)=n/\x=.v (.int k n)
  | .cv k n=>∃m,k.wrap n=m/\x=.v (.int k m)
  | .ln es=>∃n:Nat,es.length=n/\x=.v (.int .i64 n)
  | .ix es i=>0<=i/\∃e,es[i.toNat]?=some e/\x=.iptr e.cells
  | .cl f xs=>gh P f xs x/\x.nm=[]
inductive Fr where
  |seq (c:Code)
  |blk (id:Nat)
  |lp (K:AS->Prop)
def bN(P:abe)(N:Nat)(Q:Exit->AS->Prop):List Fr->Exit->AS->Prop
  |[],e,s=>Q e s
  | .seq c::k,e,s=>match e with
    | .normal=>aR P N c (bN P N Q k) s
    |e=>bN P N Q k e s
  | .blk id::k,e,s=>match e with
    | .exit id'=>match XK id' id with
      |true=>bN P N Q k .normal s
      |false=>bN P N Q k (.exit id') s
    |e=>bN P N Q k e s
  | .lp K::k,e,s=>match e with
    | .normal=>K s
    |e=>bN P N Q k e s
inductive Cf where
  |code (c:Code) (k:List Fr) (s:AS)
  |ops (id i:Nat) (R:List Oper) (draw:Bool) (s0:AS) (ops:List Oper) (us:List Out) (k:List Fr) (s:AS)
  |ap (o:Oper) (u:Out) (id i:Nat) (R:List Oper) (draw:Bool) (s0:AS) (ops:List Oper) (us:List Out) (k:List Fr) (s:AS)
  |ex (e:Exit) (k:List Fr) (s:AS)
  |st (w:Want) (rt:List Nat) (o:Oper) (id i:Nat) (R:List Oper) (draw:Bool) (s0:AS) (ops:List Oper) (us:List Out) (k:List Fr) (s:AS)
  |sg (G:Prop) (b:Bool) (w:Want) (rt:List Nat) (o:Oper) (id i:Nat) (R:List Oper) (draw:Bool) (s0:AS) (ops:List Oper) (us:List Out) (k:List Fr) (s:AS)
def Gd(P:abe)(N:Nat)(Q:Exit->AS->Prop):Cf->Prop
  | .code c k s=>aR P N c (bN P N Q k) s
  | .ops _ _ R draw s0 ops us k s=>eD P N R.toArray ops s us (fun s' us'=>(draw=true->chk R us' s0=true)/\bN P N Q k .normal s')
  | .ap o u _ _ R draw s0 ops us k s=>eD P N R.toArray ops (s.app o.dst u) (us++[u]) (fun s' us'=>(draw=true->chk R us' s0=true)/\bN P N Q k .normal s')
  | .ex e k s=>bN P N Q k e s
  | .st w rt o _ _ R draw s0 ops us k s=>(∀x,rH P w x->Step P N R.toArray s o ⟨some x,[],rt,[]⟩)->eD P N R.toArray (o::ops) s us (fun s' us'=>(draw=true->chk R us' s0=true)/\bN P N Q k .normal s')
  | .sg G b w rt o _ _ R draw s0 ops us k s=>(∀x,(G->rH P w x)->Step P N R.toArray s o ⟨some (.opt b x),[],rt,[]⟩)->eD P N R.toArray (o::ops) s us (fun s' us'=>(draw=true->chk R us' s0=true)/\bN P N Q k .normal s')
theorem Me{x y:Code}{k:List Fr}{s:AS}(h:aR P N x (bN P N Q (.seq y::k)) s):aR P N (.seq x y) (bN P N Q k) s :=
 D5 fun K hK=>fv h fun e s he=>by
  cases e with
  |normal=>exact hK s he
  |_=>exact he
theorem Jm{id:Nat}{c:Code}{k:List Fr}{s:AS}(h:aR P N c (bN P N Q (.blk id::k)) s):aR P N (.block id c) (bN P N Q k) s :=
 Ez (fv h fun e s he=>by
  cases e with
  |exit id' =>
   show match XK id' id with |true=>_ |false=>_
   simp only[bN]at he;split at he
   ·exact he
   ·exact he
  |_=>exact he)
theorem tn{R:Array Oper}{K K':AS->List Out->Prop}(hk:∀s us,K s us->K' s us):∀{ops:List Oper}{s:AS}{us:List Out},eD P N R ops s us K->eD P N R ops s us K'
 |[],s,us,h=>hk s us h
 |_::_,s,us,⟨u,h1,h2,h3⟩=>⟨u,h1,h2,tn hk h3⟩
def qS:List Oper->Bool
  |[]=>true
  |o::l=>match o.op with
    | .defer _=>false
    |_=>qS l
theorem yK:∀{l:List Oper},qS l=true->l.all nd=true
 |[],_=>rfl
 |o::l,h=>by
  unfold qS at h;simp only[all_cons,ZW];split at h
  ·cases h
  ·rename_i hd;refine⟨?_,yK h⟩;unfold nd;split
   ·rename_i c hc;exact aa8 hc (hd c)
   ·rfl
theorem Bl{id:Nat}{A:Array Oper}{d:Bool}{k:List Fr}{s:AS}(b9:A.toList.all nd=true)(hd:d=true->P.follows .mixedOrders=true)
  (h:eD P N A.toList.toArray A.toList s [] (fun s' us'=>(d=true->chk A.toList us' s=true)/\bN P N Q k .normal s')):aR P N (.region id A d) (bN P N Q k) s:=by
 have e:A=A.toList.toArray:=by simp
 cases d with
 |false =>
  rw[e]
  exact ST b9 (by
   exact tn (fun s us h=>h.2) h)
 |true =>
  rw[e];exact Um b9 (hd rfl) (tn (fun s us h=>⟨h.1 rfl,h.2⟩) h)
variable[Inhabited (Tys P)]
def ta(P:abe)[Inhabited (Tys P)](s:AS)(d:Nat):Op->Option (Out×List Prop)
  | .alloc T=>match bm P T with
    |some ti=>match ti.zero.all Value.oneCell' with
      |true=>match fp (ti.zero.map .v)with
        |some l=>some (⟨some (.ptr d 0),[(d,some (.box l))],[],[]⟩,[])
        |none=>none
      |false=>none
    |none=>none
  | .box _ x=>match cw false True s x with
    |some (v,ob)=>match v.ok with
      |true=>match fp v.cells with
        |some l=>some (⟨some (.ptr d 0),[(d,some (.box l))],ae x,[]⟩,ob)
        |none=>none
      |false=>none
    |none=>none
  |_=>none
def tK(P:abe)[Inhabited (Tys P)](s:AS):Op->Option (Out×List Prop)
  | .store T x y=>match cw false True s x with
    |some (.ptr k off,ob)=>match cw false True s y with
      |some (v,ob')=>match s.blk k with
        |some (.box cs)=>match bm P T with
          |some ti=>match v.ok&&XK v.cells.length ti.size&&Nat.ble (off+ti.size) cs.length with
            |true=>match fp (over cs off v.cells)with
              |some l=>some (⟨none,[(k,some (.box l))],ae x++ae y,[k]⟩,ob++ob')
              |none=>none
            |false=>none
          |none=>none
        |_=>none
      |none=>none
    |_=>none
  |_=>none
def tJ(s:AS)(r:Out×List Prop):Option (Out×List Prop):=match wi s r.1 with
  |true=>some r
  |false=>none
def w8(P:abe)[Inhabited (Tys P)](N:Nat)(R:List Oper)(s:AS)(o:Oper):Option (Out×List Prop):=match o.guard with
  |none=>match o.dst with
    |some d=>match XU d N with
      |true=>match qB P false True s o.op with
        |some ⟨x,rt,rd,ob⟩=>some (⟨some x,[],rt,rd⟩,ob)
        |none=>match ta P s d o.op with
          |some r=>tJ s r
          |none=>none
      |false=>none
    |none=>match tK P s o.op with
      |some r=>tJ s r
      |none=>none
  |some (j,want)=>match R[j]? with
    |some og=>match og.dst with
      |some g=>match o.dst with
        |some d=>match XU d N with
          |true=>match tD s g want with
            |some (G,b)=>match qB P true G s o.op with
              |some ⟨x,rt,rd,ob⟩=>some (⟨some (.opt b x),[],g::rt,rd⟩,ob)
              |none=>none
            |none=>none
          |false=>none
        |none=>none
      |none=>none
    |none=>none
theorem Gz{s:AS}{r r':Out×List Prop}(h:tJ s r=some r'):r'=r/\iI s r.1:=by
 unfold tJ at h;split at h
 ·rename_i hn;cases h;exact⟨rfl,vo hn⟩
 ·cases h
theorem HV{s:AS}{R:Array Oper}{d:Nat}{op:Op}{t:abd}{pos:String}{after:Array Edge}{r:Out×List Prop}(h:ta P s d op=some r)(ho:AllP r.2)(hN:XU d N=true) :
  Step P N R s ⟨some d,op,t,pos,after,none⟩ r.1:=by
 unfold ta at h;split at h
 ·split at h
  ·rename_i ti bj;split at h
   ·rename_i hz;split at h
    ·rename_i l hl;cases h;cases gm hl;exact Tr (a8 bj) hz hN
    ·cases h
   ·cases h
  ·cases h
 ·split at h
  ·rename_i v ob h1;split at h
   ·rename_i hv;split at h
    ·rename_i l hl;cases h;cases gm hl;exact TJ (cL h1 ho trivial) hv hN
    ·cases h
   ·cases h
  ·cases h
 ·cases h
theorem B9{s:AS}{R:Array Oper}{op:Op}{t:abd}{pos:String}{after:Array Edge}{r:Out×List Prop}(h:tK P s op=some r)(ho:AllP r.2) :
  Step P N R s ⟨none,op,t,pos,after,none⟩ r.1:=by
 unfold tK at h;split at h
 ·split at h
  ·rename_i h1;split at h
   ·rename_i h2;split at h
    ·rename_i hk;split at h
     ·rename_i ti bj;split at h
      ·rename_i hc;simp only[ZW]at hc;split at h
       ·rename_i l hl;cases h;cases gm hl
        exact OZ (cL h1 ho.app.1 trivial) hk (cL h2 ho.app.2 trivial) hc.1.1 (a8 bj) hc.1.2 hc.2
       ·cases h
      ·cases h
     ·cases h
    ·cases h
   ·cases h
  ·cases h
 ·cases h
theorem PX{R:List Oper}{s:AS}{o:Oper}{u:Out}{ob:List Prop}(h:w8 P N R s o=some (u,ob))(ho:AllP ob):Step P N R.toArray s o u/\iI s u:=by
 obtain⟨dst,op,ty,pos,after,guard⟩:=o;unfold w8 at h;simp only at h;split at h
 ·split at h
  ·rename_i d;split at h
   ·rename_i hN;split at h
    ·rename_i h1;cases h;exact⟨tk h1 ho trivial hN,fun k hk=>by simp at hk⟩
    ·split at h
     ·rename_i r h1;obtain⟨h2,h3⟩:=Gz h;subst h2;exact⟨HV h1 ho hN,h3⟩
     ·cases h
   ·cases h
  ·split at h
   ·rename_i r h1;obtain⟨h2,h3⟩:=Gz h;subst h2;exact⟨B9 h1 ho,h3⟩
   ·cases h
 ·rename_i j want;split at h
  ·rename_i og sw;split at h
   ·rename_i g hg;split at h
    ·rename_i d;split at h
     ·rename_i hN;split at h
      ·rename_i G b hG;split at h
       ·rename_i h1;cases h;have hj:(R.toArray[j]?).bind (·.dst) = some g:=by simp [sw,hg]
        unfold tD at hG;split at hG
        ·rename_i x hx;split at hG
         ·cases hG;exact⟨bB hj hx hN (fun h=>tk h1 ho h hN),fun k hk=>by simp at hk⟩
         ·cases hG;exact⟨nF hj hx hN (fun hc h=>tk h1 ho ⟨hc,h⟩ hN),fun k hk=>by simp at hk⟩
         ·cases hG
        ·cases hG
       ·cases h
      ·cases h
     ·cases h
    ·cases h
   ·cases h
  ·cases h
def zS:BinOp->Bool
  | .add | .sub | .mul=>true
  |_=>false
theorem DL:∀{op:BinOp},zS op=true->(match op with | .add | .sub | .mul=>true |_=>false)=true:=by intro op;cases op <;> intro h <;> first |rfl |cases h
structure R2 where
  w:Want
  rt:List Nat
  ob:List Prop
def vm(P:abe)[Inhabited (Tys P)](g:Bool)(G:Prop)(s:AS):Op->Option R2
  | .binOp op _ x y _=>match zS op with
    |true=>match cw g G s x with
      |some (.v (.int k a),ob)=>match cw g G s y with
        |some (.v (.int k' b),ob')=>match XK (cN k) (cN k')with
          |true=>some ⟨.ar op k a b,ae x++ae y,ob++ob'⟩
          |false=>none
        |_=>none
      |_=>none
    |false=>none
  | .convert S T x=>match cw g G s x with
    |some (.v (.int _ n),ob)=>match bm P S with
      |some _=>match bm P T with
        |some ti=>match ti.k with
          | .int k'=>some ⟨.cv k' n,ae x,ob⟩
          |_=>none
        |none=>none
      |none=>none
    |_=>none
  | .indexAddr T x ix=>match cw g G s x with
    |some (.lst sz es,ob)=>match cw g G s ix with
      |some (.v (.int _ i),ob')=>match bm P T with
        |some ti=>match ti.k with
          | .slice E=>match bm P E with
            |some te=>match XK te.size sz with
              |true=>some ⟨.ix es i,ae x++ae ix,ob++ob'⟩
              |false=>none
            |none=>none
          |_=>none
        |none=>none
      |_=>none
    |_=>none
  | .call ⟨.builtin .len,args,ts⟩=>match args.toList with
    |[x]=>match ts.toList with
      |[T]=>match cw g G s x with
        |some (.lst _ es,ob)=>match bm P T with
          |some ti=>match ti.k with
            | .slice _=>some ⟨.ln es,ae x,ob⟩
            |_=>none
          |none=>none
        |_=>none
      |_=>none
    |_=>none
  | .call ⟨.value (.func f),args,_⟩=>match mg g G s args.toList with
    |some (xs,ob)=>some ⟨.cl f xs,bO args.toList,ob⟩
    |none=>none
  | .call ⟨.value (.tmp t),args,_⟩=>match cw g G s (.tmp t)with
    |some (.cl f pre caps,ob)=>match mg g G s args.toList with
      |some (xs,ob')=>some ⟨.cl f (pre++xs++caps),ae (.tmp t)++bO args.toList,ob++ob'⟩
      |none=>none
    |_=>none
  |_=>none
theorem wK{g:Bool}{G:Prop}{s:AS}{R:Array Oper}{d:Nat}{t:abd}{pos:String}{after:Array Edge}{op:Op}{r:R2}(h:vm P g G s op=some r)(ho:AllP r.ob)(hG:G)(hN:XU d N=true)
  {x:AV} (hm:rH P r.w x):Step P N R s ⟨some d,op,t,pos,after,none⟩ ⟨some x,[],r.rt,[]⟩:=by
 unfold vm at h;split at h
 ·split at h
  ·rename_i cQ;split at h
   ·rename_i h1;split at h
    ·rename_i h2;split at h
     ·rename_i hk;cases h;cases ky hk;obtain⟨n,e,rfl⟩:=hm;subst e;exact Gc (cL h1 ho.app.1 hG) (cL h2 ho.app.2 hG) (DL cQ) hN
     ·cases h
    ·cases h
   ·cases h
  ·cases h
 ·split at h
  ·rename_i h1;split at h
   ·rename_i tS hS;split at h
    ·rename_i ti hT;split at h
     ·rename_i k' hk;cases h;obtain⟨m,e,rfl⟩:=hm;subst e;exact C1 (cL h1 ho hG) hN (a8 hS) (a8 hT) hk
     ·cases h
    ·cases h
   ·cases h
  ·cases h
 ·split at h
  ·rename_i h1;split at h
   ·rename_i h2;split at h
    ·rename_i ti hT;split at h
     ·rename_i E hk;split at h
      ·rename_i te hE;split at h
       ·rename_i aA;cases h;obtain⟨h0,e,he,rfl⟩:=hm;exact rA (cL h1 ho.app.1 hG) (cL h2 ho.app.2 hG) (a8 hT) hk (a8 hE) (ZT aA) h0 he hN
       ·cases h
      ·cases h
     ·cases h
    ·cases h
   ·cases h
  ·cases h
 ·rename_i args ts;split at h
  ·rename_i y hy;split at h
   ·rename_i T hT;have e1:args = #[y]:=by apply ZL.1; simpa using hy
    have e2:ts=#[T]:=by apply ZL.1;simpa using hT
    subst e1;subst e2
    split at h
    ·rename_i h1;split at h
     ·rename_i ti bj;split at h
      ·rename_i e hk;cases h;obtain⟨n,e,rfl⟩:=hm;subst e;exact k6 (cL h1 ho hG) (a8 bj) hk hN
      ·cases h
     ·cases h
    ·cases h
   ·cases h
  ·cases h
 ·split at h
  ·rename_i h1;cases h;exact Us hm.1 (oU hG h1 ho) hm.2 hN
  ·cases h
 ·split at h
  ·rename_i h1;split at h
   ·rename_i h2;cases h;exact Fq (cL h1 ho.app.1 hG) hm.1 (oU hG h2 ho.app.2) (fun k z h=>by cases h) (by simp[eL,qz,hm.2]) hN
   ·cases h
  ·cases h
 ·cases h
def yR(P:abe)[Inhabited (Tys P)](N:Nat)(R:List Oper)(s:AS)(o:Oper)(f:Want->List Nat->Cf)(fG:Prop->Bool->Want->List Nat->Cf):Option (Cf×List Prop):=match o.dst with
  |some d=>match XU d N with
    |true=>match o.guard with
      |none=>match vm P false True s o.op with
        |some ⟨w,rt,ob⟩=>some (f w rt,ob)
        |none=>none
      |some (j,want)=>match R[j]? with
        |some og=>match og.dst with
          |some g=>match tD s g want with
            |some (G,b)=>match vm P true G s o.op with
              |some ⟨w,rt,ob⟩=>some (fG G b w (g::rt),ob)
              |none=>none
            |none=>none
          |none=>none
        |none=>none
    |false=>none
  |none=>none
theorem N7{R:List Oper}{s:AS}{o:Oper}{f:Want->List Nat->Cf}{fG:Prop->Bool->Want->List Nat->Cf}{c:Cf}{ob:List Prop}(h:yR P N R s o f fG=some (c,ob))(ho:AllP ob) :
  (∃w rt,c=f w rt/\∀x,rH P w x->Step P N R.toArray s o ⟨some x,[],rt,[]⟩)\/(∃G b w rt,c=fG G b w rt/\∀x,(G->rH P w x)->Step P N R.toArray s o ⟨some (.opt b x),[],rt,[]⟩):=by
 obtain⟨dst,op,ty,pos,after,guard⟩:=o;unfold yR at h;simp only at h;split at h
 ·rename_i d;split at h
  ·rename_i hN;split at h
   ·split at h
    ·rename_i h1;cases h;exact .inl ⟨_,_,rfl,fun x hm=>wK h1 ho trivial hN hm⟩
    ·cases h
   ·rename_i j want;split at h
    ·rename_i og sw;split at h
     ·rename_i g hg;split at h
      ·rename_i G b hG;split at h
       ·rename_i h1;cases h;have hj:(R.toArray[j]?).bind (·.dst) = some g:=by simp [sw,hg]
        refine .inr ⟨_,_,_,_,rfl,fun x hm=>?_⟩;unfold tD at hG;split at hG
        ·rename_i y hy;split at hG
         ·cases hG;exact bB hj hy hN (fun h=>wK h1 ho h hN (hm h))
         ·cases hG;exact nF hj hy hN (fun hc h=>wK h1 ho ⟨hc,h⟩ hN (hm ⟨hc,h⟩))
         ·cases hG
        ·cases hG
       ·cases h
      ·cases h
     ·cases h
    ·cases h
  ·cases h
 ·cases h
def step(P:abe)[Inhabited (Tys P)](N:Nat)(st:Nat×Nat):Cf->Option (Cf×List Prop)
  | .code c k s=>match c with
    | .skip=>match XK 77777 st.1 with
      |true=>none
      |false=>some (.ex .normal k s,[])
    | .ret=>match XK 77777 st.1 with
      |true=>none
      |false=>some (.ex .ret k s,[])
    | .exit id=>match XK 77777 st.1 with
      |true=>none
      |false=>some (.ex (.exit id) k s,[])
    | .seq x y=>some (.code x (.seq y::k) s,[])
    | .block id c=>some (.code c (.blk id::k) s,[])
    | .region id A d=>match XK id st.1&&XK 0 st.2 with
      |true=>none
      |false=>match qS A.toList with
        |true=>some (.ops id 0 A.toList d s A.toList [] k s,[])
        |false=>none
    |_=>none
  | .ops id i R d s0 ops us k s=>match ops with
    |[]=>match d with
      |false=>some (.ex .normal k s,[])
      |true=>none
    |o::ops=>match XK id st.1&&XK (i+1) st.2 with
      |true=>none
      |false=>match w8 P N R s o with
        |some (u,ob)=>some (.ap o u id i R d s0 ops us k s,ob)
        |none=>yR P N R s o (fun w rt=>.st w rt o id i R d s0 ops us k s) (fun G b w rt=>.sg G b w rt o id i R d s0 ops us k s)
  | .ap o u id i R d s0 ops us k s=>match s with
    |⟨sl,hp⟩=>match u with
      |⟨val,upd,rt,rd⟩=>match o.dst with
        |some t=>match upd with
          |[]=>some (.ops id (i+1) R d s0 ops (us++[⟨val,[],rt,rd⟩]) k ⟨(t,val)::sl,hp⟩,[])
          |p::q=>some (.ops id (i+1) R d s0 ops (us++[⟨val,p::q,rt,rd⟩]) k ⟨(t,val)::sl,p::(q++hp)⟩,[])
        |none=>some (.ops id (i+1) R d s0 ops (us++[⟨val,upd,rt,rd⟩]) k ⟨sl,upd++hp⟩,[])
  | .ex e k s=>match k with
    |[]=>none
    | .seq c::k=>match e with
      | .normal=>some (.code c k s,[])
      |e=>some (.ex e k s,[])
    | .blk id::k=>match e with
      | .exit id'=>match XK id' id with
        |true=>some (.ex .normal k s,[])
        |false=>some (.ex (.exit id') k s,[])
      |e=>some (.ex e k s,[])
    | .lp _::k=>match e with
      | .normal=>none
      |e=>some (.ex e k s,[])
  | .st .. => none
  | .sg .. => none
def run(P:abe)[Inhabited (Tys P)](N:Nat)(st:Nat×Nat):Nat->Cf->List Prop->Option (Cf×List Prop)
  |0,c,ob=>some (c,ob)
  |n+1,c,ob=>match step P N st c with
    |none=>some (c,ob)
    |some (c',o)=>match o with
      |[]=>run P N st n c' ob
      |p::o=>run P N st n c' (p::(o++ob))
theorem HI{st:Nat×Nat}{c c':Cf}{ob:List Prop}(h:step P N st c=some (c',ob))(ho:AllP ob)(hg:Gd P N Q c'):Gd P N Q c:=by
 unfold step at h;split at h
 ·split at h
  ·split at h
   ·cases h
   ·cases h;exact BZ hg
  ·split at h
   ·cases h
   ·cases h;exact Dv hg
  ·split at h
   ·cases h
   ·cases h;exact D4 hg
  ·cases h;exact Me hg
  ·cases h;exact Jm hg
  ·split at h
   ·cases h
   ·split at h
    ·rename_i b9;cases h;exact Bl (yK b9) (fun _=>(default:Tys P).mix) hg
    ·cases h
  ·cases h
 ·split at h
  ·split at h
   ·cases h;simpa[Gd,eD]using hg
   ·cases h
  ·split at h
   ·cases h
   ·split at h
    ·rename_i h1;cases h;obtain⟨h2,h3⟩:=PX h1 ho;exact⟨_,h2,h3,hg⟩
    ·rcases N7 h ho with⟨w,rt,rfl,h2⟩ |⟨G,b,w,rt,rfl,h2⟩
     ·exact hg h2
     ·exact hg h2
 ·rename_i o u id i R d s0 ops us k s;obtain⟨sl,hp⟩:=s;obtain⟨val,upd,rt,rd⟩:=u;obtain⟨dst,op,ty,pos,after,guard⟩:=o;cases dst with
  |none=>cases h;exact hg
  |some t =>
   cases upd with
   |nil=>cases h;exact hg
   |cons p q=>cases h;exact hg
 ·rename_i e k s;cases k with
  |nil=>cases h
  |cons f k =>
   cases f with
   |seq c=>cases e <;> cases h <;> exact hg
   |blk id =>
    cases e with
    |exit id' =>
     show bN P N Q (.blk id::k) (.exit id') s;simp only[bN];simp only at h;split at h
     ·cases h;exact hg
     ·cases h;exact hg
    |_=>cases h;exact hg
   |lp K=>cases e <;> cases h <;> exact hg
 ·cases h
 ·cases h
theorem bu{st:Nat×Nat}:∀{n:Nat}{c c':Cf}{ob ob':List Prop},run P N st n c ob=some (c',ob')->AllP ob'->Gd P N Q c'->Gd P N Q c/\AllP ob
 |0,c,c',ob,ob',h,ho,hg=>by cases h;exact⟨hg,ho⟩
 |n+1,c,c',ob,ob',h,ho,hg=>by
  unfold run at h;split at h
  ·cases h;exact⟨hg,ho⟩
  ·rename_i c2 o h1;split at h
   ·obtain⟨h2,h3⟩:=bu h ho hg;exact⟨HI h1 .nil h2,h3⟩
   ·rename_i p o;obtain⟨h2,h3⟩:=bu h ho hg;cases h3 with |cons h4 h5=>exact⟨HI h1 (.cons h4 h5.app.1) h2,h5.app.2⟩
end Go.Lw
namespace Go.Lw
variable{P:abe}{N:Nat}{Q:Exit->AS->Prop}
theorem aI{a b:aX}(h:SlW a b:=by repeat(first |exact SlW.nil |refine SlW.k ?_)):SlW a b:=h
theorem Wk.o {s : AS} {sl : aX} {hp : Hp} (h1 : SlW s.sl sl := by exact aI)
  (h2:HpW s.hp hp:=by repeat(first |exact HpW.nil |refine HpW.cons rfl (.refl _) ?_)):Wk s ⟨sl,hp⟩:=Wk.of h1 h2
def jR:Nat->List Fr->Option (List Fr×Code×List Fr)
  |0,.seq y::k=>some ([],y,k)
  |n+1,f::k=>match jR n k with
    |some (a,y,b)=>some (f::a,y,b)
    |none=>none
  |_,_=>none
theorem rX:∀{n:Nat}{k k1 k2:List Fr}{y:Code},jR n k=some (k1,y,k2)->k=k1 ++ .seq y::k2
 |0,[],_,_,_,h=>by simp[jR]at h
 |0,f::k,k1,k2,y,h=>by cases f <;> simp[jR]at h;obtain⟨rfl,rfl,rfl⟩:=h;rfl
 |n+1,[],_,_,_,h=>by simp[jR]at h
 |n+1,f::k,k1,k2,y,h=>by
  simp only[jR]at h;split at h
  ·rename_i h1;cases h;rw[rX h1];rfl
  ·cases h
theorem jH{k2:List Fr}{y:Code}{K:AS->Prop}(hK:∀s,K s->aR P N y (bN P N Q k2) s) :
  ∀(k1:List Fr)(e:Exit)(s:AS),bN P N Q (k1 ++ .lp K::k2) e s->bN P N Q (k1 ++ .seq y::k2) e s
 |[],e,s,h=>by cases e <;> first |exact hK s h |exact h
 | .seq c::k1,e,s,h=>by
  cases e with
  |normal=>exact fv (h:aR P N c _ s) (fun e s=>jH hK k1 e s)
  |_=>exact jH hK k1 _ s h
 | .blk id::k1,e,s,h=>by
  cases e with
  |exit id' =>
   simp only[List.cons_append,bN]at h ⊢;split at h
   ·exact jH hK k1 _ s h
   ·exact jH hK k1 _ s h
  |_=>exact jH hK k1 _ s h
 | .lp K'::k1,e,s,h=>by
  cases e with
  |normal=>exact h
  |_=>exact jH hK k1 _ s h
def oZ:Nat->List AV->Option aX
  |_,[]=>some []
  |n,x::xs=>match oZ (n+1) xs with
    |some l=>some ((n,some x)::l)
    |none=>none
theorem uh:∀{xs:List AV}{n:Nat}{l:aX},oZ n xs=some l->l=kz n xs
 |[],n,l,h=>by cases h;rfl
 |x::xs,n,l,h=>by
  unfold oZ at h;split at h
  ·rename_i h1;cases h;rw[uh h1];rfl
  ·cases h
def pk{α:Type}(l:List (Nat×Option α)):List Nat->Option (List (Nat×Option α))
  |[]=>some []
  |t::ts=>match lk l t with
    |some x=>match pk l ts with
      |some r=>some ((t,some x)::r)
      |none=>none
    |none=>none
theorem Hj{sl:aX}:∀{ts:List Nat}{r:aX},pk sl ts=some r->SlW sl r
 |[],r,h=>by cases h;exact .nil
 |t::ts,r,h=>by
  unfold pk at h;split at h
  ·rename_i h1;split at h
   ·rename_i h2;cases h;exact .cons h1 (.refl _) (Hj h2)
   ·cases h
  ·cases h
theorem HT{hp:Hp}:∀{ts:List Nat}{r:Hp},pk hp ts=some r->HpW hp r
 |[],r,h=>by cases h;exact .nil
 |t::ts,r,h=>by
  unfold pk at h;split at h
  ·rename_i h1;split at h
   ·rename_i h2;cases h;exact .cons h1 (.refl _) (HT h2)
   ·cases h
  ·cases h
theorem SlW.ap{sl a b:aX}(h:SlW sl a)(h':SlW sl b):SlW sl (a++b):=by
 induction h with
 |nil=>exact h'
 |cons h1 h2 _ ih=>exact .cons h1 h2 ih
theorem HpW.ap{sl a b:Hp}(h:HpW sl a)(h':HpW sl b):HpW sl (a++b):=by
 induction h with
 |nil=>exact h'
 |cons h1 h2 _ ih=>exact .cons h1 h2 ih
theorem Wk.p{s:AS}{a b:aX}{c d:Hp}{ks kh:List Nat}(h1:SlW s.sl a)(h2:HpW s.hp c)(hs:pk s.sl ks=some b)(hh:pk s.hp kh=some d):Wk s ⟨a++b,c++d⟩ :=
 Wk.of (h1.ap (Hj hs)) (h2.ap (HT hh))
def tE:Exit->Bool
  | .normal | .ret=>true
  |_=>false
theorem ig{s:AS}{x:Option AV}{rt rd:List Nat}:iI s ⟨x,[],rt,rd⟩:=fun _ hk=>by simp at hk
theorem qC{c:Code}{k:List Fr}{s:AS}{α:Type}{f:α->AV}{l:List α}{t sz:Nat}(ht:s.get t=some (.lst sz (l.map f)))(h:l.length<=an->Gd P N Q (.code c k s)):Gd P N Q (.code c k s):=Ud ht h
theorem Ho{S:AS}{F:Prop}{K:AS->Prop}{k:List Fr}{s:AS}(hK:∀(s1:AS),F->Wk s1 S->K s1)(hF:F)(hw:Wk s S:=by exact Wk.o):Gd P N Q (.ex .normal (.lp K::k) s):=hK s hF hw
theorem aG{P':Type}{S:P'->AS}{F:P'->Prop}{M:P'->Nat}{m0:Nat}{K:AS->Prop}{k:List Fr}{s:AS}(hK:∀(s1:AS),∀(p2:P'),F p2->M p2<m0->Wk s1 (S p2)->K s1)(p0:P')(hF:F p0)
  (hl:M p0<m0:=by first |omega |(dsimp only;omega)) (hw:Wk s (S p0):=by exact Wk.o):Gd P N Q (.ex .normal (.lp K::k) s):=hK s p0 hF hl hw
theorem Dj{P':Type}{S:P'->AS}{F:P'->Prop}{K:AS->Prop}{k:List Fr}{s:AS}(hK:∀(s1:AS),∀(p:P'),F p->Wk s1 (S p)->K s1)(p0:P')(hF:F p0)(hw:Wk s (S p0):=by exact Wk.o):Gd P N Q (.ex .normal (.lp K::k) s):=hK s p0 hF hw
theorem dt{P' Q':Type}{S:P'->Q'->AS}{F:P'->Q'->Prop}{M:P'->Q'->Nat}{m0:Nat}{K:AS->Prop}{k:List Fr}{s:AS}(hK:∀(s1:AS),∀(p2:P')(q2:Q'),F p2 q2->M p2 q2<m0->Wk s1 (S p2 q2)->K s1)(p0:P')(q0:Q')(hF:F p0 q0)
  (hl:M p0 q0<m0:=by first |omega |(dsimp only;omega)) (hw:Wk s (S p0 q0):=by exact Wk.o):Gd P N Q (.ex .normal (.lp K::k) s):=hK s p0 q0 hF hl hw
theorem oE{P' Q':Type}{S:P'->Q'->AS}{F:P'->Q'->Prop}{K:AS->Prop}{k:List Fr}{s:AS}(hK:∀(s1:AS),∀(p:P')(q:Q'),F p q->Wk s1 (S p q)->K s1)(p0:P')(q0:Q')(hF:F p0 q0)(hw:Wk s (S p0 q0):=by exact Wk.o):Gd P N Q (.ex .normal (.lp K::k) s):=hK s p0 q0 hF hw
theorem fa{P' Q' R':Type}{S:P'->Q'->R'->AS}{F:P'->Q'->R'->Prop}{M:P'->Q'->R'->Nat}{m0:Nat}{K:AS->Prop}{k:List Fr}{s:AS}(hK:∀(s1:AS),∀(p2:P')(q2:Q')(r2:R'),F p2 q2 r2->M p2 q2 r2<m0->Wk s1 (S p2 q2 r2)->K s1)(p0:P')(q0:Q')(r0:R')(hF:F p0 q0 r0)
  (hl:M p0 q0 r0<m0:=by first |omega |(dsimp only;omega)) (hw:Wk s (S p0 q0 r0):=by exact Wk.o):Gd P N Q (.ex .normal (.lp K::k) s):=hK s p0 q0 r0 hF hl hw
theorem GW{P' Q' R' T':Type}{S:P'->Q'->R'->T'->AS}{F:P'->Q'->R'->T'->Prop}{M:P'->Q'->R'->T'->Nat}{m0:Nat}{K:AS->Prop}{k:List Fr}{s:AS}(hK:∀(s1:AS),∀(p2:P')(q2:Q')(r2:R')(t2:T'),F p2 q2 r2 t2->M p2 q2 r2 t2<m0->Wk s1 (S p2 q2 r2 t2)->K s1)(p0:P')(q0:Q')(r0:R')(t0:T')(hF:F p0 q0 r0 t0)
  (hl:M p0 q0 r0 t0<m0:=by first |omega |(dsimp only;omega)) (hw:Wk s (S p0 q0 r0 t0):=by exact Wk.o):Gd P N Q (.ex .normal (.lp K::k) s):=hK s p0 q0 r0 t0 hF hl hw
theorem EM{P' Q' R' T':Type}{S:P'->Q'->R'->T'->AS}{F:P'->Q'->R'->T'->Prop}{K:AS->Prop}{k:List Fr}{s:AS}(hK:∀(s1:AS),∀(p:P')(q:Q')(r:R')(t:T'),F p q r t->Wk s1 (S p q r t)->K s1)(p0:P')(q0:Q')(r0:R')(t0:T')(hF:F p0 q0 r0 t0)(hw:Wk s (S p0 q0 r0 t0):=by exact Wk.o):Gd P N Q (.ex .normal (.lp K::k) s):=hK s p0 q0 r0 t0 hF hw
theorem Hq{P' Q' R' T' U':Type}{S:P'->Q'->R'->T'->U'->AS}{F:P'->Q'->R'->T'->U'->Prop}{M:P'->Q'->R'->T'->U'->Nat}{m0:Nat}{K:AS->Prop}{k:List Fr}{s:AS}(hK:∀(s1:AS),∀(p2:P')(q2:Q')(r2:R')(t2:T')(u2:U'),F p2 q2 r2 t2 u2->M p2 q2 r2 t2 u2<m0->Wk s1 (S p2 q2 r2 t2 u2)->K s1)(p0:P')(q0:Q')(r0:R')(t0:T')(u0:U')(hF:F p0 q0 r0 t0 u0)
  (hl:M p0 q0 r0 t0 u0<m0:=by first |omega |(dsimp only;omega)) (hw:Wk s (S p0 q0 r0 t0 u0):=by exact Wk.o):Gd P N Q (.ex .normal (.lp K::k) s):=hK s p0 q0 r0 t0 u0 hF hl hw
variable[Inhabited (Tys P)]
variable{s:AS}{k:List Fr}{ob:List Prop}{c':Cf}{us:List Out}{s0:AS}{id i:Nat}{R:List Oper}{sl:aX}{ops:List Oper}{o:Oper}{draw:Bool}{rt:List Nat}{hp:Hp}{u:Out}
def nE(P:abe)[Inhabited (Tys P)](s:AS):List ResultVar->Option (List AV)
  |[]=>some []
  |r::rs=>match nE P s rs with
    |some xs=>match r with
      | .tmp t=>match s.get t with
        |some x=>some (x::xs)
        |none=>none
      | .cell t T=>match s.get t with
        |some (.ptr k off)=>match s.blk k with
          |some (.box cs)=>match bm P T with
            |some ti=>match XK off 0&&Nat.ble ti.size cs.length with
              |true=>match rD ti cs with
                |some v=>some (v::xs)
                |none=>none
              |false=>none
            |none=>none
          |_=>none
        |_=>none
    |none=>none
theorem yz{s:AS}:∀{rs:List ResultVar}{xs:List AV},nE P s rs=some xs->ResL P s rs xs
 |[],xs,h=>by cases h;exact .nil
 |r::rs,xs,h=>by
  unfold nE at h;split at h
  ·rename_i ys hy;have ih:=yz hy;split at h
   ·split at h
    ·rename_i hx;cases h;exact .cons (.tmp hx) ih
    ·cases h
   ·split at h
    ·rename_i hx;split at h
     ·rename_i hk;split at h
      ·rename_i ti bj;split at h
       ·rename_i hc;simp only[ZW]at hc;have:=ZT hc.1;subst this;split at h
        ·rename_i v hv;cases h;obtain⟨h2,rfl⟩:=wP hv;exact .cons (.cell hx hk (a8 bj) hc.2 h2) ih
        ·cases h
       ·cases h
      ·cases h
     ·cases h
    ·cases h
  ·cases h
theorem gR {rs : List ResultVar} {xs : List AV} {r : AV} {H' : Hp} {e : Exit} (h : aM s (ck xs) r H') (hx : nE P s rs = some xs := by exact rfl) (he : tE e = true := by exact rfl) :
  Gd P N (mo P rs r H') (.ex e [] s):=by
 cases e <;> first |exact⟨xs,yz hx,h⟩ |cases he
theorem af {rs : List ResultVar} {x r : AV} {e : Exit} (h : x = r) (hx : nE P s rs = some [x] := by exact rfl) (he : tE e = true := by exact rfl) :
  Gd P N (mo P rs r []) (.ex e [] s):=gR (C0 h) hx he
theorem bh {rs : List ResultVar} {x y r : AV} {e : Exit} (h : .tup [x, y] = r) (hx : nE P s rs = some [x, y] := by exact rfl) (he : tE e = true := by exact rfl) :
  Gd P N (mo P rs r []) (.ex e [] s):=gR (LN h) hx he
theorem bE{ob:List Prop}(h:AllP ob:=by repeat(first |exact AllP.nil |refine AllP.cons (by first |(intro h;(try simp only[pG]at h);simp only[h,beq_self_eq_true,Bool.and_self];done) |exact U1 _ |exact .inl rfl |exact .inr ⟨_,_,rfl⟩ |(intro h;simp_all;done)) ?_)):AllP ob:=h
theorem go{c c':Cf}(h:Gd P N Q c')(st:Nat×Nat:=(99999,0))(hr:run P N st 999 c []=some (c',ob):=by exact rfl)(ho:AllP ob:=by exact bE):Gd P N Q c:=(bu hr ho h).1
theorem gW{c:Code}{s s':AS}(hw:Wk s s')(h:Gd P N Q c')(st:Nat×Nat:=(99999,0))(hr:run P N st 999 (.code c k s') []=some (c',ob):=by exact rfl)(ho:AllP ob:=by exact bE):Gd P N Q (.code c k s):=mM hw (bu hr ho h).1
theorem gC{c:abb}{x y:Code}{b:Bool}{c1 c2:Cf}{ob1 ob2:List Prop}(ht:b=true->Gd P N Q c1)(hf:b=false->Gd P N Q c2)(st1:Nat×Nat:=(99999,0))(st2:Nat×Nat:=(99999,0))
  (hc:Ev s c (.v (.bool b)):=by first |exact .tmp rfl |exact .const _) (aC:run P N st1 999 (.code x k s) []=some (c1,ob1):=by exact rfl) (fF:AllP ob1:=by exact bE) (cP:run P N st2 999 (.code y k s) []=some (c2,ob2):=by exact rfl) (fh:AllP ob2:=by exact bE) :
  Gd P N Q (.code (.cond c x y) k s):=uY hc (fun h=>(bu aC fF (ht h)).1) (fun h=>(bu cP fh (hf h)).1)
theorem gf {c : abb} {x y : Code} {b : Bool} {c2 : Cf} {ob2 : List Prop} (hf : Gd P N Q c2) (st2 : Nat × Nat := (99999, 0)) (hc : Ev s c (.v (.bool b)) := by first | exact .tmp rfl | exact .const _) (hb : b = false := by rfl) (cP : run P N st2 999 (.code y k s) [] = some (c2, ob2) := by exact rfl) (fh : AllP ob2 := by exact bE) :
  Gd P N Q (.code (.cond c x y) k s):=uY hc (fun h=>Bool.noConfusion (hb.symm.trans h)) (fun _=>(bu cP fh hf).1)
theorem gs (hs : Step P N R.toArray s o u) (h : Gd P N Q c') (st : Nat × Nat := (99999, 0)) (hn : iI s u := by first | exact vo rfl | exact ig) (hr : run P N st 999 (.ap o u id i R draw s0 ops us k s) [] = some (c', ob) := by exact rfl) (ho : AllP ob := by exact bE) :
  Gd P N Q (.ops id i R draw s0 (o::ops) us k s):=⟨u,hs,hn,(bu hr ho h).1⟩
theorem gt {w : Want} (hs : Step P N R.toArray s o u) (h : Gd P N Q c') (st : Nat × Nat := (99999, 0)) (hn : iI s u := by first | exact vo rfl | exact ig) (hr : run P N st 999 (.ap o u id i R draw s0 ops us k s) [] = some (c', ob) := by exact rfl) (ho : AllP ob := by exact bE) :
  Gd P N Q (.st w rt o id i R draw s0 ops us k s):=fun _=>⟨u,hs,hn,(bu hr ho h).1⟩
theorem ga {op : BinOp} {K : IntKind} {a b n : Int} (he : K.wrap (dV op a b) = n) (h : Gd P N Q c') (st : Nat × Nat := (99999, 0)) (hr : run P N st 999 (.ap o ⟨some (.v (.int K n)), [], rt, []⟩ id i R draw s0 ops us k s) [] = some (c', ob) := by exact rfl) (ho : AllP ob := by exact bE) :
  Gd P N Q (.st (.ar op K a b) rt o id i R draw s0 ops us k s):=fun aZ=>⟨⟨some (.v (.int K n)),[],rt,[]⟩,aZ _ (⟨_,he,rfl⟩),ig,(bu hr ho h).1⟩
theorem fD {op : BinOp} {K : IntKind} {a b n : Int} {G : Prop} {b0 : Bool} (he : G -> K.wrap (dV op a b) = n) (h : Gd P N Q c') (st : Nat × Nat := (99999, 0)) (hr : run P N st 999 (.ap o ⟨some (.opt b0 (.v (.int K n))), [], rt, []⟩ id i R draw s0 ops us k s) [] = some (c', ob) := by exact rfl) (ho : AllP ob := by exact bE) :
  Gd P N Q (.sg G b0 (.ar op K a b) rt o id i R draw s0 ops us k s):=fun aZ=>⟨⟨some (.opt b0 (.v (.int K n))),[],rt,[]⟩,aZ _ (fun hG=>⟨_,(he hG),rfl⟩),ig,(bu hr ho h).1⟩
theorem gv {K : IntKind} {n m : Int} (he : K.wrap n = m) (h : Gd P N Q c') (st : Nat × Nat := (99999, 0)) (hr : run P N st 999 (.ap o ⟨some (.v (.int K m)), [], rt, []⟩ id i R draw s0 ops us k s) [] = some (c', ob) := by exact rfl) (ho : AllP ob := by exact bE) :
  Gd P N Q (.st (.cv K n) rt o id i R draw s0 ops us k s):=fun aZ=>⟨⟨some (.v (.int K m)),[],rt,[]⟩,aZ _ (⟨_,he,rfl⟩),ig,(bu hr ho h).1⟩
theorem JA {K : IntKind} {n m : Int} {G : Prop} {b0 : Bool} (he : G -> K.wrap n = m) (h : Gd P N Q c') (st : Nat × Nat := (99999, 0)) (hr : run P N st 999 (.ap o ⟨some (.opt b0 (.v (.int K m))), [], rt, []⟩ id i R draw s0 ops us k s) [] = some (c', ob) := by exact rfl) (ho : AllP ob := by exact bE) :
  Gd P N Q (.sg G b0 (.cv K n) rt o id i R draw s0 ops us k s):=fun aZ=>⟨⟨some (.opt b0 (.v (.int K m))),[],rt,[]⟩,aZ _ (fun hG=>⟨_,(he hG),rfl⟩),ig,(bu hr ho h).1⟩
theorem gl {α : Type} {f : α -> AV} {l : List α} {es : List AV} (h : Gd P N Q c') (st : Nat × Nat := (99999, 0)) (he : es = l.map f := by exact rfl) (hr : run P N st 999 (.ap o ⟨some (.v (.int .i64 (l.length : Nat))), [], rt, []⟩ id i R draw s0 ops us k s) [] = some (c', ob) := by exact rfl) (ho : AllP ob := by exact bE) :
  Gd P N Q (.st (.ln es) rt o id i R draw s0 ops us k s):=fun aZ=>⟨⟨some (.v (.int .i64 (l.length:Nat))),[],rt,[]⟩,aZ _ (⟨_,(by rw[he,ZU]),rfl⟩),ig,(bu hr ho h).1⟩
theorem cu {α : Type} {f : α -> AV} {l : List α} {es : List AV} {G : Prop} {b0 : Bool} (h : Gd P N Q c') (st : Nat × Nat := (99999, 0)) (he : G -> es = l.map f := by intro h; exact rfl) (hr : run P N st 999 (.ap o ⟨some (.opt b0 (.v (.int .i64 (l.length : Nat)))), [], rt, []⟩ id i R draw s0 ops us k s) [] = some (c', ob) := by exact rfl) (ho : AllP ob := by exact bE) :
  Gd P N Q (.sg G b0 (.ln es) rt o id i R draw s0 ops us k s):=fun aZ=>⟨⟨some (.opt b0 (.v (.int .i64 (l.length:Nat)))),[],rt,[]⟩,aZ _ (fun hG=>⟨_,(by rw[(he hG),ZU]),rfl⟩),ig,(bu hr ho h).1⟩
theorem ge {n : Nat} {es : List AV} (he : es.length = n) (h : Gd P N Q c') (st : Nat × Nat := (99999, 0)) (hr : run P N st 999 (.ap o ⟨some (.v (.int .i64 n)), [], rt, []⟩ id i R draw s0 ops us k s) [] = some (c', ob) := by exact rfl) (ho : AllP ob := by exact bE) :
  Gd P N Q (.st (.ln es) rt o id i R draw s0 ops us k s):=fun aZ=>⟨⟨some (.v (.int .i64 n)),[],rt,[]⟩,aZ _ (⟨_,he,rfl⟩),ig,(bu hr ho h).1⟩
theorem gi {es : List AV} {e : AV} {z : Int} (he : es[z.toNat]? = some e) (h : Gd P N Q c') (st : Nat × Nat := (99999, 0)) (h0 : 0 <= z := by omega) (hr : run P N st 999 (.ap o ⟨some (.iptr e.cells), [], rt, []⟩ id i R draw s0 ops us k s) [] = some (c', ob) := by exact rfl) (ho : AllP ob := by exact bE) :
  Gd P N Q (.st (.ix es z) rt o id i R draw s0 ops us k s):=fun aZ=>⟨⟨some (.iptr e.cells),[],rt,[]⟩,aZ _ (⟨h0,_,he,rfl⟩),ig,(bu hr ho h).1⟩
theorem fL {es : List AV} {e : AV} {z : Int} {G : Prop} {b0 : Bool} (he : G -> es[z.toNat]? = some e) (h : Gd P N Q c') (st : Nat × Nat := (99999, 0)) (h0 : G -> 0 <= z := by intro h; omega) (hr : run P N st 999 (.ap o ⟨some (.opt b0 (.iptr e.cells)), [], rt, []⟩ id i R draw s0 ops us k s) [] = some (c', ob) := by exact rfl) (ho : AllP ob := by exact bE) :
  Gd P N Q (.sg G b0 (.ix es z) rt o id i R draw s0 ops us k s):=fun aZ=>⟨⟨some (.opt b0 (.iptr e.cells)),[],rt,[]⟩,aZ _ (fun hG=>⟨(h0 hG),_,(he hG),rfl⟩),ig,(bu hr ho h).1⟩
theorem gc {f : FuncId} {xs : List AV} {r : AV} (hc : gh P f xs r) (h : Gd P N Q c') (st : Nat × Nat := (99999, 0)) (hnm : r.nm = [] := by exact rfl) (hr : run P N st 999 (.ap o ⟨some (r), [], rt, []⟩ id i R draw s0 ops us k s) [] = some (c', ob) := by exact rfl) (ho : AllP ob := by exact bE) :
  Gd P N Q (.st (.cl f xs) rt o id i R draw s0 ops us k s):=fun aZ=>⟨⟨some (r),[],rt,[]⟩,aZ _ (⟨hc,hnm⟩),ig,(bu hr ho h).1⟩
theorem aO {f : FuncId} {xs : List AV} {r : AV} {G : Prop} {b0 : Bool} (hc : G -> gh P f xs r) (h : Gd P N Q c') (st : Nat × Nat := (99999, 0)) (hnm : G -> r.nm = [] := by intro h; exact rfl) (hr : run P N st 999 (.ap o ⟨some (.opt b0 (r)), [], rt, []⟩ id i R draw s0 ops us k s) [] = some (c', ob) := by exact rfl) (ho : AllP ob := by exact bE) :
  Gd P N Q (.sg G b0 (.cl f xs) rt o id i R draw s0 ops us k s):=fun aZ=>⟨⟨some (.opt b0 (r)),[],rt,[]⟩,aZ _ (fun hG=>⟨(hc hG),(hnm hG)⟩),ig,(bu hr ho h).1⟩
theorem gD (h : Gd P N Q c') (st : Nat × Nat := (99999, 0)) (hc : chk R us s0 = true := by kernel_rfl) (hr : run P N st 999 (.ex .normal k s) [] = some (c', ob) := by exact rfl) (ho : AllP ob := by exact bE) :
  Gd P N Q (.ops id i R true s0 [] us k s):=by
 simp only[Gd,eD];exact⟨fun _=>hc,(bu hr ho h).1⟩
theorem gF{f:FuncId}{fn:Func}{c:Code}{args:List AV}{H:Hp}{r:AV}{H':Hp}(hf:P.funcs[f]?=some fn)(hH:∀k z,lk H k=some z->1000<=k)
  (h : Gd P fn.ntmps (mo P fn.results.toList r H') c') (st : Nat × Nat := (99999, 0)) (hb : fn.body = some c := by exact rfl) (hn : (fn.name == "runtime.NumGoroutine") = false := by exact rfl)
  (hs:oZ 0 args=some sl:=by exact rfl) (hr:run P fn.ntmps st 999 (.code c [] ⟨sl,H⟩) []=some (c',ob):=by exact rfl) (ho:AllP ob:=by exact bE):Con P f args H r H':=ye hf hb hn (by simp) rfl hH (uh hs▸(bu hr ho h).1)
theorem ai{f:FuncId}{fn:Func}{c:Code}{args:List AV}{r:AV}(hf:P.funcs[f]?=some fn)
  (h : Gd P fn.ntmps (mo P fn.results.toList r []) c') (st : Nat × Nat := (99999, 0)) (hb : fn.body = some c := by exact rfl) (hn : (fn.name == "runtime.NumGoroutine") = false := by exact rfl)
  (hs:oZ 0 args=some sl:=by exact rfl) (hr:run P fn.ntmps st 999 (.code c [] ⟨sl,[]⟩) []=some (c',ob):=by exact rfl) (ho:AllP ob:=by exact bE):gh P f args r:=Ny hf hb hn (by simp) rfl (uh hs▸(bu hr ho h).1)
theorem tt{c:Code}{C:(AS->Prop)->Cf}{ob:(AS->Prop)->List Prop}(ks kh:List Nat)(f:aX)(g:Hp)(F:Prop)(M:Nat)(hF:F)
  (h:F->∀K:AS->Prop,(∀(s1:AS),F->M<M->Wk s1 ⟨f++sl,g++hp⟩->K s1)->Gd P N Q (C K)) (st:Nat×Nat:=(99999,0)) (hs:pk s.sl ks=some sl:=by exact rfl) (hh:pk s.hp kh=some hp:=by exact rfl)
  (h1:SlW s.sl (f):=by exact aI) (h2:HpW s.hp (g):=by repeat(first |exact HpW.nil |refine HpW.cons rfl (.refl _) ?_)) (hr:∀K,run P N st 999 (.code c (.lp K::k) ⟨f++sl,g++hp⟩) []=some (C K,ob K):=by intros;exact rfl) (ho:∀K,AllP (ob K):=by intros;exact bE):Gd P N Q (.code (.loop c) k s):=by
 refine nc (fun n s =>  M=n/\F/\s=⟨f++sl,g++hp⟩) (Wk.p h1 h2 hs hh) ⟨rfl,hF,rfl⟩ ?_;rintro n s ⟨rfl,hF,rfl⟩ K hK;exact fv (bu (hr K) (ho K) (h hF K (fun s1 h1 h2 h3=>hK s1 _ _ h3 ⟨rfl,h1,rfl⟩ h2))).1 (fun e s he=>by cases e <;> exact he)
theorem PK{c y:Code}{k k1 k2:List Fr}{c1:(AS->Prop)->Cf}{ob1:(AS->Prop)->List Prop}{c2:Cf}{ob2:List Prop}(ks kh:List Nat)(f:aX)(g:Hp)(F:Prop)(h1:∀K:AS->Prop,(∀(s1:AS),F->Wk s1 ⟨f++sl,g++hp⟩->K s1)->Gd P N Q (c1 K))
  (h2:F->Gd P N Q (c2)) (n:Nat:=0) (st1:Nat×Nat:=(99999,0)) (st2:Nat×Nat:=(99999,0)) (hk:jR n k=some (k1,y,k2):=by exact rfl) (hs:pk s.sl ks=some sl:=by exact rfl) (hh:pk s.hp kh=some hp:=by exact rfl) (aC:∀K,run P N st1 999 (.code c (k1 ++ .lp K::k2) s) []=some (c1 K,ob1 K):=by intros;exact rfl) (fF:∀K,AllP (ob1 K):=by intros;exact bE) (cP:run P N st2 999 (.code y k2 ⟨f++sl,g++hp⟩) []=some (c2,ob2):=by intros;exact rfl) (fh:AllP (ob2):=by intros;exact bE):Gd P N Q (.code c k s):=by
 rw[rX hk];exact fv (bu (aC (fun s=>aR P N y (bN P N Q k2) s)) (fF _) (h1 (fun s=>aR P N y (bN P N Q k2) s) (fun s1 hF hw=>mM hw (bu (cP) (fh) (h2 hF)).1))).1 (fun e s=>jH (fun s h=>h) k1 e s)
theorem aK{P':Type}{c:Code}{C:P'->(AS->Prop)->Cf}{ob:P'->(AS->Prop)->List Prop}(ks kh:List Nat)(f:P'->aX)(g:P'->Hp)(F:P'->Prop)(M:P'->Nat)(p0:P')(hF:F p0)
  (h:∀(p:P'),F p->∀K:AS->Prop,(∀(s1:AS),∀(p2:P'),F p2->M p2<M p->Wk s1 ⟨f p2++sl,g p2++hp⟩->K s1)->Gd P N Q (C p K)) (st:Nat×Nat:=(99999,0)) (hs:pk s.sl ks=some sl:=by exact rfl) (hh:pk s.hp kh=some hp:=by exact rfl)
  (h1:SlW s.sl (f p0):=by exact aI) (h2:HpW s.hp (g p0):=by repeat(first |exact HpW.nil |refine HpW.cons rfl (.refl _) ?_)) (hr:∀(p:P'),∀K,run P N st 999 (.code c (.lp K::k) ⟨f p++sl,g p++hp⟩) []=some (C p K,ob p K):=by intros;exact rfl) (ho:∀(p:P'),∀K,AllP (ob p K):=by intros;exact bE):Gd P N Q (.code (.loop c) k s):=by
 refine nc (fun n s=>∃(p:P'),M p=n/\F p/\s=⟨f p++sl,g p++hp⟩) (Wk.p h1 h2 hs hh) ⟨p0,rfl,hF,rfl⟩ ?_;rintro n s ⟨p,rfl,hF,rfl⟩ K hK;exact fv (bu (hr p K) (ho p K) (h p hF K (fun s1 p2 h1 h2 h3=>hK s1 _ _ h3 ⟨p2,rfl,h1,rfl⟩ h2))).1 (fun e s he=>by cases e <;> exact he)
theorem OQ{P':Type}{c y:Code}{k k1 k2:List Fr}{c1:(AS->Prop)->Cf}{ob1:(AS->Prop)->List Prop}{c2:P'->Cf}{ob2:P'->List Prop}(ks kh:List Nat)(f:P'->aX)(g:P'->Hp)(F:P'->Prop)(h1:∀K:AS->Prop,(∀(s1:AS),∀(p:P'),F p->Wk s1 ⟨f p++sl,g p++hp⟩->K s1)->Gd P N Q (c1 K))
  (h2:∀(p:P'),F p->Gd P N Q (c2 p)) (n:Nat:=0) (st1:Nat×Nat:=(99999,0)) (st2:Nat×Nat:=(99999,0)) (hk:jR n k=some (k1,y,k2):=by exact rfl) (hs:pk s.sl ks=some sl:=by exact rfl) (hh:pk s.hp kh=some hp:=by exact rfl) (aC:∀K,run P N st1 999 (.code c (k1 ++ .lp K::k2) s) []=some (c1 K,ob1 K):=by intros;exact rfl) (fF:∀K,AllP (ob1 K):=by intros;exact bE) (cP:∀(p:P'),run P N st2 999 (.code y k2 ⟨f p++sl,g p++hp⟩) []=some (c2 p,ob2 p):=by intros;exact rfl) (fh:∀(p:P'),AllP (ob2 p):=by intros;exact bE):Gd P N Q (.code c k s):=by
 rw[rX hk];exact fv (bu (aC (fun s=>aR P N y (bN P N Q k2) s)) (fF _) (h1 (fun s=>aR P N y (bN P N Q k2) s) (fun s1 p hF hw=>mM hw (bu (cP p) (fh p) (h2 p hF)).1))).1 (fun e s=>jH (fun s h=>h) k1 e s)
theorem ek{P' Q':Type}{c:Code}{C:P'->Q'->(AS->Prop)->Cf}{ob:P'->Q'->(AS->Prop)->List Prop}(ks kh:List Nat)(f:P'->Q'->aX)(g:P'->Q'->Hp)(F:P'->Q'->Prop)(M:P'->Q'->Nat)(p0:P')(q0:Q')(hF:F p0 q0)
  (h:∀(p:P')(q:Q'),F p q->∀K:AS->Prop,(∀(s1:AS),∀(p2:P')(q2:Q'),F p2 q2->M p2 q2<M p q->Wk s1 ⟨f p2 q2++sl,g p2 q2++hp⟩->K s1)->Gd P N Q (C p q K)) (st:Nat×Nat:=(99999,0)) (hs:pk s.sl ks=some sl:=by exact rfl) (hh:pk s.hp kh=some hp:=by exact rfl)
  (h1:SlW s.sl (f p0 q0):=by exact aI) (h2:HpW s.hp (g p0 q0):=by repeat(first |exact HpW.nil |refine HpW.cons rfl (.refl _) ?_)) (hr:∀(p:P')(q:Q'),∀K,run P N st 999 (.code c (.lp K::k) ⟨f p q++sl,g p q++hp⟩) []=some (C p q K,ob p q K):=by intros;exact rfl) (ho:∀(p:P')(q:Q'),∀K,AllP (ob p q K):=by intros;exact bE):Gd P N Q (.code (.loop c) k s):=by
 refine nc (fun n s=>∃(p:P')(q:Q'),M p q=n/\F p q/\s=⟨f p q++sl,g p q++hp⟩) (Wk.p h1 h2 hs hh) ⟨p0,q0,rfl,hF,rfl⟩ ?_;rintro n s ⟨p,q,rfl,hF,rfl⟩ K hK;exact fv (bu (hr p q K) (ho p q K) (h p q hF K (fun s1 p2 q2 h1 h2 h3=>hK s1 _ _ h3 ⟨p2,q2,rfl,h1,rfl⟩ h2))).1 (fun e s he=>by cases e <;> exact he)
theorem xX{P' Q':Type}{c y:Code}{k k1 k2:List Fr}{c1:(AS->Prop)->Cf}{ob1:(AS->Prop)->List Prop}{c2:P'->Q'->Cf}{ob2:P'->Q'->List Prop}(ks kh:List Nat)(f:P'->Q'->aX)(g:P'->Q'->Hp)(F:P'->Q'->Prop)(h1:∀K:AS->Prop,(∀(s1:AS),∀(p:P')(q:Q'),F p q->Wk s1 ⟨f p q++sl,g p q++hp⟩->K s1)->Gd P N Q (c1 K))
  (h2:∀(p:P')(q:Q'),F p q->Gd P N Q (c2 p q)) (n:Nat:=0) (st1:Nat×Nat:=(99999,0)) (st2:Nat×Nat:=(99999,0)) (hk:jR n k=some (k1,y,k2):=by exact rfl) (hs:pk s.sl ks=some sl:=by exact rfl) (hh:pk s.hp kh=some hp:=by exact rfl) (aC:∀K,run P N st1 999 (.code c (k1 ++ .lp K::k2) s) []=some (c1 K,ob1 K):=by intros;exact rfl) (fF:∀K,AllP (ob1 K):=by intros;exact bE) (cP:∀(p:P')(q:Q'),run P N st2 999 (.code y k2 ⟨f p q++sl,g p q++hp⟩) []=some (c2 p q,ob2 p q):=by intros;exact rfl) (fh:∀(p:P')(q:Q'),AllP (ob2 p q):=by intros;exact bE):Gd P N Q (.code c k s):=by
 rw[rX hk];exact fv (bu (aC (fun s=>aR P N y (bN P N Q k2) s)) (fF _) (h1 (fun s=>aR P N y (bN P N Q k2) s) (fun s1 p q hF hw=>mM hw (bu (cP p q) (fh p q) (h2 p q hF)).1))).1 (fun e s=>jH (fun s h=>h) k1 e s)
theorem io{P' Q' R':Type}{c:Code}{C:P'->Q'->R'->(AS->Prop)->Cf}{ob:P'->Q'->R'->(AS->Prop)->List Prop}(ks kh:List Nat)(f:P'->Q'->R'->aX)(g:P'->Q'->R'->Hp)(F:P'->Q'->R'->Prop)(M:P'->Q'->R'->Nat)(p0:P')(q0:Q')(r0:R')(hF:F p0 q0 r0)
  (h:∀(p:P')(q:Q')(r:R'),F p q r->∀K:AS->Prop,(∀(s1:AS),∀(p2:P')(q2:Q')(r2:R'),F p2 q2 r2->M p2 q2 r2<M p q r->Wk s1 ⟨f p2 q2 r2++sl,g p2 q2 r2++hp⟩->K s1)->Gd P N Q (C p q r K)) (st:Nat×Nat:=(99999,0)) (hs:pk s.sl ks=some sl:=by exact rfl) (hh:pk s.hp kh=some hp:=by exact rfl)
  (h1:SlW s.sl (f p0 q0 r0):=by exact aI) (h2:HpW s.hp (g p0 q0 r0):=by repeat(first |exact HpW.nil |refine HpW.cons rfl (.refl _) ?_)) (hr:∀(p:P')(q:Q')(r:R'),∀K,run P N st 999 (.code c (.lp K::k) ⟨f p q r++sl,g p q r++hp⟩) []=some (C p q r K,ob p q r K):=by intros;exact rfl) (ho:∀(p:P')(q:Q')(r:R'),∀K,AllP (ob p q r K):=by intros;exact bE):Gd P N Q (.code (.loop c) k s):=by
 refine nc (fun n s=>∃(p:P')(q:Q')(r:R'),M p q r=n/\F p q r/\s=⟨f p q r++sl,g p q r++hp⟩) (Wk.p h1 h2 hs hh) ⟨p0,q0,r0,rfl,hF,rfl⟩ ?_;rintro n s ⟨p,q,r,rfl,hF,rfl⟩ K hK;exact fv (bu (hr p q r K) (ho p q r K) (h p q r hF K (fun s1 p2 q2 r2 h1 h2 h3=>hK s1 _ _ h3 ⟨p2,q2,r2,rfl,h1,rfl⟩ h2))).1 (fun e s he=>by cases e <;> exact he)
theorem P2{P' Q' R' T':Type}{c:Code}{C:P'->Q'->R'->T'->(AS->Prop)->Cf}{ob:P'->Q'->R'->T'->(AS->Prop)->List Prop}(ks kh:List Nat)(f:P'->Q'->R'->T'->aX)(g:P'->Q'->R'->T'->Hp)(F:P'->Q'->R'->T'->Prop)(M:P'->Q'->R'->T'->Nat)(p0:P')(q0:Q')(r0:R')(t0:T')(hF:F p0 q0 r0 t0)
  (h:∀(p:P')(q:Q')(r:R')(t:T'),F p q r t->∀K:AS->Prop,(∀(s1:AS),∀(p2:P')(q2:Q')(r2:R')(t2:T'),F p2 q2 r2 t2->M p2 q2 r2 t2<M p q r t->Wk s1 ⟨f p2 q2 r2 t2++sl,g p2 q2 r2 t2++hp⟩->K s1)->Gd P N Q (C p q r t K)) (st:Nat×Nat:=(99999,0)) (hs:pk s.sl ks=some sl:=by exact rfl) (hh:pk s.hp kh=some hp:=by exact rfl)
  (h1:SlW s.sl (f p0 q0 r0 t0):=by exact aI) (h2:HpW s.hp (g p0 q0 r0 t0):=by repeat(first |exact HpW.nil |refine HpW.cons rfl (.refl _) ?_)) (hr:∀(p:P')(q:Q')(r:R')(t:T'),∀K,run P N st 999 (.code c (.lp K::k) ⟨f p q r t++sl,g p q r t++hp⟩) []=some (C p q r t K,ob p q r t K):=by intros;exact rfl) (ho:∀(p:P')(q:Q')(r:R')(t:T'),∀K,AllP (ob p q r t K):=by intros;exact bE):Gd P N Q (.code (.loop c) k s):=by
 refine nc (fun n s=>∃(p:P')(q:Q')(r:R')(t:T'),M p q r t=n/\F p q r t/\s=⟨f p q r t++sl,g p q r t++hp⟩) (Wk.p h1 h2 hs hh) ⟨p0,q0,r0,t0,rfl,hF,rfl⟩ ?_;rintro n s ⟨p,q,r,t,rfl,hF,rfl⟩ K hK;exact fv (bu (hr p q r t K) (ho p q r t K) (h p q r t hF K (fun s1 p2 q2 r2 t2 h1 h2 h3=>hK s1 _ _ h3 ⟨p2,q2,r2,t2,rfl,h1,rfl⟩ h2))).1 (fun e s he=>by cases e <;> exact he)
theorem Oq{P' Q' R' T':Type}{c y:Code}{k k1 k2:List Fr}{c1:(AS->Prop)->Cf}{ob1:(AS->Prop)->List Prop}{c2:P'->Q'->R'->T'->Cf}{ob2:P'->Q'->R'->T'->List Prop}(ks kh:List Nat)(f:P'->Q'->R'->T'->aX)(g:P'->Q'->R'->T'->Hp)(F:P'->Q'->R'->T'->Prop)(h1:∀K:AS->Prop,(∀(s1:AS),∀(p:P')(q:Q')(r:R')(t:T'),F p q r t->Wk s1 ⟨f p q r t++sl,g p q r t++hp⟩->K s1)->Gd P N Q (c1 K))
  (h2:∀(p:P')(q:Q')(r:R')(t:T'),F p q r t->Gd P N Q (c2 p q r t)) (n:Nat:=0) (st1:Nat×Nat:=(99999,0)) (st2:Nat×Nat:=(99999,0)) (hk:jR n k=some (k1,y,k2):=by exact rfl) (hs:pk s.sl ks=some sl:=by exact rfl) (hh:pk s.hp kh=some hp:=by exact rfl) (aC:∀K,run P N st1 999 (.code c (k1 ++ .lp K::k2) s) []=some (c1 K,ob1 K):=by intros;exact rfl) (fF:∀K,AllP (ob1 K):=by intros;exact bE) (cP:∀(p:P')(q:Q')(r:R')(t:T'),run P N st2 999 (.code y k2 ⟨f p q r t++sl,g p q r t++hp⟩) []=some (c2 p q r t,ob2 p q r t):=by intros;exact rfl) (fh:∀(p:P')(q:Q')(r:R')(t:T'),AllP (ob2 p q r t):=by intros;exact bE):Gd P N Q (.code c k s):=by
 rw[rX hk];exact fv (bu (aC (fun s=>aR P N y (bN P N Q k2) s)) (fF _) (h1 (fun s=>aR P N y (bN P N Q k2) s) (fun s1 p q r t hF hw=>mM hw (bu (cP p q r t) (fh p q r t) (h2 p q r t hF)).1))).1 (fun e s=>jH (fun s h=>h) k1 e s)
theorem Gu{P' Q' R' T' U':Type}{c:Code}{C:P'->Q'->R'->T'->U'->(AS->Prop)->Cf}{ob:P'->Q'->R'->T'->U'->(AS->Prop)->List Prop}(ks kh:List Nat)(f:P'->Q'->R'->T'->U'->aX)(g:P'->Q'->R'->T'->U'->Hp)(F:P'->Q'->R'->T'->U'->Prop)(M:P'->Q'->R'->T'->U'->Nat)(p0:P')(q0:Q')(r0:R')(t0:T')(u0:U')(hF:F p0 q0 r0 t0 u0)
  (h:∀(p:P')(q:Q')(r:R')(t:T')(u:U'),F p q r t u->∀K:AS->Prop,(∀(s1:AS),∀(p2:P')(q2:Q')(r2:R')(t2:T')(u2:U'),F p2 q2 r2 t2 u2->M p2 q2 r2 t2 u2<M p q r t u->Wk s1 ⟨f p2 q2 r2 t2 u2++sl,g p2 q2 r2 t2 u2++hp⟩->K s1)->Gd P N Q (C p q r t u K)) (st:Nat×Nat:=(99999,0)) (hs:pk s.sl ks=some sl:=by exact rfl) (hh:pk s.hp kh=some hp:=by exact rfl)
  (h1:SlW s.sl (f p0 q0 r0 t0 u0):=by exact aI) (h2:HpW s.hp (g p0 q0 r0 t0 u0):=by repeat(first |exact HpW.nil |refine HpW.cons rfl (.refl _) ?_)) (hr:∀(p:P')(q:Q')(r:R')(t:T')(u:U'),∀K,run P N st 999 (.code c (.lp K::k) ⟨f p q r t u++sl,g p q r t u++hp⟩) []=some (C p q r t u K,ob p q r t u K):=by intros;exact rfl) (ho:∀(p:P')(q:Q')(r:R')(t:T')(u:U'),∀K,AllP (ob p q r t u K):=by intros;exact bE):Gd P N Q (.code (.loop c) k s):=by
 refine nc (fun n s=>∃(p:P')(q:Q')(r:R')(t:T')(u:U'),M p q r t u=n/\F p q r t u/\s=⟨f p q r t u++sl,g p q r t u++hp⟩) (Wk.p h1 h2 hs hh) ⟨p0,q0,r0,t0,u0,rfl,hF,rfl⟩ ?_;rintro n s ⟨p,q,r,t,u,rfl,hF,rfl⟩ K hK;exact fv (bu (hr p q r t u K) (ho p q r t u K) (h p q r t u hF K (fun s1 p2 q2 r2 t2 u2 h1 h2 h3=>hK s1 _ _ h3 ⟨p2,q2,r2,t2,u2,rfl,h1,rfl⟩ h2))).1 (fun e s he=>by cases e <;> exact he)
end Go.Lw
namespace Go.Lw
open Go.Proofs
instance:Inhabited (Tys prog):=⟨⟨_,(.nd (.nd (.nd (.nd (.nd (.nd (.nd .lf T3 .lf) T4 .lf) T5 (.nd .lf T9 .lf)) T22 (.nd (.nd .lf T24 .lf) T25 (.nd .lf T26 .lf))) T28 (.nd (.nd (.nd (.nd .lf T30 .lf) T35 .lf) T36 (.nd .lf T38 .lf)) T47 (.nd (.nd .lf T51 .lf) T55 (.nd .lf T59 .lf)))) T60 (.nd (.nd (.nd (.nd (.nd .lf T61 .lf) T63 .lf) T66 (.nd .lf T68 .lf)) T69 (.nd (.nd .lf T70 .lf) T74 (.nd .lf T77 .lf))) T79 (.nd (.nd (.nd .lf T80 .lf) T81 (.nd .lf T83 .lf)) T86 (.nd (.nd .lf T114 .lf) T120 (.nd .lf T122 .lf))))) T124 (.nd (.nd (.nd (.nd (.nd (.nd .lf T126 .lf) T128 .lf) T134 (.nd .lf T135 .lf)) T137 (.nd (.nd .lf T142 .lf) T154 (.nd .lf T159 .lf))) T175 (.nd (.nd (.nd (.nd .lf T180 .lf) T181 .lf) T186 (.nd .lf T188 .lf)) T191 (.nd (.nd .lf T214 .lf) T230 (.nd .lf T234 .lf)))) T236 (.nd (.nd (.nd (.nd (.nd .lf T243 .lf) T253 .lf) T264 (.nd .lf T282 .lf)) T287 (.nd (.nd .lf T292 .lf) T297 (.nd .lf T299 .lf))) T303 (.nd (.nd (.nd .lf T310 .lf) T334 (.nd .lf T351 .lf)) T358 (.nd (.nd .lf T365 .lf) T378 (.nd .lf T386 .lf)))))),R9⟩⟩
section
variable{P:abe}{W:abf}{H:Type}{enc:abd×abc->H}
abbrev F2:Nat->Prop:=fun _=>False
abbrev Gw(W:abf):Nat->Array abc->Prop:=Im F2 [] bK W
abbrev lT(W:abf)(cs:List abc)(xs:List AV):Prop:=bR (Gw W) (Sz W) bK cs xs
theorem Q5{b:Nat}{c:Array abc}{t:abd}{fr:Nat×Nat}(h:W.heap[b]?=some (.cells c t fr)):Gw W b c :=
 ⟨fun h=>h,fun⟨k,x,h,_⟩=>by(cases h),t,fr,h⟩
def jf(P:abe)(W:abf)(enc:abd×abc->H)(t:abd){α:Type}(f:α->AV)(p:α->Prop):Prop :=
  ∀(sp:Nat->Bool)(fuel:Nat)(cs:List abc)(x:DataW H×List MemPlace),DataW.trod enc P W 0 sp true fuel t cs=some x->(∀n∈x.1.weights P t,n<=reachBytes)->∃a,p a/\lT W cs (f a).cells
theorem uG{v:abc}{x:AV}(h:Rep (Gw W) (Sz W) bK v x)(h1:x.one=true):lT W [v] [x]:=by
 refine⟨rfl,fun j y hy=>?_,fun j u y hu hy=>?_⟩
 ·match j,hy with
  |0,hy=>cases hy;exact h1
 ·match j,hu,hy with
  |0,hu,hy=>cases hu;cases hy;exact h
theorem Qv{t:abd}(ht:P.underlying t=some .bool):jf P W enc t (fun b:Bool=>AV.v (.bool b)) (fun _=>True):=by
 intro sp fuel cs x h ch;obtain⟨b,rfl,_⟩:=DataW.trod_bool ht h;exact⟨b,trivial,uG (.v _) rfl⟩
theorem OS{t:abd}{k:IntKind}(ht:P.underlying t=some (.int k)):jf P W enc t (fun n:Int=>AV.v (.int k n)) (fun n=>(Lit.int k n).wf=true):=by
 intro sp fuel cs x h ch;obtain⟨n,rfl,_,hw⟩:=DataW.trod_int ht h;exact⟨n,hw,uG (.v _) rfl⟩
theorem jf.map{α β:Type}{t:abd}{f:α->AV}{p:α->Prop}(h:jf P W enc t f p)(g:α->β)(f':β->AV)(p':β->Prop)(hg:∀a,p a->p' (g a)/\f' (g a)=f a):jf P W enc t f' p':=by
 intro sp fuel cs x hx ch;obtain⟨a,ha,hc⟩:=h sp fuel cs x hx ch;obtain⟨h1,h2⟩:=hg a ha;exact⟨g a,h1,by rw[h2];exact hc⟩
theorem QT{cs:List abc}{off n m:Nat}{xs ys:List AV}(h1:lT W ((cs.drop off).take n) xs)(hx:xs.length=n)(h2:lT W ((cs.drop (off+n)).take m) ys) :
  lT W ((cs.drop off).take (n+m)) (xs++ys):=by
 have e:(cs.drop off).take (n+m)=(cs.drop off).take n++(cs.drop (off+n)).take m:=by
  rw[List.take_add,drop_drop]
 have hl:((cs.drop off).take n).length=n:=by rw[h1.1,hx]
 rw[e];refine⟨by simp only[aah,h1.1,h2.1],fun j y hy=>?_,fun j u y hu hy=>?_⟩
 ·rcases Z2 j xs.length with g |g
  ·rw[aae g]at hy;exact h1.2.1 j y hy
  ·rw[aac g]at hy;exact h2.2.1 _ y hy
 ·rcases Z2 j xs.length with g |g
  ·rw[aae g]at hy;rw[aae oz]at hu;exact h1.2.2 j u y hu hy
  ·rw[aac g]at hy;rw[aac oz,hl]at hu;exact h2.2.2 (j-n) u y hu (by rw[<- hx];exact hy)
theorem Hh{α:Type}{q:Nat->α->Prop}:∀(n:Nat),(∀i,i<n->∃a,q i a)->∃l:List α,l.length=n/\∀i a,l[i]?=some a->q i a
 |0,_=>⟨[],rfl,fun i a h=>by simp at h⟩
 |n+1,h=>by
  obtain⟨l,h1,h2⟩:=Hh n (fun i hi=>h i oz);obtain⟨a,ha⟩:=h n oz;refine⟨l++[a],by simp[h1],fun i b hb=>?_⟩;rcases Z2 i l.length with g |g
  ·rw[aae g]at hb;exact h2 i b hb
  ·rw[aac g]at hb
   have hi:i-l.length=0:=by
    rcases XC (i-l.length)with g |g
    ·exact g
    ·rw[Z5 (by simp only[Z7,aan];omega)]at hb;cases hb
   rw[hi]at hb;cases hb;have:i=n:=by omega
   rw[this];exact ha
theorem Nj{a:Addr}{v:abc}(h:W.cell? a=some v):∃b off,a=⟨b,off,none⟩:=by
 obtain⟨b,off,s⟩:=a;unfold World.cell? at h;split at h
 ·cases s with
  |none=>exact⟨b,off,rfl⟩
  |some s=>simp at h
 ·cases h
theorem Fy{b off:Nat}{v:abc}(h:W.cell? ⟨b,off,none⟩=some v):∃c t fr,W.heap[b]?=some (.cells c t fr)/\c[off]?=some v:=by
 unfold World.cell? at h;split at h
 ·rename_i c t fr hb;exact⟨c,t,fr,hb,by simpa using h⟩
 ·cases h
theorem E1{e:abd}:∀{l:List (DataW H)}{d:DataW H},d∈l->∀n∈d.weights P e,n∈DataW.weightsAll P e l
 |x::l,d,hd,n,hn=>by
  simp only[DataW.weightsAll,ZY];rcases aai.1 hd with rfl |hd
  ·exact .inl hn
  ·exact .inr (E1 hd n hn)
theorem gh.calls{f:FuncId}{args:List AV}{b:Bool}(h:gh P f args (.v (.bool b))){vs:Array abc}(hn:vs.size=args.length)
  (hr:∀(j:Nat) v x,vs[j]?=some v->args[j]?=some x->Rep (Gw W) (Sz W) bK v x) :
  Calls P f vs W fun e W'=>e=.returned (.bool b)/\RowKit.Below W.heap.size W W':=by
 have h0:=h.ret F2 bK W vs (fun b h=>h.elim) ⟨fun k x h=>by(cases h),fun k k' x x' b h=>by(cases h),fun k x b h=>by(cases h)⟩ hn hr;refine h0.mono (fun e W' ⟨v,m',he,hf,_,_,_,hv⟩=>?_);cases hv;refine⟨he,hf.os,hf.tape,hf.output,hf.size,fun k hk=>hf.keep k hk ?_⟩;rintro⟨k',x,h9,_⟩;cases h9
open Go.ChangeShapes in
theorem JM{f:Func}{s:ChangeSpec}{apart fresh handsOn again:Bool}{W':abf}{args:Array abc}{v:abc}{ds gs:List (DataW H)}{before:List MemPlace}
  (hW:DataW.Whole enc P f.params.toList s.vars apart W args.toList ds gs before) (cM:s.vars=[]) (WZ:gs=[])
  (lD:∀(b:Nat)(sp:Nat->Bool)(hd:Bool),DataW.TrodAll enc P W' b sp hd f.resultTypes.toList (v.resultList f.resultTypes.size) (s.fn H (ds++gs)).results [])
  (mz:∀sp:Nat->Bool,(∀p∈before,sp p.block=true)->DataW.TrodAll enc P W' 0 sp true f.params.toList args.toList (s.fn H (ds++gs)).args before)
  (lE:(s.fn H (ds++gs)).vars=[]) (hb:RowKit.Below W.heap.size W W')
  (bc:∀(j:Nat)(t:abd)(r:abc),f.resultTypes[j]?=some t->(v.resultList f.resultTypes.size)[j]?=some r->Value.okWide P W' .any 0 t r) :
  s.post enc P f apart fresh handsOn again W args v W':=by
 have hlt:=fun p hp=>hW.lt p hp
 have Av:∀p∈before,(fun b=>decide (b<W.heap.size)) p.block=true:=fun p hp=>by simpa using hlt p hp
 have Ix:∀sp:Nat->Bool,DataW.TrodVars enc P W' sp s.vars (s.fn H (ds++gs)).vars []:=fun sp=>by rw[cM,lE];rfl
 refine⟨ds,gs,before,[],before,[],hW,lD _ _ _,mz _ Av,Ix _,World.keptBut_mono (fun p hp=>⟨hp,Or.inr (by simpa using hp)⟩) (hb.frame (· ∈ before)),fun _=>?_⟩;obtain⟨_,_,_,_,_,hz,hn⟩:=hW;refine⟨bc,_,_,([]++before)++[],⟨[]++before,[],trodAll_append (mz _ (fun _ _=>rfl)) (lD _ _ _),Ix _,rfl,?_,?_⟩,?_⟩
 ·intro b off hp;have hp':MemPlace.cell b off ∈ before:=by simpa using hp
  rw[hb.frozen (hlt _ hp')];exact hz b off hp'
 ·intro ha;simpa using hn ha
 ·intro p hp _;simpa using hp
end
structure Bulk{H:Type}(bk:DataW H->Nat)(bka:List (DataW H)->Nat):Prop where
  one:∀d,1<=bk d
  nil:bka []=0
  cons:∀d l,bka (d::l)=bk d+bka l
  slice:∀e s,bka e+1<=bk (.slice e s)
  agg:∀l,bka l<=bk (.agg l)
section
variable{P:abe}{W:abf}{H:Type}{enc:abd×abc->H}{bk:DataW H->Nat}{bka:List (DataW H)->Nat}
theorem Bulk.pick(B:Bulk bk bka){α:Type}{m:α->Nat}:∀{l:List α}{xs:List (DataW H)},l.length<=xs.length->(∀(i:Nat)(a:α),l[i]?=some a->∃x,xs[i]?=some x/\m a<=bk x)->(l.map m).sum<=bka xs
 |[],xs,_,_=>by simp
 |a::l,[],hl,_=>by simp at hl
 |a::l,x::xs,hl,h=>by
  obtain⟨y,hy,h1⟩:=h 0 a rfl;cases hy;have h2:=B.pick (l:=l) (xs:=xs) (by simpa using hl) (fun i b hb=>h (i+1) b hb);rw[B.cons,aaz,List.sum_cons];omega
def eM(P:abe)(W:abf)(enc:abd×abc->H)(bk:DataW H->Nat)(t:abd){α:Type}(f:α->AV)(p:α->Prop)(m:α->Nat):Prop :=
  ∀(sp:Nat->Bool)(fuel:Nat)(cs:List abc)(x:DataW H×List MemPlace),DataW.trod enc P W 0 sp true fuel t cs=some x->(∀n∈x.1.weights P t,n<=reachBytes)->∃a,p a/\lT W cs (f a).cells/\m a<=bk x.1
theorem jf.m{t:abd}{α:Type}{f:α->AV}{p:α->Prop}(h:jf P W enc t f p):eM P W enc bk t f p (fun _=>0):=by
 intro sp fuel cs x hx hw;obtain⟨a,h1,h2⟩:=h sp fuel cs x hx hw;exact⟨a,h1,h2,aaf _⟩
theorem jf.m1(B:Bulk bk bka){t:abd}{α:Type}{f:α->AV}{p:α->Prop}(h:jf P W enc t f p):eM P W enc bk t f p (fun _=>1):=by
 intro sp fuel cs x hx hw;obtain⟨a,h1,h2⟩:=h sp fuel cs x hx hw;exact⟨a,h1,h2,B.one _⟩
theorem eM.map{α β:Type}{t:abd}{f:α->AV}{p:α->Prop}{m:α->Nat}(h:eM P W enc bk t f p m)(g:α->β)(f':β->AV)(p':β->Prop)(m':β->Nat)(hg:∀a,p a->p' (g a)/\f' (g a)=f a/\m' (g a)<=m a):eM P W enc bk t f' p' m':=by
 intro sp fuel cs x hx ch;obtain⟨a,ha,hc,hm⟩:=h sp fuel cs x hx ch;obtain⟨h1,h2,h3⟩:=hg a ha;exact⟨g a,h1,by rw[h2];exact hc,aaj h3 hm⟩
inductive FlM(P:abe)(W:abf)(enc:abd×abc->H)(bk:DataW H->Nat):List Field->Nat->{α:Type}->(α->List AV)->(α->Prop)->(α->Nat)->Prop
  |nil (off:Nat):FlM P W enc bk [] off (fun _:Unit=>[]) (fun _=>True) (fun _=>0)
  |cons {fl:Field} {fls:List Field} {off n:Nat} {α β:Type} {f:α->AV} {p:α->Prop} {m:α->Nat} {g:β->List AV} {q:β->Prop} {k:β->Nat} (ho:fl.offset=off) (hn:P.cellsOf fl.type=n) (hf:eM P W enc bk fl.type f p m)
      (gI:∀a,(f a).cells.length=n) (hs:FlM P W enc bk fls (off+n) g q k):FlM P W enc bk (fl::fls) off (fun z:α×β=>(f z.1).cells++g z.2) (fun z=>p z.1/\q z.2) (fun z=>m z.1+k z.2)
theorem FlM.rep(B:Bulk bk bka){fls:List Field}{off:Nat}{α:Type}{g:α->List AV}{q:α->Prop}{k:α->Nat}(h:FlM P W enc bk fls off g q k){cs:List abc}{sp:Nat->Bool}{fuel:Nat}{xs:List (DataW H×List MemPlace)}(a6:xs.length=fls.length)
  (hr:∀(i:Nat)(fl:Field),fls[i]?=some fl->∃x,xs[i]?=some x/\DataW.trod enc P W 0 sp true fuel fl.type ((cs.drop fl.offset).take (P.cellsOf fl.type))=some x/\∀n∈x.1.weights P fl.type,n<=reachBytes) :
  ∃a m,q a/\lT W ((cs.drop off).take m) (g a)/\m=(g a).length/\k a<=bka (xs.map (·.1)):=by
 induction h generalizing xs with
 |nil off=>exact⟨(),0,trivial,⟨by simp,fun j x hx=>by simp at hx,fun j u x hu hx=>by simp at hx⟩,rfl,aaf _⟩
 | @cons fl fls off n α β f p m g q k ho hn hf gI hs ih =>
  match xs,a6 with
  |x0::xs,a6 =>
   obtain⟨x,iZ,hx,VE⟩:=hr 0 fl rfl;cases iZ;rw[ho,hn]at hx;obtain⟨a,ha,hc,VF⟩:=hf _ _ _ _ hx VE;obtain⟨b,m',hb,mD,hm,gy⟩:=ih (xs:=xs) (by simpa using a6) (fun i fl' h'=>hr (i+1) fl' h');exact⟨(a,b),n+m',⟨ha,hb⟩,QT hc (gI a) mD,by simp only[aah,gI a,hm],by rw[aaz,B.cons];exact Nat.add_le_add VF gy⟩
theorem wC(B:Bulk bk bka){t:abd}{n:Nat}{fs:Array Field}{α:Type}{g:α->List AV}{q:α->Prop}{k:α->Nat}(ht:P.underlying t=some (.struct fs))(VG:P.cellsOf t=n)(hf:FlM P W enc bk fs.toList 0 g q k)(hn:∀a,(g a).length=n) :
  eM P W enc bk t (fun a=>.agg (g a)) q k:=by
 intro sp fuel cs x h ch;obtain⟨xs,n',rfl,pR,hl,iY,gz⟩:=DataW.trod_struct ht h
 obtain ⟨a, m, ha, hc, hm, hk⟩ := hf.rep B (cs := cs) (sp := sp) (fuel := n') (xs := xs) (by rw [iY]; simp) (fun i fl VH => by
  have hi':fs[i]?=some fl:=by simpa using VH
  have h1:=gz i fl hi';have h2:i<xs.length:=by rw[iY];exact(Array.getElem?_eq_some_iff.1 hi').1
  refine⟨xs[i],ZV h2,by rw[h1,ZV h2],fun k hk=>ch k ?_⟩;rw[pR];simp only[DataW.weights,ht];exact DataW.weights_mem_each (j:=i) (by simpa using⟨fl,hi',rfl⟩) (by rw[ZZ,ZV h2];rfl) k hk)
 refine⟨a,ha,?_,?_⟩
 ·rw[hm,hn a,<- VG,<- hl,aax,aab]at hc;exact hc
 ·rw[pR];exact aaj hk (B.agg _)
theorem s6(B:Bulk bk bka){t e:abd}{n:Nat}{α:Type}{f:α->AV}{p:α->Prop}{m:α->Nat}(ht:P.underlying t=some (.slice e))(hc:P.cellsOf e=n)(hn:0<n)(Iy:XU 0 (P.bytesOf e)=true)(gz:eM P W enc bk e f p m)(gI:∀a,(f a).cells.length=n) :
  eM P W enc bk t (fun l:List α=>.lst n (l.map f)) (fun l=>(∀a∈l,p a)/\l.length<=281474976710656) (fun l=>(l.map m).sum):=by
 intro sp fuel cs x h ch;rcases DataW.trod_slice ht h with⟨rfl,_⟩ |⟨a,len,cap,elems,rest,m',_,rfl,pR,_,hl,hm,a6,hE,_,_⟩
 ·exact⟨[],⟨fun a ha=>by(cases ha),aaf _⟩,uG (.lst0 _ _ _) rfl,aaf _⟩
 ·obtain⟨l,ke,hq⟩:=Hh (q:=fun i a'=>p a'/\(∃y,(elems.map (·.1))[i]?=some y/\m a'<=bk y)/\∃cs',W.cells? 0 (a.add (i*n)) n=some cs'/\lT W cs' (f a').cells) len (fun i hi=>by
   have h1:=hE i hi;rw[hc,ZV oz,Option.bind_eq_some_iff]at h1;obtain⟨cs',h2,h3⟩:=h1
   obtain⟨a',ha,hc',hm'⟩:=gz _ _ _ _ h3 (fun k hk=>ch k (by
    rw[pR];simp only[DataW.weights,ht];exact Z8 _ (YP _ (E1 (Yr.2 ⟨_,Yy (by omega:i<elems.length),rfl⟩) k hk))))
   exact⟨a',ha,⟨_,by rw[ZZ,ZV oz];rfl,hm'⟩,cs',h2,hc'⟩)
  have VI:(l.map m).sum<=bk x.1:=by
   rw[pR];refine aaj (B.pick (xs:=elems.map (·.1)) (by rw[ZU];omega) (fun i a' ha'=>(hq i a' ha').2.1)) (aaj (Nat.le_succ _) (B.slice _ _))
  have VJ:len<=281474976710656:=by
   have h1:=ch ((elems.length+rest.length)*P.bytesOf e) (by
    rw[pR];simp only[DataW.weights,ht,ZU];exact aaa ..)
   rw[Yb]at Iy;have h2:elems.length+rest.length<=(elems.length+rest.length)*P.bytesOf e:=Nat.le_mul_of_pos_right _ Iy;have h3:reachBytes<=281474976710656:=by decide
   omega
  refine⟨l,⟨fun a' ha=>?_,by omega⟩,uG ?_ rfl,VI⟩
  ·obtain⟨i,hi⟩:=List.getElem?_of_mem ha;exact(hq i a' hi).1
  ·by_cases h0:len=0
   ·subst h0;have:l=[]:=YG ke;subst this;exact .lst0 _ _ _
   ·have cD:∀(i j:Nat)(e' c':AV),(l.map f)[i]?=some e'->e'.cells[j]?=some c'->∃v,W.cell? ((a.add (i*n)).add j)=some v/\Rep (Gw W) (Sz W) bK v c':=by
     intro i j e' c' he hc';rw[ZZ,ZX]at he;obtain⟨a',ha,rfl⟩:=he;obtain⟨_,_,cs',h2,h3⟩:=hq i a' ha;obtain⟨_,h4,h5⟩:=World.cells?_some h2;have hj:j<n:=by rw[<- gI a'];exact(YA.1 hc').1
     have h6:=h5 j hj;rw[ZV oz]at h6;exact⟨_,h6,h3.2.2 j _ c' (ZV oz) hc'⟩
    obtain⟨a0,VK⟩:∃a0,l[0]?=some a0:=⟨l[0]'oz,ZV oz⟩
    obtain⟨c0,AA⟩:∃c0,(f a0).cells[0]?=some c0:=⟨(f a0).cells[0]'(by rw[gI];omega),ZV (by rw[gI];omega)⟩
    obtain⟨v0,lE,_⟩:=cD 0 0 _ _ (by rw[ZZ,VK];rfl) AA;have e0:(a.add (0*n)).add 0=a:=by simp[Addr.add]
    rw[e0]at lE;obtain⟨b,off,rfl⟩:=Nj lE;obtain⟨c,t',fr,hb,_⟩:=Fy lE;have Iz:(l.map f).length=len:=by rw[ZU,ke]
    have dm:∀(i j:Nat)(e' c':AV),(l.map f)[i]?=some e'->e'.cells[j]?=some c'->∃v,c[off+i*n+j]?=some v/\Rep (Gw W) (Sz W) bK v c':=by
     intro i j e' c' he hc';obtain⟨v,hv,hr⟩:=cD i j e' c' he hc';rw[gx,gx]at hv;obtain⟨c2,t2,wl,aH,fi⟩:=Fy hv;rw[hb]at aH;cases aH;exact⟨v,fi,hr⟩
    have := Rep.lst (g := Gw W) (S := Sz W) (m := bK) (b := b) (off := off) (cap := cap) (sz := n) (es := l.map f) (cs := c) (fun i j => c.getD (off + i * n + j) undef) (Q5 hb) oz (by rw [Iz]; exact VJ)
     (fun i e' he=>by
      rw[ZZ,ZX]at he;obtain⟨a',_,rfl⟩:=he;exact gI a')
     (fun i j e' c' he hc'=>by
      rw[ZZ,ZX]at he;obtain⟨a',ha,rfl⟩:=he;obtain⟨_,_,cs',_,h3⟩:=hq i a' ha;exact h3.2.1 j c' hc')
     (fun i j e' c' he hc'=>by
      obtain⟨v,hv,_⟩:=dm i j e' c' he hc';rw[Z1,hv];rfl)
     (fun i j e' c' he hc'=>by
      obtain⟨v,hv,hr⟩:=dm i j e' c' he hc';rw[Z1,hv];exact hr)
    rwa [Iz]at this
theorem xT{t:abd}{α:Type}{g:α->List AV}{q:α->Prop}{m:α->Nat}{v:abc}{d:DataW H}{ps:List MemPlace}{sp:Nat->Bool}{b0:Nat}(hu:(∃fs,P.underlying t=some (.struct fs))\/∃n e,P.underlying t=some (.array n e))
  (ho:eM P W enc bk t (fun a=>.agg (g a)) q m) (eN:Value.okWide P W .any b0 t v) (hd:DataW.Trod enc P W 0 sp true t v d ps) (ch:∀n∈d.weights P t,n<=reachBytes):∃a,q a/\Rep (Gw W) (Sz W) bK v (.agg (g a))/\m a<=bk d:=by
 have hv:∃cs,v=.agg cs:=by
  unfold Value.okWide at eN;rcases hu with⟨fs,ht⟩ |⟨n,e,ht⟩
  ·rw[ht]at eN;obtain⟨cs,rfl,_,_⟩:=eN;exact⟨cs,rfl⟩
  ·rw[ht]at eN;obtain⟨cs,rfl,_,_⟩:=eN;exact⟨cs,rfl⟩
 obtain⟨cs,rfl⟩:=hv;obtain⟨fuel,hf⟩:=hd;obtain⟨a,ha,hc,hm⟩:=ho _ _ _ _ hf ch;exact⟨a,ha,.agg (by have:=hc.1;simpa[Value.cells,AV.cells]using this) (fun j c h=>hc.2.1 j c h) (fun j u c hu h=>hc.2.2 j u c (by simpa[Value.cells]using hu) h),hm⟩
end
section
variable{W:abf}{H:Type}{enc:abd×abc->H}
theorem UU:jf prog W enc 142 (fun n:Nat=>u32 n) (fun n=>n<4294967296) :=
 (OS (k:=.u32) Tryz.underlying142).map Int.toNat _ _ (fun n h=>by
  have h1:0<=n/\n<=4294967295:=by simpa[Lit.wf,IntKind.min,IntKind.max,IntKind.signed,IntKind.bits]using h
  have h2:((n.toNat:Nat):Int)=n:=by omega
  exact⟨by omega,by unfold u32;rw[h2]⟩)
theorem Qd:jf prog W enc 4 bl (fun _=>True):=Qv Tryz.underlying4
end
open Go.Proofs Go.Proofs.YtikogaemdeibaaaGreat
open Go.ChangeShapes Go.WideShapes Go.ChangeAt Go.RowKit
theorem own:ownKnob prog.godebug=none:=by kernel_rfl
theorem Ej:laidOutB prog=true:=by kernel_rfl
theorem QI:prog.stopsHeard=true:=by kernel_rfl
theorem Qt:prog.plainKeys=true:=by kernel_rfl
theorem Mw:mapsRowed prog=true:=by kernel_rfl
theorem US:prog.mayEnter=true:=by kernel_rfl
theorem Lx:prog.liftsFinal=false:=by kernel_rfl
theorem x7{H:Type}{enc:abd×abc->H}{W W':abf}{t:abd}{v:abc}{d:DataW H}{ps:List MemPlace}{sp':Nat->Bool}(hr:prog.readableRec t=true)(ht:t<prog.types.size)
  (h:DataW.Trod enc prog W 0 (fun _=>true) true t v d ps) (hb:Below W.heap.size W W') (hlt:∀x∈ps,x.block<W.heap.size) (hs:∀p∈ps,sp' p.block=true):DataW.Trod enc prog W' 0 sp' true t v d ps :=
 WideElems.Trod_stays Ej hr ht h (fun x hx=>hb.same (hlt x hx)) hs
end Go.Lw
namespace Go.Lw
theorem jJ{l:List Nat}{i x:Nat}(h:i<l.length):val ((l.set i x).take (i+1))=val (l.take i)+4294967296^i*x:=by
 rw[H5 (x:=x) (by simp[h]),List.take_set_of_le (Z0 _)]
theorem eG{l:List Nat}{i x:Nat}(h:Ws l)(hx:x<4294967296):Ws (l.set i x):=by
 intro y hy;rcases Yi hy with h1 |h1
 ·exact h y h1
 ·omega
theorem jC(n:Nat):Ws (YO n 0):=fun x hx=>by rw[(YC.1 hx).2];omega
theorem qj:Ws []:=fun _ h=>nomatch h
theorem eJ{l:List Nat}(h:Ws l)(n:Nat):Ws (l.take n):=fun x hx=>h x (Yk hx)
theorem r4{x:Nat}(h:x<4294967296):Ws [x]:=fun y hy=>by rw[Z3.1 hy];exact h
structure Wh where
  neg:Bool
  mag:List Nat
namespace Wh
def valid(w:Wh):Bool:=if w.mag=[]then !w.neg else w.mag.getLast? != some 0
def m(w:Wh):List Nat:=if w.valid then w.mag else[]
def n(w:Wh):Bool:=w.valid&&w.neg
def z(w:Wh):Int:=if w.n then -(val w.m:Int)else val w.m
def av(w:Wh):AV:=.agg [bl w.neg,ws w.mag]
def ok(w:Wh):Prop:=Ws w.mag/\w.mag.length<=an
end Wh
def sgn(b:Bool)(n:Nat):Int:=if b then -(n:Int)else n
def ofInt(z:Int):Wh:=⟨decide (z<0),ofNat z.natAbs⟩
def zA(z:Int):AV:=(ofInt z).av
theorem Wh.nz(w:Wh):Nz w.m:=by
 unfold Wh.m Wh.valid;intro x hx
 by_cases h:w.mag=[]
 ·rw[h]at hx;split at hx <;> simp at hx
 ·rw[aa1 h]at hx;split at hx
  ·next h'=>rw[hx]at h';simpa using h'
  ·simp at hx
theorem Wh.ws{w:Wh}(h:w.ok):Ws w.m:=by
 unfold Wh.m;split
 ·exact h.1
 ·exact qj
theorem Wh.m_le{w:Wh}:w.m.length<=w.mag.length:=by
 unfold Wh.m;split <;> simp
theorem Wh.ofNat_m{w:Wh}(h:w.ok):ofNat (val w.m)=w.m:=oO (Wh.ws h) w.nz
theorem Wh.n_val{w:Wh}(hn:w.n=true):val w.m≠0:=by
 have h1:w.m≠[]:=by
  intro h0;unfold Wh.n at hn;rw[ZW]at hn;unfold Wh.m at h0;rw[aa2 hn.1]at h0;have:=hn.1;unfold Wh.valid at this;rw[aa2 h0,hn.2]at this;cases this
 have:=mW w.nz h1;omega
theorem Wh.n_eq{w:Wh}:w.n=decide (w.z<0):=by
 unfold Wh.z;cases h:w.n with
 |true=>have:=Wh.n_val h;simp;omega
 |false=>simp
theorem Wh.abs{w:Wh}:w.z.natAbs=val w.m:=by
 unfold Wh.z;split <;> omega
theorem Wh.z_eq{w:Wh}:w.z=sgn w.n (val w.m):=rfl
theorem HX(z:Int):(ofInt z).valid=true:=by
 unfold ofInt Wh.valid;dsimp only;split
 ·next h =>
  have h1:=bi z.natAbs;rw[h]at h1;have:z=0:=by simp[val]at h1;omega
  subst this;rfl
 ·next h =>
  have:=ou z.natAbs;cases hl:(ofNat z.natAbs).getLast? with
  |none=>rfl
  |some x=>have:=this x hl;simp[this]
theorem L0(z:Int):(ofInt z).m=ofNat z.natAbs:=by unfold Wh.m;rw[aa2 (HX z)];rfl
theorem Tj(z:Int):(ofInt z).n=decide (z<0):=by unfold Wh.n;rw[HX z];rfl
theorem cB(z:Int):(ofInt z).z=z:=by
 unfold Wh.z;rw[Tj,L0,bi];split
 ·next h=>simp at h;omega
 ·next h=>simp at h;omega
def Lz(k:Nat)(z:Int):Prop:=z.natAbs<4294967296^k
theorem Lz.len{k:Nat}{z:Int}(h:Lz k z):(ofNat z.natAbs).length<=k:=dM h
theorem Wh.lz{w:Wh}(h:w.ok):Lz w.mag.length w.z:=by
 unfold Lz;rw[Wh.abs];have h1:=bg w.m (Wh.ws h);exact Z9 h1 (Xt oz Wh.m_le)
theorem Lz.mono{k l:Nat}{z:Int}(h:Lz k z)(hk:k<=l):Lz l z:=Z9 h (Xt oz hk)
theorem Lz.add{k l:Nat}{x y:Int}(h:Lz k x)(h':Lz l y):Lz (max k l+1) (x+y):=by
 have h1:=h.mono (Nat.le_max_left k l);have h2:=h'.mono (Nat.le_max_right k l);unfold Lz at *;rw[X0];have:=Int.natAbs_add_le x y;omega
theorem Lz.neg{k:Nat}{x:Int}(h:Lz k x):Lz k (-x):=by unfold Lz at *;omega
theorem Lz.sub{k l:Nat}{x y:Int}(h:Lz k x)(h':Lz l y):Lz (max k l+1) (x-y):=Int.sub_eq_add_neg▸h.add h'.neg
theorem Lz.mul{k l:Nat}{x y:Int}(h:Lz k x)(h':Lz l y):Lz (k+l) (x*y):=by
 unfold Lz at *;rw[Y2,aat];exact XQ h h'
theorem Lz.of_le{k:Nat}{x y:Int}(h:Lz k x)(h':y.natAbs<=x.natAbs):Lz k y:=aam h' h
theorem rW{a b:List Nat}(ha:Ws a)(hb:Nz b)(h:a.length<b.length):val a<val b:=by
 have h1:=bg a ha;have eQ:b≠[]:=by intro h0;rw[h0]at h;simp at h
 have h2:∃c x,b=c++[x]:=⟨b.dropLast,b.getLast eQ,(Yt eQ).symm⟩
 obtain⟨c,x,rfl⟩:=h2;have hx:x≠0:=hb x (by simp);rw[oW];simp at h;have h3:4294967296^a.length<=4294967296^c.length:=Xt oz oz;have h4:4294967296^c.length*1<=4294967296^c.length*val [x]:=Z4 _ (by simp[val];omega);omega
theorem Fa{a b:List Nat}{i:Nat}(ha:Ws a)(hx:ah a i<ah b i):val (a.take (i+1))<val (b.take (i+1)):=by
 rw[bY,bY];have h1:=bg (a.take i) (eJ ha i);have h2:4294967296^(a.take i).length<=4294967296^i:=Xt oz (by simp;omega);have h3:4294967296^i*(ah a i+1)<=4294967296^i*ah b i:=Z4 _ hx;rw[Xy,Nat.mul_one]at h3;omega
theorem ry(l:List Nat)(i:Nat):val l=val (l.take i)+4294967296^(min i l.length)*val (l.drop i):=by
 conv=>lhs;rw[<- YN i l]
 rw[oW,aao]
theorem Dn{a b:List Nat}{i:Nat}(ha:Ws a)(hl:a.length=b.length)(hi:i<a.length)(he:a.drop (i+1)=b.drop (i+1))(hx:ah a i<ah b i):val a<val b:=by
 rw[ry a (i+1),ry b (i+1),he,hl];have:=Fa ha hx;omega
theorem yP{o c P x y u w:Nat}(h:o+c*P=x+y) :
  (o+P*((c+(u+w))%4294967296))+((c+(u+w))/4294967296)*(P*4294967296)=(x+P*u)+(y+P*w):=by
 have:=X9 (c+(u+w)) 4294967296;generalize(c+(u+w))%4294967296=r at *;generalize(c+(u+w))/4294967296=q at *;grind
theorem CW{a b out:List Nat}{c n:Nat}(ha:Ws a)(hb:Ws b)(hn:n=max a.length b.length+1)(ho:out.length=n)
  (h:val (out.take n)+c*4294967296^n=val (a.take n)+val (b.take n)):val out=val a+val b:=by
 rw[dk oz,dk oz,dk oz]at h;have h1:=bg a ha;have h2:=bg b hb;have h3:4294967296^a.length<=4294967296^max a.length b.length:=Xt oz oz;have h4:4294967296^b.length<=4294967296^max a.length b.length:=Xt oz oz;subst hn;rw[X0]at h;cases c with
 |zero=>omega
 |succ c =>
  rw[XD]at h;omega
theorem Ee{o c P x y u w:Nat}(hu:u<4294967296)(hw:w<4294967296)(hc:c<=1)(h:o+y=x+c*P) :
  let d:=if w+c<=u then u-w-c else u+18446744073709551616-w-c
  (o+P*(d%4294967296))+(y+P*w)=(x+P*u)+(d/2^63)*(P*4294967296):=by
 intro d
 have h0:d%4294967296+w+c=u+(d/2^63)*4294967296:=by
  show d%4294967296+w+c=_
  by_cases h1:w+c<=u
  ·rw[show d=u-w-c from aa2 h1];omega
  ·rw[show d=u+18446744073709551616-w-c from aa1 h1];omega
 generalize d/2^63=q at *;generalize d%4294967296=r at *;grind
theorem Uf{a b out:List Nat}{c:Nat}(ha:Ws out)(ho:out.length=a.length)(aU:val b<=val a)(fj:b.length<=a.length)
  (h:val (out.take a.length)+val (b.take a.length)=val (a.take a.length)+c*4294967296^a.length):val out=val a-val b:=by
 rw[dk oz,dk oz,dk oz]at h;have h1:=bg out ha;rw[ho]at h1;cases c with
 |zero=>omega
 |succ c=>rw[XD]at h;omega
theorem qU{x y:Nat}(hx:x<18446744073709551616)(hy:y<18446744073709551616):kS .or .u64 (x:Int) (y:Int)=((x ||| y:Nat):Int):=by
 show IntKind.u64.wrap (((BitVec.ofInt 64 (x:Int)) ||| (BitVec.ofInt 64 (y:Int))).toNat:Int)=_;simp only[BitVec.toNat_or,BitVec.ofInt_natCast,BitVec.toNat_ofNat];rw[Xr oz,Xr oz];exact u64_in (Nat.or_lt_two_pow (n:=64) hx hy)
theorem wD{x y:Nat}(hx:x<4294967296)(hy:y<4294967296):kS .or .u32 (x:Int) (y:Int)=((x ||| y:Nat):Int):=by
 show IntKind.u32.wrap (((BitVec.ofInt 32 (x:Int)) ||| (BitVec.ofInt 32 (y:Int))).toNat:Int)=_;simp only[BitVec.toNat_or,BitVec.ofInt_natCast,BitVec.toNat_ofNat];rw[Xr oz,Xr oz];exact u32_in (Nat.or_lt_two_pow (n:=32) hx hy)
theorem Co{x y:Nat}(hx:x<4294967296)(hy:y<4294967296):kS .and .u32 (x:Int) (y:Int)=((x &&& y:Nat):Int):=by
 show IntKind.u32.wrap (((BitVec.ofInt 32 (x:Int)) &&& (BitVec.ofInt 32 (y:Int))).toNat:Int)=_;simp only[BitVec.toNat_and,BitVec.ofInt_natCast,BitVec.toNat_ofNat];rw[Xr oz,Xr oz];exact u32_in (aam Nat.and_le_left hx)
theorem rK{q y n:Nat}(hy:y<2^n):q*2^n ||| y=q*2^n+y:=by
 rw[X6,Nat.two_pow_add_eq_or_of_lt hy]
theorem zK{q y n:Nat}(hy:y<2^n):y ||| q*2^n=y+q*2^n:=by
 rw[Nat.or_comm,rK hy,Nat.add_comm]
theorem ox{x n:Nat}(hn:n<=64)(h:x*2^n<18446744073709551616):IntKind.u64.wrap ((x:Int)*2^(min (n:Int).toNat IntKind.u64.bits))=((x*2^n:Nat):Int):=by
 have:min (n:Int).toNat IntKind.u64.bits=n:=by simp[IntKind.bits];omega
 rw[this,show(x:Int)*2^n=((x*2^n:Nat):Int) by simp,u64_in h]
theorem Bk{x n:Nat}(hn:n<=32):IntKind.u32.wrap ((x:Int)*2^(min (n:Int).toNat IntKind.u32.bits))=((x*2^n%4294967296:Nat):Int):=by
 have:min (n:Int).toNat IntKind.u32.bits=n:=by simp[IntKind.bits];omega
 rw[this,show(x:Int)*2^n=((x*2^n:Nat):Int) by simp,cm]
theorem oS(x n:Nat)(hn:n<=32):(x:Int).fdiv (2^(min (n:Int).toNat IntKind.u32.bits))=((x/2^n:Nat):Int):=by
 have:min (n:Int).toNat IntKind.u32.bits=n:=by simp[IntKind.bits];omega
 rw[this,YV _ (Int.le_of_lt (Int.pow_pos (by decide)))];simp
theorem FI{x y:Nat}(hx:x<18446744073709551616):IntKind.u64.wrap ((x:Int).tdiv y)=((x/y:Nat):Int):=by
 rw[<- Int.ofNat_tdiv,u64_in (aam (XX _ _) hx)]
theorem Dw{x y:Nat}:(x:Int).tmod y=((x%y:Nat):Int):=(Int.ofNat_tmod _ _).symm
theorem z8:∀{l:List Nat}{i x:Nat},i<l.length->val (l.set i x)+4294967296^i*ah l i=val l+4294967296^i*x
 |a::l,0,x,_=>by simp[val,ah];omega
 |a::l,i+1,x,h=>by
  have ih:=z8 (l:=l) (i:=i) (x:=x) (by simpa using h);simp only[List.set_cons_succ,val];have hw:ah (a::l) (i+1)=ah l i:=by simp[ah]
  rw[hw,X0];grind
theorem GJ{l:List Nat}{i n x:Nat}(h:i<l.length)(hn:i<n):val ((l.set i x).take n)+4294967296^i*ah l i=val (l.take n)+4294967296^i*x:=by
 rw[List.take_set];have h1:ah (l.take n) i=ah l i:=by simp[ah,hn]
 rw[<- h1];exact z8 (by simp;omega)
theorem GR{o o' c V P u y w S:Nat}(ho:o'+P*w=o+P*(S%4294967296))(hS:S=c+(u*y+w))(h:o+c*P=V) :
  o'+(S/4294967296)*(P*4294967296)=V+P*(u*y):=by
 have:=X9 S 4294967296;generalize S%4294967296=r at *;generalize S/4294967296=q at *;subst hS;grind
theorem vz{x y:Nat}(hx:x<4294967296)(hy:y<4294967296):x*y<=18446744065119617025:=by
 have:=XZ (show x<=4294967295 by omega) (show y<=4294967295 by omega);omega
theorem KB{l:List Nat}{i:Nat}(h:i<l.length):l.drop i=ah l i::l.drop (i+1):=by
 rw[Yd h];congr 1;have:=gM h;rw[ZV h]at this;exact Option.some.inj this
theorem oe{l:List Nat}{i:Nat}(h:i<l.length):val (l.drop i)=ah l i+4294967296*val (l.drop (i+1)):=by
 rw[KB h];rfl
theorem GN{l:List Nat}{i x:Nat}(h:i<l.length):val ((l.set i x).drop i)=x+4294967296*val (l.drop (i+1)):=by
 rw[oe (by simpa using h)];have h1:ah (l.set i x) i=x:=by simp[ah,h]
 have h2:(l.set i x).drop (i+1)=l.drop (i+1):=by rw[List.drop_set_of_lt oz]
 rw[h1,h2]
theorem aM.own1{s:AS}{k d sz off len:Nat}{es es':List AV}(h:lk s.hp k=some (.row sz es))(hd:XU d 1000=true)(he:es=es') :
  aM s (ck [.ms k sz off len]) (.ms d sz off len) [(d,some (.row sz es'))]:=by
 subst he;rw[Yb]at hd;intro ext m w v hh hext hx
 have b8:∀(k':Nat)(z:Blk),lk [(d,some (Blk.row sz es))] k'=some z->k'=d/\z=.row sz es:=by
  intro k' z hz;rw[aq]at hz;split at hz
  ·rename_i h1;cases hz;exact⟨h1,rfl⟩
  ·cases hz
 have bV:=df (ext:=ext) (Frame.refl (aB s.hp m) w) (hp':=[(d,some (.row sz es))]) (m':=fun x=>if x=d then m k else none) (by
  intro k' z b hz hb;obtain⟨rfl,rfl⟩:=b8 k' z hz;have hb':(if k'=k' then m k else none)=some b:=hb;rw[aa2 rfl]at hb';exact .inl ⟨k,_,h,hb'⟩)
 refine⟨fun x=>if x=d then m k else none,⟨?_,?_,?_⟩,?_,?_,?_⟩
 ·intro k' z hz;obtain⟨rfl,rfl⟩:=b8 k' z hz;rw[aa2 rfl];have h1:BlkRep (Im ext s.hp m w) (Sz w) m w (m k) (.row sz es):=hh.blk k _ h
  revert h1
  generalize iW:m k=o
  suffices h2:∀o,BlkRep (Im ext s.hp m w) (Sz w) m w o (.row sz es)->BlkRep (Im ext [(k',some (.row sz es))] (fun x=>if x=k' then m k else none) w) (Sz w) (fun x=>if x=k' then m k else none) w o (.row sz es) by
   rw[iW]at h2;exact h2 o
  clear iW o;intro o h1;cases h1 with
  |none=>exact .none _
  |row hw hn hl hs h1 hr=>exact .row hw hn hl hs h1 (fun i j e u x he hx hu=>(hr i j e u x he hx hu).mono bV (fun _ _ h=>h) (fun _ _ _ h=>h))
 ·intro k1 k2 z z' b h1 h2 _ _;rw[(b8 _ _ h1).1,(b8 _ _ h2).1]
 ·intro k' z b hz hb;obtain⟨rfl,rfl⟩:=b8 k' z hz;have hb':(if k'=k' then m k else none)=some b:=hb;rw[aa2 rfl]at hb';exact hh.sep k _ b h hb'
 ·intro k' z b hz hb;obtain⟨rfl,rfl⟩:=b8 k' z hz;have hb':(if k'=k' then m k else none)=some b:=hb;rw[aa2 rfl]at hb';exact⟨k,_,h,hb'⟩
 ·intro k' z hk hz;obtain⟨rfl,rfl⟩:=b8 k' z hz;omega
 ·cases hx with
  |ms0 a=>exact .ms0 a _ _ _
  |ms hm hc hS=>exact .ms (by simp;exact hm) hc hS
theorem ja{k:Nat}{x:Option Blk}{z:Blk}(h:lk [(1000,x)] k=some z):1000<=k:=by
 rw[aq]at h;split at h
 ·omega
 ·cases h
end Go.Lw
