/- SingularMirrored: for any linkage and any turns the law returns true and leaves its arguments as they were. No other condition. Part 2 of 8: what the later parts need -/
import Derived.Test.YtpdiojikejnehaaGreatRa
import Derived.KernelRfl
import Derived.Laws.StructEq
import Derived.Test.YtpdiojikejnehaaGreatProg
import Derived.Eval
import Derived.RangeFuncIn
import Derived.Carry
import Derived.ChangeArms
import Derived.DataReads
import Derived.ChangeShapes
import Derived.RowKit
import Derived.ProofKit
import Derived.OpenShut
import Derived.Handed
import Derived.SizedLaws
set_option linter.unusedVariables false
open List (mem_append nil_append append_nil map_nil drop_drop)
open List renaming mem_of_getElem? → Xx, mem_cons_of_mem → X8, map_cons → Yi, mem_cons → X6, length_cons → XK, mem_cons_self → X7, length_append → XZ, length_nil → XM, getD_eq_getElem?_getD → Xy, getElem?_append_left → XU, getElem?_eq_none → XN, all_eq_true → X9, getElem?_take → X0, getElem?_drop → Ya, getElem?_map → XE, append_assoc → Ye, getElem?_append_right → XT, getElem?_eq_getElem → XC, drop_eq_nil_of_le → X2, map_append → XQ, length_take → XO, take_of_length_le → XR, drop_zero → Yh, take_length → XP, not_mem_nil → XV, length_map → XA, getElem?_of_mem → Yd
open Nat renaming eq_of_beq_eq_true → XG, le_refl → XD, lt_of_lt_of_le → XS, lt_or_ge → XH, le_trans → XW, mul_le_mul_right → XY, mul_le_mul_left → XL, zero_le → XJ, pow_add → Yb, lt_of_le_of_lt → XX
open Option renaming map_eq_some_iff → XB
open Bool renaming and_eq_true → XF, or_eq_true → Yf
open Array renaming getD_eq_getD_getElem? → XI
open Int renaming toNat_natCast → X3
open Go.Proofs.Tryz
namespace Go.Lw
variable{P:Program}{N:Nat}{s:AS}
theorem Sub.refl(x:AV):Sub x x:=fun _ _ _ _ h=>h
inductive SlW(sl:bO):bO->Prop
  |nil:SlW sl []
  |cons {t:Nat} {x y:AV} {l:bO} (h:lk sl t=some y) (hs:Sub y x) (hl:SlW sl l):SlW sl ((t,some x)::l)
theorem SlW.get{sl l:bO}(h:SlW sl l){t:Nat}{x:AV}(hx:lk l t=some x):∃y,lk sl t=some y/\Sub y x:=by
 induction h with
 |nil=>cases hx
 | @cons t' x' y l h1 h2 _ ih =>
  rw[aT]at hx;split at hx
  ·cases hx;subst_vars;exact⟨y,h1,h2⟩
  ·exact ih hx
theorem SlW.same{sl l:bO}{t:Nat}{x:AV}(h:lk sl t=some x)(hl:SlW sl l):SlW sl ((t,some x)::l):=.cons h (.refl x) hl
def kC(e e':AV):Prop:=e.cells.length=e'.cells.length/\∀(j:Nat)(x y:AV),e.cells[j]?=some x->e'.cells[j]?=some y->y.one=true/\Sub x y
inductive BlkSub:Blk->Blk->Prop
  |refl (x:Blk):BlkSub x x
  |row {sz:Nat} {es es':List AV} (hn:es.length=es'.length) (h:∀(i:Nat)(e e':AV),es[i]?=some e->es'[i]?=some e'->kC e e'):BlkSub (.row sz es) (.row sz es')
  |box {cs cs':List AV} (hn:cs.length=cs'.length) (h1:∀(j:Nat)(x:AV),cs'[j]?=some x->x.one=true)
      (h:∀(j:Nat)(x y:AV),cs[j]?=some x->cs'[j]?=some y->Sub x y):BlkSub (.box cs) (.box cs')
  |vecRow {vs:List Value} (hl:vs.length<=a8):BlkSub (.vec vs) (.row 1 (vs.map .v))
inductive HpW(hp:Hp):Hp->Prop
  |nil:HpW hp []
  |cons {k:Nat} {x y:Blk} {l:Hp} (h:lk hp k=some y) (hs:BlkSub y x) (hl:HpW hp l):HpW hp ((k,some x)::l)
theorem HpW.k{hp l:Hp}{k:Nat}{x:Blk}(hl:HpW hp l)(h:lk hp k=some x:=by exact rfl):HpW hp ((k,some x)::l):=.cons h (.refl x) hl
theorem HpW.same{hp l:Hp}{k:Nat}{x:Blk}(h:lk hp k=some x)(hl:HpW hp l):HpW hp ((k,some x)::l):=.cons h (.refl x) hl
theorem HpW.get{hp l:Hp}(h:HpW hp l){k:Nat}{x:Blk}(hx:lk l k=some x):∃y,lk hp k=some y/\BlkSub y x:=by
 induction h with
 |nil=>cases hx
 | @cons t' x' y l h1 h2 _ ih =>
  rw[aT]at hx;split at hx
  ·cases hx;subst_vars;exact⟨y,h1,h2⟩
  ·exact ih hx
theorem it{α β:Type}{l:List α}{l':List β}(hn:l.length=l'.length){j:Nat}{x:α}(hx:l[j]?=some x):∃y,l'[j]?=some y:=by
 have hj:j<l.length:=by
  rcases XH j l.length with h |h
  ·exact h
  ·rw[XN h]at hx;cases hx
 exact⟨_,XC oz⟩
theorem BlkSub.rep{g:Nat->Array Value->Prop}{S:Nat->Nat->Prop}{m:Nat->Option Nat}{w:World}{o:Option Nat}{x y:Blk}(h:BlkSub x y)(hr:BlkRep g S m w o x):BlkRep g S m w o y:=by
 cases h with
 |refl=>exact hr
 | @row sz es es' hn h =>
  cases hr with
  |none =>
   have:es'=[]:=List.eq_nil_of_length_eq_zero hn.symm;subst this;exact .none _
  |row hw hn' hl hs h1 hrr =>
   refine .row hw (by rw[<- hn];exact hn') oz ?_ ?_ ?_
   ·intro i e' he';obtain⟨e,he⟩:=it hn.symm he';rw[<- (h i e e' he he').1];exact hs i e he
   ·intro i j e' x' he' hx';obtain⟨e,he⟩:=it hn.symm he';obtain⟨x,hx⟩:=it (h i e e' he he').1.symm hx';exact((h i e e' he he').2 j x x' hx hx').1
   ·intro i j e' u x' he' hx' hu;obtain⟨e,he⟩:=it hn.symm he';obtain⟨x,hx⟩:=it (h i e e' he he').1.symm hx';exact((h i e e' he he').2 j x x' hx hx').2 _ _ _ _ (hrr i j e u x he hx hu)
 |box hn h1 h =>
  cases hr with
  |box hw hn' h1' hrr =>
   refine .box hw oz h1 (fun j u y hu hy=>?_);obtain⟨z,hz⟩:=it hn.symm hy;exact h j z y hz hy _ _ _ _ (hrr j u z hu hz)
 | @vecRow vs hl =>
  cases hr with
  | @vec _ _ c t hw hc h1 =>
   have hcl:c.size=vs.length:=by rw[<- hc];simp
   refine .row hw (by simp;omega) (by simpa using hl) ?_ ?_ ?_
   ·intro i e he;obtain⟨v,hv,rfl⟩:=List.mem_map.1 (Xx he);rfl
   ·intro i j e x he hx;obtain⟨v,hv,rfl⟩:=List.mem_map.1 (Xx he);cases j with
    |zero=>cases hx;exact h1 v hv
    |succ j=>cases hx
   ·intro i j e u x he hx hu;rw[XE,XB]at he;obtain⟨v,hv,rfl⟩:=he;cases j with
    |zero =>
     cases hx;have:c[i]?=some v:=by rw[<- Array.getElem?_toList,hc];exact hv
     have hu':c[i]?=some u:=by simpa using hu
     rw[this]at hu';cases hu';exact .v _
    |succ j=>cases hx
theorem RelM.weak{C:Ctx}{m:Nat->Option Nat}{a:Act}{w:World}(h:RelM C s m a w){s':AS}(h1:∀t x,s'.get t=some x->∃y,s.get t=some y/\Sub y x)
  (h2:∀k x,lk s'.hp k=some x->∃y,lk s.hp k=some y/\BlkSub y x):RelM C s' m a w:=by
 have hf:=Frame.refl (a9 s.hp m) w
 have hal:∀k' z b,lk s'.hp k'=some z->m k'=some b->a9 s.hp m b\/w.heap.size<=b:=fun k' z b hz hb=>by
  obtain⟨y,hy,_⟩:=h2 k' z hz;exact .inl ⟨k',y,hy,hb⟩
 have hu:=h.update hf (hp':=s'.hp) (fun _ _ _ _ _ _ hb=>hb) hal (fun k' z _ hz=>by obtain⟨y,hy,_⟩:=h2 k' z hz;exact⟨⟨y,hy⟩,rfl⟩) ⟨?_,?_,?_⟩
 ·refine⟨?_,hu.heap,hu.frame,hu.new,hu.keep,hu.defers,hu.nt⟩;intro t x hx;obtain⟨y,hy,hs⟩:=h1 t x hx;obtain⟨g1,g2⟩:=hu.slots t y hy;exact⟨g1,hs _ _ _ _ g2⟩
 ·intro k' z hz;obtain⟨y,hy,hs⟩:=h2 k' z hz;exact hs.rep (BlkRep.mono (w:=w) (eU hf hal) hf.sz (fun _ _ _ h=>h) rfl (fun _ _=>rfl) (h.heap.blk k' y hy))
 ·intro k1 k2 z1 z2 b g1 g2;obtain⟨y1,hy1,_⟩:=h2 k1 z1 g1;obtain⟨y2,hy2,_⟩:=h2 k2 z2 g2;exact h.heap.inj k1 k2 y1 y2 b hy1 hy2
 ·intro k' z b hz hb;obtain⟨y,hy,_⟩:=h2 k' z hz;exact h.heap.sep k' y b hy hb
theorem Wk.of{sl:bO}{hp:Hp}(h1:SlW s.sl sl)(h2:HpW s.hp hp):Wk s ⟨sl,hp⟩ :=
 fun C m a w hr=>⟨m,hr.weak (fun t x hx=>h1.get hx) (fun k x hx=>h2.get hx)⟩
mutual
def AV.fz(k sz:Nat)(es:List AV):AV->AV
  | .ms k' sz' off len=>match Nat.beq k' k&&Nat.beq sz' sz&&Nat.ble (off+len) es.length with
    |true=>.lst sz ((es.drop off).take len)
    |false=>.ms k' sz' off len
  | .agg cs=>.agg (AV.fzs k sz es cs)
  | .tup cs=>.tup (AV.fzs k sz es cs)
  | .fn f cs=>.fn f (AV.fzs k sz es cs)
  | .opt b x=>.opt b (AV.fz k sz es x)
  | .v x=>.v x
  | .lst sz l=>.lst sz l
  | .iptr l=>.iptr l
  | .ptr k off=>.ptr k off
  | .eptr k sz i off=>.eptr k sz i off
  | .yl k=>.yl k
  | .cl f cs ds=>.cl f cs ds
def AV.fzs(k sz:Nat)(es:List AV):List AV->List AV
  |[]=>[]
  |x::l=>AV.fz k sz es x::AV.fzs k sz es l
end
theorem AV.fzs_eq(k sz:Nat)(es:List AV):∀l,AV.fzs k sz es l=l.map (AV.fz k sz es)
 |[]=>rfl
 |x::l=>by simp only[AV.fzs,Yi,AV.fzs_eq k sz es l]
theorem AV.fz_one(k sz:Nat)(es:List AV)(x:AV)(h:x.one=true):(x.fz k sz es).one=true:=by
 cases x <;> simp only[AV.fz] <;> first |exact h |(split <;> rfl)
theorem uy{g:Nat->Array Value->Prop}{S:Nat->Nat->Prop}{k sz:Nat}{es:List AV}{m:Nat->Option Nat}{v:Value}{x:AV}(h:Rep g S m v x)
  (hb:∀b,m k=some b->∃c:Array Value,g b c/\es.length*sz<=c.size/\es.length<=a8/\(∀(i:Nat)(e:AV),es[i]?=some e->e.cells.length=sz) /\
   (∀(i j:Nat)(e x:AV),es[i]?=some e->e.cells[j]?=some x->x.one=true) /\
   ∀(i j:Nat)(e:AV)(u:Value)(x:AV),es[i]?=some e->e.cells[j]?=some x->c[i*sz+j]?=some u->Rep g S dl u x):Rep g S m v (x.fz k sz es):=by
 induction h with
 |v x=>exact .v x
 |lst0 a cap sz'=>exact .lst0 a cap sz'
 |lst u hb' hc hl hs h1 hu hr _=>exact .lst u hb' hc hl hs h1 hu hr
 |iptr u hb' h1 hu hr _=>exact .iptr u hb' h1 hu hr
 |ptr h=>exact .ptr h
 |eptr h=>exact .eptr h
 |yl h=>exact .yl h
 |opt h h' ih=>exact .opt (fun hbb=>ih hbb hb) h'
 |agg hn h1 hr ih =>
  simp only[AV.fz,AV.fzs_eq];refine .agg (by simpa using hn) ?_ ?_
  ·intro j c hc;simp only[XE,XB]at hc;obtain⟨y,hy,rfl⟩:=hc;exact AV.fz_one _ _ _ _ (h1 j y hy)
  ·intro j u c hu hc;simp only[XE,XB]at hc;obtain⟨y,hy,rfl⟩:=hc;exact ih j u y hu hy hb
 |tup hn hr ih =>
  simp only[AV.fz,AV.fzs_eq];refine .tup (by simpa using hn) ?_;intro j u c hu hc;simp only[XE,XB]at hc;obtain⟨y,hy,rfl⟩:=hc;exact ih j u y hu hy hb
 |fn hn hr ih =>
  simp only[AV.fz,AV.fzs_eq];refine .fn (by simpa using hn) ?_;intro j u c hu hc;simp only[XE,XB]at hc;obtain⟨y,hy,rfl⟩:=hc;exact ih j u y hu hy hb
 |cl hn hr hn' hr' _ _=>exact .cl hn hr hn' hr'
 |ms0 a k' sz' off =>
  simp only[AV.fz];split
  ·simp;exact .lst0 _ _ _
  ·exact .ms0 _ _ _ _
 | @ms mm k' sz' off len cap b hm hc hS =>
  simp only[AV.fz];split
  ·rename_i hcond;simp only [XF,Nat.ble_eq] at hcond;obtain ⟨⟨h1,h2⟩,h3⟩:=hcond;obtain rfl:=XG h1;obtain rfl:=XG h2;obtain ⟨c,hgc,hsz,hml,hs,ho,hr⟩:=hb b hm;have hlen:((es.drop off).take len).length = len:=by simp; omega
   have hget:∀(i:Nat)(e:AV),((es.drop off).take len)[i]?=some e->es[off+i]?=some e:=by
    intro i e he;rw[X0]at he;split at he
    ·rwa [Ya]at he
    ·cases he
   have hcell:∀(i j:Nat)(e x:AV),es[i]?=some e->e.cells[j]?=some x->∃u,c[i*sz'+j]?=some u:=by
    intro i j e x he hx
    have hi:i<es.length:=by
     rcases XH i es.length with h |h
     ·exact h
     ·rw[XN h]at he;cases he
    have hj:j<e.cells.length:=by
     rcases XH j e.cells.length with h |h
     ·exact h
     ·rw[XN h]at hx;cases hx
    rw[hs i e he]at hj;have:=mh (sz:=sz') hi;exact⟨_,Array.getElem?_eq_getElem oz⟩
   have:=Rep.lst (g:=g) (S:=S) (m:=mm) (b:=b) (off:=off*sz') (cap:=cap) (sz:=sz') (es:=(es.drop off).take len) (cs:=c)
    (fun i j=>c.getD ((off+i)*sz'+j) undef) hgc oz oz (fun i e he=>hs _ e (hget i e he)) (fun i j e x he hx=>ho _ j e x (hget i e he) hx)
    (fun i j e x he hx=>by
     obtain⟨u,hu⟩:=hcell _ j e x (hget i e he) hx;rw[XI,hu,<- Nat.add_mul,hu];rfl)
    (fun i j e x he hx=>by
     obtain⟨u,hu⟩:=hcell _ j e x (hget i e he) hx;rw[XI,hu];exact hr _ j e u x (hget i e he) hx hu)
   rwa [hlen]at this
  ·exact .ms hm hc hS
def jm(f:AV->AV):bO->bO
  |[]=>[]
  |(t,x)::l=>(t,match x with |some x=>some (f x) |none=>none)::jm f l
theorem pc(f:AV->AV):∀(l:bO)(t:Nat),lk (jm f l) t=(lk l t).map f
 |[],t=>rfl
 |(t',x)::l,t=>by
  simp only[jm,aT,pc f l t];split
  ·cases x <;> rfl
  ·rfl
def Blk.map(f:AV->AV):Blk->Blk
  | .box cs=>.box (cs.map f)
  | .row sz es=>.row sz es
  | .loop d st pe sl=>.loop d st pe (jm f sl)
  | .vec vs=>.vec vs
theorem BlkRep.mapLoop{g g':Nat->Array Value->Prop}{S S':Nat->Nat->Prop}{m m':Nat->Option Nat}{w:World}{o:Option Nat}{d:LpD}{st:LoopState}{pe:Option Code}{sl:bO}(f:AV->AV)
  (h:BlkRep g S m w o (.loop d st pe sl)) (hf:∀t x v,lk sl t=some x->Rep g S m v x->Rep g' S' m' v (f x)):BlkRep g' S' m' w o (.loop d st pe (jm f sl)):=by
 cases h with
 |loop h h1 h2 h3 h4 h5 hn hr =>
  refine .loop h h1 h2 h3 h4 h5 hn (fun t x hx=>?_);rw[pc,XB]at hx;obtain⟨y,hy,rfl⟩:=hx;exact⟨(hr t y hy).1,hf t y _ hy (hr t y hy).2⟩
def gK(f:AV->AV)(k:Nat):Hp->Hp
  |[]=>[]
  |(k',x)::l=>(k',match Nat.beq k' k with |true=>none |false=>match x with |some x=>some (x.map f) |none=>none)::gK f k l
theorem nB(f:AV->AV)(k:Nat):∀(l:Hp)(t:Nat),lk (gK f k l) t=if t=k then none else(lk l t).map (Blk.map f)
 |[],t=>by simp[gK,lk]
 |(k',x)::l,t=>by
  simp only[gK,aT,nB f k l t]
  by_cases h1:t=k'
  ·subst h1;rw[Yl rfl,Yl rfl];cases hb:Nat.beq t k with
   |true=>rw[Yl (XG hb)]
   |false=>rw[Yk (Nat.ne_of_beq_eq_false hb)];cases x <;> rfl
  ·rw[Yk h1,Yk h1]
theorem Wk.freeze{k sz:Nat}{es:List AV}(hk:s.blk k=some (.row sz es)):Wk s ⟨jm (AV.fz k sz es) s.sl,gK (AV.fz k sz es) k s.hp⟩:=by
 intro C m a w hr;refine⟨m,?_⟩
 have hfew:∀k' z,lk ((k,none)::s.hp) k'=some z->lk s.hp k'=some z:=by
  intro k' z hz;rw[aT]at hz;split at hz
  ·cases hz
  ·exact hz
 have hr1:=hr.fewer hfew
 have hb:∀b,m k=some b->∃c:Array Value,Im C.ext ((k,none)::s.hp) m w b c/\es.length*sz<=c.size/\es.length<=a8/\(∀(i:Nat)(e:AV),es[i]?=some e->e.cells.length=sz) /\
   (∀(i j:Nat)(e x:AV),es[i]?=some e->e.cells[j]?=some x->x.one=true) /\
   ∀(i j:Nat)(e:AV)(u:Value)(x:AV),es[i]?=some e->e.cells[j]?=some x->c[i*sz+j]?=some u->Rep (Im C.ext ((k,none)::s.hp) m w) (Sz w) dl u x:=by
  intro b hm;obtain⟨c,t,hw,hn,hl,hs,ho,hrr⟩:=uk hr.heap hk hm;have him:=eU (ext:=C.ext) (Frame.refl (a9 s.hp m) w) (hp':=(k,none)::s.hp) (m':=m) (fun k' z b' hz hb'=>.inl ⟨k',z,hfew k' z hz,hb'⟩);refine⟨c,⟨(hr.heap.sep k _ b hk hm).1,?_,t,(0,0),hw⟩,hn,hl,hs,ho,fun i j e u x he hx hu=>(hrr i j e u x he hx hu).mono him (fun _ _ h=>h) (fun _ _ _ h=>h)⟩;rintro⟨k',z,hz,hb'⟩;have:=hr.heap.inj k k' _ z b hk (hfew k' z hz) hm hb';subst this;rw[aT,Yl rfl]at hz;cases hz
 have hown:∀k' z,lk (gK (AV.fz k sz es) k s.hp) k'=some z->∃y,lk ((k,none)::s.hp) k'=some y/\z=y.map (AV.fz k sz es):=by
  intro k' z hz;rw[nB]at hz;split at hz
  ·cases hz
  ·rename_i hne;simp only[XB]at hz;obtain⟨y,hy,rfl⟩:=hz;exact⟨y,by rw[aT,Yk hne];exact hy,rfl⟩
 have hown':∀k' y,lk ((k,none)::s.hp) k'=some y->lk (gK (AV.fz k sz es) k s.hp) k'=some (y.map (AV.fz k sz es)):=by
  intro k' y hy;rw[aT]at hy;split at hy
  ·cases hy
  ·rename_i hne;rw[nB,Yk hne,hy];rfl
 have e1:a9 (gK (AV.fz k sz es) k s.hp) m=a9 ((k,none)::s.hp) m:=by
  funext b;apply propext;constructor
  ·rintro⟨k',z,hz,hb⟩;obtain⟨y,hy,_⟩:=hown k' z hz;exact⟨k',y,hy,hb⟩
  ·rintro⟨k',y,hy,hb⟩;exact⟨k',_,hown' k' y hy,hb⟩
 have e2:Im C.ext (gK (AV.fz k sz es) k s.hp) m w=Im C.ext ((k,none)::s.hp) m w:=by funext b cs;simp only[Im,e1]
 refine⟨?_,⟨?_,?_,?_⟩,hr1.frame,?_,?_,hr1.defers,hr1.nt⟩
 ·intro t x hx;simp only[AS.get,pc,XB]at hx;obtain⟨y,hy,rfl⟩:=hx;obtain⟨g1,g2⟩:=hr1.slots t y hy;refine⟨g1,?_⟩;show Rep (Im C.ext (gK (AV.fz k sz es) k s.hp) m w) _ _ _ _;rw[e2];exact uy g2 hb
 ·intro k' z hz;obtain⟨y,hy,rfl⟩:=hown k' z hz;rw[e2];have:=hr1.heap.blk k' y hy;cases y with
  |row sz' es'=>exact this
  |vec vs =>
   simp only[Blk.map];generalize m k'=o at this;cases this with
   |vec hw hc h1=>exact .vec hw hc h1
  |loop=>exact this.mapLoop _ (fun _ _ _ _ h=>uy h hb)
  |box cs =>
   simp only[Blk.map];generalize m k'=o at this;cases this with
   |box hw hn h1 hrr =>
    refine .box hw (by simpa using hn) ?_ ?_
    ·intro j x hx;simp only[XE,XB]at hx;obtain⟨y,hy,rfl⟩:=hx;exact AV.fz_one _ _ _ _ (h1 j y hy)
    ·intro j u x hu hx;simp only[XE,XB]at hx;obtain⟨y,hy,rfl⟩:=hx;exact uy (hrr j u y hu hy) hb
 ·intro k1 k2 z1 z2 b g1 g2;obtain⟨y1,hy1,_⟩:=hown k1 z1 g1;obtain⟨y2,hy2,_⟩:=hown k2 z2 g2;exact hr1.heap.inj k1 k2 y1 y2 b hy1 hy2
 ·intro k' z b hz hb;obtain⟨y,hy,_⟩:=hown k' z hz;exact hr1.heap.sep k' y b hy hb
 ·intro k' z b hz hb;obtain⟨y,hy,_⟩:=hown k' z hz;exact hr1.new k' y b hy hb
 ·intro k' z h1000 hz;obtain⟨y,hy,_⟩:=hown k' z hz;exact hr1.keep k' y h1000 hy
mutual
def AV.rn(k d:Nat):AV->AV
  | .ms k' sz off len=>match Nat.beq k' k with
    |true=>.ms d sz off len
    |false=>.ms k' sz off len
  | .ptr k' off=>match Nat.beq k' k with
    |true=>.ptr d off
    |false=>.ptr k' off
  | .eptr k' sz i off=>match Nat.beq k' k with
    |true=>.eptr d sz i off
    |false=>.eptr k' sz i off
  | .agg cs=>.agg (AV.rns k d cs)
  | .tup cs=>.tup (AV.rns k d cs)
  | .fn f cs=>.fn f (AV.rns k d cs)
  | .opt b x=>.opt b (AV.rn k d x)
  | .yl k'=>match Nat.beq k' k with
    |true=>.yl d
    |false=>.yl k'
  | .cl f cs ds=>.cl f cs ds
  | .v x=>.v x
  | .lst sz l=>.lst sz l
  | .iptr l=>.iptr l
def AV.rns(k d:Nat):List AV->List AV
  |[]=>[]
  |x::l=>AV.rn k d x::AV.rns k d l
end
theorem AV.rns_eq(k d:Nat):∀l,AV.rns k d l=l.map (AV.rn k d)
 |[]=>rfl
 |x::l=>by simp only[AV.rns,Yi,AV.rns_eq k d l]
theorem AV.rn_one(k d:Nat)(x:AV)(h:x.one=true):(x.rn k d).one=true:=by
 cases x <;> simp only[AV.rn] <;> first |exact h |(split <;> rfl)
theorem PZ{g:Nat->Array Value->Prop}{S:Nat->Nat->Prop}{k d:Nat}{m m':Nat->Option Nat}{v:Value}{x:AV}(h:Rep g S m v x)(hd:¬x.Names d)
  (h1:m' d=m k) (h2:∀k',k'≠d->m' k'=m k'):Rep g S m' v (x.rn k d):=by
 induction h with
 |v x=>exact .v x
 |lst0 a cap sz'=>exact .lst0 a cap sz'
 |lst u hb hc hl hs ho hu hr _=>exact .lst u hb hc hl hs ho hu hr
 |iptr u hb ho hu hr _=>exact .iptr u hb ho hu hr
 | @ptr _ k' off b hm =>
  simp only[AV.rn];split
  ·rename_i hk;obtain rfl:=XG hk;exact .ptr (h1.trans hm)
  ·exact .ptr ((h2 _ (fun e=>hd (e▸.ptr _ _))).trans hm)
 | @eptr _ k' sz i off b hm =>
  simp only[AV.rn];split
  ·rename_i hk;obtain rfl:=XG hk;exact .eptr (h1.trans hm)
  ·exact .eptr ((h2 _ (fun e=>hd (e▸.eptr _ _ _ _))).trans hm)
 |ms0 a k' sz' off =>
  simp only[AV.rn];split <;> exact .ms0 _ _ _ _
 |cl hn hr hn' hr' _ _=>exact .cl hn hr hn' hr'
 | @yl _ k' b hm =>
  simp only[AV.rn];split
  ·rename_i hk;obtain rfl:=XG hk;exact .yl (h1.trans hm)
  ·exact .yl ((h2 _ (fun e=>hd (e▸.yl _))).trans hm)
 | @ms _ k' sz' off len cap b hm hc hS =>
  simp only[AV.rn];split
  ·rename_i hk;obtain rfl:=XG hk;exact .ms (h1.trans hm) hc hS
  ·exact .ms ((h2 _ (fun e=>hd (e▸.ms _ _ _ _))).trans hm) hc hS
 |opt h h' ih=>exact .opt (fun hb=>ih hb (fun hn=>hd (.opt hn)) h1 h2) h'
 |agg hn h1' hr ih =>
  simp only[AV.rn,AV.rns_eq];refine .agg (by simpa using hn) ?_ ?_
  ·intro j c hc;simp only[XE,XB]at hc;obtain⟨y,hy,rfl⟩:=hc;exact AV.rn_one _ _ _ (h1' j y hy)
  ·intro j u c hu hc;simp only[XE,XB]at hc;obtain⟨y,hy,rfl⟩:=hc;exact ih j u y hu hy (fun hn=>hd (.agg (Xx hy) hn)) h1 h2
 |tup hn hr ih =>
  simp only[AV.rn,AV.rns_eq];refine .tup (by simpa using hn) ?_;intro j u c hu hc;simp only[XE,XB]at hc;obtain⟨y,hy,rfl⟩:=hc;exact ih j u y hu hy (fun hn=>hd (.tup (Xx hy) hn)) h1 h2
 |fn hn hr ih =>
  simp only[AV.rn,AV.rns_eq];refine .fn (by simpa using hn) ?_;intro j u c hu hc;simp only[XE,XB]at hc;obtain⟨y,hy,rfl⟩:=hc;exact ih j u y hu hy (fun hn=>hd (.fn (Xx hy) hn)) h1 h2
def nc(k d:Nat)(y:Blk)(hp:Hp):Hp:=(d,some (y.map (AV.rn k d)))::gK (AV.rn k d) k hp
theorem ot{k d:Nat}{y:Blk}{hp:Hp}{k':Nat}{z:Blk}(h:lk (nc k d y hp) k'=some z) :
  ∃y',lk ((d,some y)::(k,none)::hp) k'=some y'/\z=y'.map (AV.rn k d):=by
 unfold nc at h;rw[aT]at h ⊢;split at h
 ·rename_i he;rw[Yl he];cases h;exact⟨y,rfl,rfl⟩
 ·rename_i he;rw[Yk he,aT];rw[nB]at h;split at h
  ·cases h
  ·rename_i hk;rw[Yk hk];simp only[XB]at h;obtain⟨y',hy',rfl⟩:=h;exact⟨y',hy',rfl⟩
theorem Wk.rk{k d:Nat}{y:Blk}(hk:s.blk k=some y)(hd:s.freshB d=true):Wk s ⟨jm (AV.rn k d) s.sl,nc k d y s.hp⟩:=by
 intro C m a w hr;have hfr:=AS.fresh_of hd;have hr1:=hr.rk hk hfr;refine⟨fun k'=>if k'=d then m k else m k',?_⟩
 have hown':∀k' y',lk ((d,some y)::(k,none)::s.hp) k'=some y'->lk (nc k d y s.hp) k'=some (y'.map (AV.rn k d)):=by
  intro k' y' h;unfold nc;rw[aT]at h ⊢;split at h
  ·rename_i he;rw[Yl he];cases h;rfl
  ·rename_i he;rw[Yk he,nB];rw[aT]at h;split at h
   ·cases h
   ·rename_i hk';rw[Yk hk',h];rfl
 have e1:a9 (nc k d y s.hp) (fun k'=>if k'=d then m k else m k')=a9 ((d,some y)::(k,none)::s.hp) (fun k'=>if k'=d then m k else m k'):=by
  funext b;apply propext;constructor
  ·rintro⟨k',z,hz,hb⟩;obtain⟨y',hy',_⟩:=ot hz;exact⟨k',y',hy',hb⟩
  ·rintro⟨k',y',hy',hb⟩;exact⟨k',_,hown' k' y' hy',hb⟩
 have e2:Im C.ext (nc k d y s.hp) (fun k'=>if k'=d then m k else m k') w=Im C.ext ((d,some y)::(k,none)::s.hp) (fun k'=>if k'=d then m k else m k') w:=by
  funext b cs;simp only[Im,e1]
 have him:=eU (ext:=C.ext) (Frame.refl (a9 s.hp m) w) (hp':=(d,some y)::(k,none)::s.hp) (m':=fun k'=>if k'=d then m k else m k') (by
  intro k' z b hz hb;rw[aT]at hz;split at hz
  ·rename_i he;rw[Yl he]at hb;exact .inl ⟨k,y,hk,hb⟩
  ·rename_i he;rw[Yk he]at hb
   rw[aT]at hz;split at hz
   ·cases hz
   ·exact .inl ⟨k',z,hz,hb⟩)
 have hrn:∀v x,¬AV.Names x d->Rep (Im C.ext s.hp m w) (Sz w) m v x->Rep (Im C.ext ((d,some y)::(k,none)::s.hp) (fun k'=>if k'=d then m k else m k') w) (Sz w) (fun k'=>if k'=d then m k else m k') v (x.rn k d):=by
  intro v x hx h;exact PZ (h.mono him (fun _ _ h=>h) (fun _ _ _ h=>h)) hx (Yl rfl) (fun k' hne=>Yk hne)
 refine⟨?_,⟨?_,?_,?_⟩,hr1.frame,?_,?_,hr1.defers,hr1.nt⟩
 ·intro t x hx;simp only[AS.get,pc,XB]at hx;obtain⟨z,hz,rfl⟩:=hx;obtain⟨g1,g2⟩:=hr.slots t z hz;refine⟨g1,?_⟩;show Rep (Im C.ext (nc k d y s.hp) _ w) _ _ _ _;rw[e2];exact hrn _ _ (hfr.2.2.1 t z hz) g2
 ·intro k' z hz;obtain⟨y',hy',rfl⟩:=ot hz;rw[e2]
  have hold:∃k0,lk s.hp k0=some y'/\(if k'=d then m k else m k')=m k0:=by
   rw[aT]at hy';split at hy'
   ·rename_i he;cases hy';exact⟨k,hk,Yl he⟩
   ·rename_i he;rw[aT]at hy';split at hy'
    ·cases hy'
    ·exact⟨k',hy',Yk he⟩
  obtain⟨k0,hk0,hm0⟩:=hold;rw[hm0];have hb:=hr.heap.blk k0 y' hk0;have hnd:=hfr.2.2.2 k0 y' hk0;cases y' with
  |row sz es=>exact BlkRep.mono (w:=w) him (fun _ _ h=>h) (fun _ _ h=>h.elim) rfl (fun _ _=>rfl) hb
  |vec vs=>exact BlkRep.mono (w:=w) him (fun _ _ h=>h) (fun _ _ h=>h.elim) rfl (fun _ _=>rfl) hb
  |loop=>exact hb.mapLoop _ (fun t x v hx h=>hrn v x (fun hn=>hnd ⟨t,x,mC hx,hn⟩) h)
  |box cs =>
   simp only[Blk.map];generalize m k0=o at hb;cases hb with
   |box hw hn h1 hrr =>
    refine .box hw (by simpa using hn) ?_ ?_
    ·intro j x hx;simp only[XE,XB]at hx;obtain⟨z,hz,rfl⟩:=hx;exact AV.rn_one _ _ _ (h1 j z hz)
    ·intro j u x hu hx;simp only[XE,XB]at hx;obtain⟨z,hz,rfl⟩:=hx;exact hrn u z (fun hn=>hnd ⟨z,Xx hz,hn⟩) (hrr j u z hu hz)
 ·intro k1 k2 z1 z2 b g1 g2;obtain⟨y1,hy1,_⟩:=ot g1;obtain⟨y2,hy2,_⟩:=ot g2;exact hr1.heap.inj k1 k2 y1 y2 b hy1 hy2
 ·intro k' z b hz hb;obtain⟨y',hy',_⟩:=ot hz;exact hr1.heap.sep k' y' b hy' hb
 ·intro k' z b hz hb;obtain⟨y',hy',_⟩:=ot hz;exact hr1.new k' y' b hy' hb
 ·intro k' z h1000 hz;obtain⟨y',hy',_⟩:=ot hz;exact hr1.keep k' y' h1000 hy'
theorem Wk.virt(d sz:Nat)(hd:s.freshB d=true):Wk s ⟨s.sl,(d,some (.row sz []))::s.hp⟩ :=
 fun C m a w hr=>⟨_,hr.virt sz (AS.fresh_of hd)⟩
theorem Sub.nM(a:Option Addr)(d sz:Nat):Sub (.v (.slice a 0 0)) (.ms d sz 0 0):=fun g S m v h=>by cases h;exact .ms0 _ _ _ _
theorem Sub.trans{x y z:AV}(h:Sub x y)(h':Sub y z):Sub x z:=fun g S m v hr=>h' g S m v (h g S m v hr)
theorem az.keep{x:AV}{H':Hp}(h:∀k z,lk H' k=some z->lk s.hp k=some z):az s x x H':=by
 intro ext m w v hh hext hx;have him:=eU (ext:=ext) (Frame.refl (a9 s.hp m) w) (hp':=H') (m':=m) (fun k' z b hz hb=>.inl ⟨k',z,h k' z hz,hb⟩);refine⟨m,⟨?_,?_,?_⟩,fun k z b hz hb=>⟨k,z,h k z hz,hb⟩,fun k z _ hz=>⟨⟨z,h k z hz⟩,rfl⟩,hx.mono him (fun _ _ h=>h) (fun _ _ _ h=>h)⟩
 ·intro k z hz;exact BlkRep.mono (w:=w) him (fun _ _ h=>h) (fun _ _ _ h=>h) rfl (fun _ _=>rfl) (hh.blk k z (h k z hz))
 ·intro k k' z z' b h1 h2;exact hh.inj k k' z z' b (h _ _ h1) (h _ _ h2)
 ·intro k z b hz hb;exact hh.sep k z b (h k z hz) hb
theorem az.sub{x r r':AV}{H':Hp}(h:az s x r H')(hs:Sub r r'):az s x r' H':=by
 intro ext m w v hh hext hx;obtain⟨m',h1,h2,h3,h4⟩:=h ext m w v hh hext hx;exact⟨m',h1,h2,h3,hs _ _ _ _ h4⟩
theorem az.pure{x:AV}:az s x x []:=.keep (fun k z h=>by cases h)
end Go.Lw
namespace Go.Lw
abbrev B:Nat:=4294967296
def val:List Nat->Nat
  |[]=>0
  |x::l=>x+4294967296*val l
def Ws(l:List Nat):Prop:=∀x∈l,x<4294967296
def je:Nat->Nat->List Nat
  |0,_=>[]
  |f+1,n=>match n with
    |0=>[]
    |n+1=>((n+1)%4294967296)::je f ((n+1)/4294967296)
def ofNat(n:Nat):List Nat:=je (n.log2/32+1) n
def Nz(l:List Nat):Prop:=∀x,l.getLast?=some x->x≠0
theorem qF(a b:List Nat):val (a++b)=val a+4294967296^a.length*val b:=by
 induction a with
 |nil=>simp[val]
 |cons x a ih=>simp only[List.cons_append,val,ih,XK,Nat.pow_succ];grind
theorem b9(l:List Nat)(h:Ws l):val l<4294967296^l.length:=by
 induction l with
 |nil=>simp[val]
 |cons x l ih =>
  have h1:=h x (by simp);have h2:=ih (fun y hy=>h y (by simp[hy]));simp only[val,XK,Nat.pow_succ];omega
theorem vl(n:Nat):val (List.replicate n 0)=0:=by
 induction n with
 |zero=>rfl
 |succ n ih=>simp[List.replicate_succ,val,ih]
theorem Ox(f:Nat):je f 0=[]:=by cases f <;> rfl
theorem BG(f n:Nat)(h:n≠0):je (f+1) n=(n%4294967296)::je f (n/4294967296):=by
 cases n with
 |zero=>exact absurd rfl h
 |succ n=>rfl
theorem HG:∀(f n:Nat),n<4294967296^f->val (je f n)=n:=by
 intro f
 induction f with
 |zero=>intro n h;simp at h;subst h;rfl
 |succ f ih =>
  intro n h
  by_cases h0:n=0
  ·subst h0;rfl
  ·rw[BG f n h0];simp only[val];rw[ih _ (by rw[Nat.pow_succ]at h;exact Nat.div_lt_of_lt_mul (by rw[Nat.mul_comm];exact h))];omega
theorem Kf:∀(f n:Nat),Ws (je f n):=by
 intro f
 induction f with
 |zero=>intro n x h;simp[je]at h
 |succ f ih =>
  intro n
  by_cases h0:n=0
  ·subst h0;intro x h;simp[je]at h
  ·rw[BG f n h0];intro x h;rcases List.mem_cons.1 h with rfl |h
   ·omega
   ·exact ih _ x h
theorem Ug:∀(f n:Nat),n<4294967296^f->Nz (je f n):=by
 intro f
 induction f with
 |zero=>intro n h x hx;simp[je]at hx
 |succ f ih =>
  intro n h
  by_cases h0:n=0
  ·subst h0;intro x hx;simp[je]at hx
  ·rw [BG f n h0];have hd:n / 4294967296 < 4294967296 ^ f:=by rw [Nat.pow_succ] at h; exact Nat.div_lt_of_lt_mul (by rw [Nat.mul_comm]; exact h)
   intro x hx
   by_cases h1:n/4294967296=0
   ·rw[h1,Ox]at hx;simp at hx;omega
   ·have h2:=ih _ hd x;cases hq:je f (n/4294967296)with
    |nil =>
     have:=HG f _ hd;rw[hq]at this;simp[val]at this;omega
    |cons y ys =>
     rw[hq]at hx h2;rw[List.getLast?_cons_cons]at hx;exact h2 hx
theorem Fl(n:Nat):n<4294967296^(n.log2/32+1):=by
 have h1:n<2^(n.log2+1):=Nat.lt_log2_self;have h2:(4294967296:Nat)=2^32:=by decide
 rw[h2,<- Nat.pow_mul];exact XS h1 (Nat.pow_le_pow_right (by decide) oz)
theorem cg(n:Nat):val (ofNat n)=n:=HG _ _ (Fl n)
theorem dk(n:Nat):Ws (ofNat n):=Kf _ _
theorem qT(n:Nat):Nz (ofNat n):=Ug _ _ (Fl n)
theorem vU{x:Nat}{l:List Nat}(h:Nz (x::l)):Nz l:=by
 intro y hy;cases l with
 |nil=>simp at hy
 |cons z l=>exact h y (by rw[List.getLast?_cons_cons];exact hy)
theorem Tm:∀(a b:List Nat),Ws a->Ws b->Nz a->Nz b->val a=val b->a=b:=by
 have key:∀(l:List Nat),Nz l->val l=0->l=[]:=by
  intro l
  induction l with
  |nil=>intro _ _;rfl
  |cons x l ih =>
   intro hn hv;simp only[val]at hv;have:=ih (vU hn) oz;subst this;exact absurd (by omega:x=0) (hn x rfl)
 intro a
 induction a with
 |nil=>intro b _ _ _ hb hv;exact(key b hb hv.symm).symm
 |cons x a ih =>
  intro b ha hb hna hnb hv;cases b with
  |nil=>exact key _ hna hv
  |cons y b =>
   have h1:=ha x (by simp);have h2:=hb y (by simp);simp only[val]at hv;have:=ih b (fun z hz=>ha z (by simp[hz])) (fun z hz=>hb z (by simp[hz])) (vU hna) (vU hnb) oz;subst this;rw[show x=y by omega]
theorem pZ{l:List Nat}(h:Ws l)(hn:Nz l):ofNat (val l)=l :=
 Tm _ _ (dk _) h (qT _) hn (cg _)
theorem HJ{l:List Nat}{n:Nat}(h:Ws l)(hn:Nz l)(hv:val l=n):l=ofNat n:=by subst hv;exact(pZ h hn).symm
theorem Tl:ofNat 0=[]:=rfl
theorem nW{l:List Nat}(hn:Nz l)(h:l≠[]):0<val l:=by
 rcases Nat.eq_zero_or_pos (val l)with h0 |h0
 ·exfalso
  induction l with
  |nil=>exact h rfl
  |cons x l ih =>
   simp only[val]at h0
   by_cases hl:l=[]
   ·subst hl;exact hn x rfl oz
   ·exact ih (vU hn) hl oz
 ·exact h0
theorem fj{n k:Nat}(h:n<4294967296^k):(ofNat n).length<=k:=by
 have hv:=cg n;rcases XH k (ofNat n).length with hlt |hge
 ·exfalso;have hne:ofNat n ≠ []:=by intro e; rw [e] at hlt; simp at hlt
  have hsplit:ofNat n=(ofNat n).dropLast++[(ofNat n).getLast hne]:=(List.dropLast_concat_getLast hne).symm;have hlast:(ofNat n).getLast hne≠0:=qT n _ (List.getLast?_eq_some_getLast hne)
  have hval:val (ofNat n)=val (ofNat n).dropLast+4294967296^(ofNat n).dropLast.length*(ofNat n).getLast hne:=by
   conv=>lhs;rw[hsplit]
   rw[qF];simp[val]
  have hlen:(ofNat n).dropLast.length=(ofNat n).length-1:=List.length_dropLast;have h1:4294967296^k<=4294967296^(ofNat n).dropLast.length:=Nat.pow_le_pow_right (by decide) oz;have h2:4294967296^(ofNat n).dropLast.length*1<=4294967296^(ofNat n).dropLast.length*(ofNat n).getLast hne:=XL _ oz;omega
 ·exact hge
theorem HV{l:List Nat}{i x:Nat}(h:l[i]?=some x):val (l.take (i+1))=val (l.take i)+4294967296^i*x:=by
 have hi:i<l.length:=by
  rcases XH i l.length with h' |h'
  ·exact h'
  ·rw[XN h']at h;cases h
 rw[List.take_add_one,h,qF];simp[val,XO];rw[Nat.min_eq_left oz]
theorem eT{l:List Nat}{i:Nat}(h:l.length<=i):val (l.take i)=val l:=by rw[XR h]
variable{P:Program}{N:Nat}{R:Array Oper}{s:AS}{pos:String}{after:Array Edge}
def Fz(s:AS)(u:Out):Bool:=u.upd.all fun p=>u.rd.contains p.1||s.freshB p.1
theorem wR{u:Out}(h:Fz s u=true):jH s u:=by
 intro k hk;obtain⟨p,hp,rfl⟩:=List.mem_map.1 hk;have:=List.all_eq_true.1 h p hp;simp only[Yf]at this;rcases this with h |h
 ·exact .inl (by simpa using h)
 ·exact .inr (AS.fresh_of h)
theorem Wy{f:FuncId}{fn:Func}{c:Code}{rs:List ResultVar}{args:List AV}{r:AV}(hf:P.funcs[f]?=some fn)(hb:fn.body=some c)
  (hn : (fn.name == "runtime.NumGoroutine") = false) (hrs : fn.results = rs.toArray) (hN : fn.ntmps = N)
  (h:bQ P N c (lY P rs r []) ⟨mo 0 args,[]⟩):gO P f args r :=
 Ir hf hb hn hrs hN (fun k z h=>by cases h) h
theorem I7{x r:AV}(h:x=r):az s (d7 [x]) r []:=h▸az.pure
theorem l0{x r:AV}(h:Sub x r):az s (d7 [x]) r []:=az.pure.sub h
theorem kl{x y r:AV}(h:AV.tup [x,y]=r):az s (d7 [x,y]) r []:=h▸az.pure
theorem tR{x y z r:AV}(h:AV.tup [x,y,z]=r):az s (d7 [x,y,z]) r []:=h▸az.pure
theorem dF{x r:AV}(h:Sub x r):az s x r []:=az.pure.sub h
theorem eM{d:Nat}{x y:Operand}{k k':IntKind}{a b c:Int}{S T t:TypeId}
  (hx:Ev s x (.v (.int k a))) (hy:Ev s y (.v (.int k' b))) (hb:0<=b) (hc:a.fdiv (2^(min b.toNat k.bits))=c) (hN:Nat.blt d N=true) :
  Step P N R s ⟨some d,.binOp .shr S x y T,t,pos,after,none⟩ ⟨some (.v (.int k c)),[],au x++au y,[]⟩:=hc▸Xq hx hy hb hN
theorem iU{d:Nat}{x y:Operand}{k k':IntKind}{a b c:Int}{S T t:TypeId}
  (hx:Ev s x (.v (.int k a))) (hy:Ev s y (.v (.int k' b))) (hb:0<=b) (hc:k.wrap (a*2^(min b.toNat k.bits))=c) (hN:Nat.blt d N=true) :
  Step P N R s ⟨some d,.binOp .shl S x y T,t,pos,after,none⟩ ⟨some (.v (.int k c)),[],au x++au y,[]⟩:=hc▸Oj hx hy hb hN
theorem kq{d:Nat}{x y:Operand}{k:IntKind}{a b c:Int}{S T t:TypeId}
  (hx:Ev s x (.v (.int k a))) (hy:Ev s y (.v (.int k b))) (hb:b≠0) (hc:k.wrap (a.tdiv b)=c) (hN:Nat.blt d N=true) :
  Step P N R s ⟨some d,.binOp .quo S x y T,t,pos,after,none⟩ ⟨some (.v (.int k c)),[],au x++au y,[]⟩:=hc▸RI hx hy hb hN
theorem vG{d:Nat}{x y:Operand}{k:IntKind}{a b c:Int}{S T t:TypeId}
  (hx:Ev s x (.v (.int k a))) (hy:Ev s y (.v (.int k b))) (hb:b≠0) (hc:a.tmod b=c) (hN:Nat.blt d N=true) :
  Step P N R s ⟨some d,.binOp .rem S x y T,t,pos,after,none⟩ ⟨some (.v (.int k c)),[],au x++au y,[]⟩:=hc▸UM hx hy hb hN
theorem jB{d:Nat}{op:BinOp}{x y:Operand}{k:IntKind}{a b c:Int}{S T t:TypeId}
  (hx:Ev s x (.v (.int k a))) (hy:Ev s y (.v (.int k b))) (hop:(match op with | .and | .or | .xor | .andNot=>true |_=>false)=true) (hc:n8 op k a b=c) (hN:Nat.blt d N=true) :
  Step P N R s ⟨some d,.binOp op S x y T,t,pos,after,none⟩ ⟨some (.v (.int k c)),[],au x++au y,[]⟩:=hc▸Vy hx hy hop hN
theorem dT{x y:Operand}{k sz i:Nat}{es:List AV}{e v:AV}{T t:TypeId}{ti:TI}
  (hx:Ev s x (.eptr k sz i 0)) (hk:s.blk k=some (.row sz es)) (he:es[i]?=some e) (hel:e.cells.length=sz) (hy:Ev s y v) (hv:v.ok=true) (hnm:v.nm=[]) (hT:aC P T=some ti)
  (hsz:Nat.beq v.cells.length ti.size=true) (hs:Nat.beq ti.size sz=true) :
  Step P N R s ⟨none,.store T x y,t,pos,after,none⟩ ⟨none,[(k,some (.row sz (es.set i v)))],au x++au y,[k]⟩:=by
 have h1:=XG hsz;have h2:=XG hs;refine Jg hx hk he hy hv hnm hT hsz (by rw[Nat.ble_eq];omega) ?_;unfold over;rw[List.take_zero,nil_append,X2 oz,append_nil]
theorem Sub.int{k:IntKind}{a b:Int}(h:a=b):Sub (.v (.int k a)) (.v (.int k b)):=h▸.refl _
theorem BlkSub.of{x y:Blk}(h:x=y):BlkSub x y:=h▸.refl _
theorem Sub.of{x y:AV}(h:x=y):Sub x y:=h▸.refl _
theorem aw{α:Type}{l:List α}{i:Nat}(h:i<l.length):∃x,l[i]?=some x:=⟨_,XC h⟩
theorem aE{α:Type}{f:α->AV}{l:List α}{i:Nat}{x:α}(h:l[i]?=some x):(l.map f)[i]?=some (f x):=by simp[h]
theorem OA{c:Code}{Q:Exit->AS->Prop}{t sz:Nat}{es:List AV}(ht:s.get t=some (.lst sz es))(h:es.length<=a8->bQ P N c Q s):bQ P N c Q s:=by
 refine PS (p:=es.length<=a8) ?_ h;intro C m a w hr;obtain⟨_,h2⟩:=hr.slots t _ ht;generalize a.tmps.getD t undef=u at h2;cases h2 with
 |lst0=>exact XJ _
 |lst u hb hc hl=>exact hl
theorem iF{x y:Nat}(h:x+y<18446744073709551616):IntKind.u64.wrap (fN .add (x:Int) (y:Int))=((x+y:Nat):Int):=by
 show IntKind.u64.wrap ((x:Int)+y)=_;rw[IntWalk.u64_in _ oz];simp
theorem vR{x y:Nat}(h:x*y<18446744073709551616):IntKind.u64.wrap (fN .mul (x:Int) (y:Int))=((x*y:Nat):Int):=by
 show IntKind.u64.wrap ((x:Int)*y)=_;rw[<- Int.natCast_mul,IntWalk.u64_in _ oz]
theorem kL{x y:Nat}(hx:x<18446744073709551616)(hy:y<18446744073709551616) :
  IntKind.u64.wrap (fN .sub (x:Int) (y:Int))=((if y<=x then x-y else x+18446744073709551616-y:Nat):Int):=by
 show IntKind.u64.wrap ((x:Int)-y)=_;simp only[IntKind.wrap,IntKind.signed,IntKind.bits,Bool.false_and,if_false,Bool.false_eq_true];split <;> omega
theorem dK(x:Nat):IntKind.u32.wrap (x:Int)=((x%4294967296:Nat):Int):=by
 simp only[IntKind.wrap,IntKind.signed,IntKind.bits,Bool.false_and,if_false,Bool.false_eq_true];omega
theorem u64_in{x:Nat}(h:x<18446744073709551616):IntKind.u64.wrap (x:Int)=(x:Int):=IntWalk.u64_in _ oz
theorem u32_in{x:Nat}(h:x<4294967296):IntKind.u32.wrap (x:Int)=(x:Int):=IntWalk.u32_in _ oz
theorem i64_in{x:Int}(h:-9223372036854775808<=x/\x<=9223372036854775807):IntKind.i64.wrap x=x:=IntWalk.i64_in _ h
theorem gI(x n:Nat)(hn:n<=64):(x:Int).fdiv (2^(min (n:Int).toNat IntKind.u64.bits))=((x/2^n:Nat):Int):=by
 have:min (n:Int).toNat IntKind.u64.bits=n:=by simp[IntKind.bits];omega
 rw[this,Int.fdiv_eq_ediv_of_nonneg _ (Int.le_of_lt (Int.pow_pos (by decide)))];simp
theorem ji{x:Nat}(h:0<x)(hx:x<=a8):IntKind.i64.wrap (fN .sub (x:Int) 1)=((x-1:Nat):Int):=by
 show IntKind.i64.wrap ((x:Int)-1)=_;unfold a8 at hx;rw[IntWalk.i64_in _ oz];omega
theorem Hz{x:Nat}(hx:x<=a8):IntKind.i64.wrap (fN .add (x:Int) 1)=((x+1:Nat):Int):=by
 show IntKind.i64.wrap ((x:Int)+1)=_;unfold a8 at hx;rw[IntWalk.i64_in _ oz];omega
theorem aN{x:Nat}(hx:x<=a8:=by unfold a8;omega):IntKind.i64.wrap (fN .add (x:Int) 1)=((x+1:Nat):Int):=Hz hx
theorem iZ{x y:Nat}(hx:x<=a8)(hy:y<=a8):IntKind.i64.wrap (fN .add (x:Int) (y:Int))=((x+y:Nat):Int):=by
 show IntKind.i64.wrap ((x:Int)+y)=_;unfold a8 at hx hy;rw[IntWalk.i64_in _ oz];omega
abbrev aD:Nat:=1099511627776
def i64(n:Int):AV:=.v (.int .i64 n)
def u32(n:Nat):AV:=.v (.int .u32 n)
def u64(n:Nat):AV:=.v (.int .u64 n)
def bl(b:Bool):AV:=.v (.bool b)
def ws(l:List Nat):AV:=.lst 1 (l.map u32)
def ah(m:List Nat)(i:Nat):Nat:=m.getD i 0
theorem bW{m:List Nat}(h:Ws m)(i:Nat):ah m i<4294967296:=by
 unfold ah;rw[Xy];cases hi:m[i]? with
 |none=>simp
 |some x=>exact h x (Xx hi)
theorem iY{m:List Nat}{i:Nat}(h:i<m.length):m[i]?=some (ah m i):=by
 rw[XC h,ah,Xy,XC h];rfl
theorem p6{m:List Nat}{i:Nat}(h:m.length<=i):ah m i=0:=by
 rw[ah,Xy,XN h];rfl
theorem ci{m:List Nat}{i:Nat}(h:i<m.length):(m.map u32)[i]?=some (u32 (ah m i)):=aE (iY h)
theorem dj{l:List Nat}{i:Nat}:val (l.take (i+1))=val (l.take i)+4294967296^i*ah l i:=by
 rcases XH i l.length with h |h
 ·exact HV (iY h)
 ·rw[p6 h,eT h,eT oz];simp
theorem Pg{c:Code}{Q:Exit->AS->Prop}{α:Type}{f:α->AV}{l:List α}{t sz:Nat}(ht:s.get t=some (.lst sz (l.map f)))(h:l.length<=a8->bQ P N c Q s):bQ P N c Q s :=
 OA ht (fun hl=>h (by simpa using hl))
theorem uR{k sz off len:Nat}{es:List AV}(h:off+len<=es.length):AV.fz k sz es (.ms k sz off len)=.lst sz ((es.drop off).take len):=by
 have h1:Nat.ble (off+len) es.length=true:=Nat.ble_eq_true_of_le h;have h2:∀n,Nat.beq n n=true:=fun n=>Nat.beq_refl n
 simp only[AV.fz,h1,h2,Bool.and_self]
theorem bJ{k sz len:Nat}{es:List AV}(h:len=es.length):AV.fz k sz es (.ms k sz 0 len)=.lst sz es:=by
 subst h;rw[uR oz,Yh,XP]
theorem gw{m:List Nat}{i:Int}{n:Nat}(h:i=n)(hn:n<m.length):(m.map u32)[i.toNat]?=some (u32 (ah m n)):=by
 subst h;exact ci hn
theorem f6{α:Type}{f:α->AV}{l:List α}{i:Int}{n:Nat}{x:α}(h:i=n)(hx:l[n]?=some x):(l.map f)[i.toNat]?=some (f x):=by
 subst h;exact aE hx
theorem m9{d:Nat}{x ix:Operand}{kk:IntKind}{i:Int}{k sz off len n:Nat}{T E t:TypeId}{ti te:TI}
  (hx:Ev s x (.ms k sz off len)) (hi:Ev s ix (.v (.int kk i))) (hT:aC P T=some ti) (hk:ti.k=.slice E) (hE:aC P E=some te) (hsz:te.size=sz)
  (h0:i=(n:Int)) (he:n<len) (hN:Nat.blt d N=true) :
  Step P N R s ⟨some d,.indexAddr T x ix,t,pos,after,none⟩ ⟨some (.eptr k sz (off+n) 0),[],au x++au ix,[]⟩:=by
 subst h0;have:=lW (R:=R) (t:=t) (pos:=pos) (after:=after) hx hi hT hk hE hsz oz oz hN
 rwa [X3]at this
theorem VP{a b:List Nat}{i:Nat}(ha:i<a.length)(hb:i<b.length)(h:ah a i=ah b i):a[i]=b[i]:=by
 have h1:=iY ha;have h2:=iY hb;rw[XC ha]at h1;rw[XC hb]at h2;rw[Option.some.inj h1,Option.some.inj h2,h]
theorem du{x y:Int}(h:-9223372036854775808<=x+y/\x+y<=9223372036854775807):IntKind.i64.wrap (fN .add x y)=x+y:=i64_in h
theorem eg{x y:Int}(h:-9223372036854775808<=x-y/\x-y<=9223372036854775807):IntKind.i64.wrap (fN .sub x y)=x-y:=i64_in h
theorem Bh{x y:Int}(h:-9223372036854775808<=x*y/\x*y<=9223372036854775807):IntKind.i64.wrap (fN .mul x y)=x*y:=i64_in h
theorem b8{d:Nat}{x ix:Operand}{kk:IntKind}{i:Int}{k sz len n:Nat}{T E t:TypeId}{ti te:TI}
  (hx:Ev s x (.ms k sz 0 len)) (hi:Ev s ix (.v (.int kk i))) (hT:aC P T=some ti) (hk:ti.k=.slice E) (hE:aC P E=some te) (hsz:te.size=sz)
  (h0:i=(n:Int)) (he:n<len) (hN:Nat.blt d N=true) :
  Step P N R s ⟨some d,.indexAddr T x ix,t,pos,after,none⟩ ⟨some (.eptr k sz n 0),[],au x++au ix,[]⟩:=by
 have:=m9 (R:=R) (t:=t) (pos:=pos) (after:=after) hx hi hT hk hE hsz h0 he hN
 rwa [Nat.zero_add]at this
theorem o1{x w:Bool}(h:x=w):(x==w)=true:=by subst h;exact beq_self_eq_true x
theorem o2{c x w:Bool}(hc:c=true)(h:x=w):(c&&x==w)=true:=by subst h;subst hc;simp
theorem o3{c x w:Bool}(h:(c&&x==w)=true):c=true:=by cases c <;> simp_all
end Go.Lw
namespace Go.Lw
variable{P:Program}{N:Nat}{R:Array Oper}{s:AS}{pos:String}{after:Array Edge}
mutual
theorem AV.fz_id(k sz:Nat)(es:List AV):∀x:AV,¬x.Names k->x.fz k sz es=x
 | .ms k' sz' off len,h=>by
  have:Nat.beq k' k=false:=by
   cases hb:Nat.beq k' k
   ·rfl
   ·obtain rfl:=XG hb;exact absurd (AV.Names.ms _ _ _ _) h
  simp only[AV.fz,this,Bool.false_and]
 | .agg cs,h=>by simp only[AV.fz];rw[AV.fzs_id k sz es cs (fun c hc hn=>h (.agg hc hn))]
 | .tup cs,h=>by simp only[AV.fz];rw[AV.fzs_id k sz es cs (fun c hc hn=>h (.tup hc hn))]
 | .fn f cs,h=>by simp only[AV.fz];rw[AV.fzs_id k sz es cs (fun c hc hn=>h (.fn hc hn))]
 | .cl f cs ds,_=>by simp only[AV.fz]
 | .opt b x,h=>by simp only[AV.fz];rw[AV.fz_id k sz es x (fun hn=>h (.opt hn))]
 | .v x,_=>by simp only[AV.fz]
 | .lst sz l,_=>by simp only[AV.fz]
 | .iptr l,_=>by simp only[AV.fz]
 | .ptr k off,_=>by simp only[AV.fz]
 | .eptr k sz i off,_=>by simp only[AV.fz]
 | .yl k,_=>by simp only[AV.fz]
theorem AV.fzs_id(k sz:Nat)(es:List AV):∀l:List AV,(∀c∈l,¬c.Names k)->AV.fzs k sz es l=l
 |[],_=>by simp only[AV.fzs]
 |x::l,h=>by simp only[AV.fzs];rw[AV.fz_id k sz es x (h x (by simp)),AV.fzs_id k sz es l (fun c hc=>h c (by simp[hc]))]
end
theorem Po{k sz:Nat}{es:List AV}{x:Blk}(h:¬x.Names k):x.map (AV.fz k sz es)=x:=by
 cases x with
 |row=>rfl
 |vec=>rfl
 |box cs =>
  simp only[Blk.map];congr 1;rw[<- AV.fzs_eq];exact AV.fzs_id k sz es cs (fun c hc hn=>h ⟨c,hc,hn⟩)
 |loop d st pe sl =>
  simp only[Blk.map];congr 1
  induction sl with
  |nil=>rfl
  |cons p sl ih =>
   obtain⟨t,x⟩:=p;simp only[jm];rw[ih (fun⟨t',x',h1,h2⟩=>h ⟨t',x',X8 _ h1,h2⟩)];cases x with
   |none=>rfl
   |some x=>simp only[AV.fz_id k sz es x (fun hn=>h ⟨t,x,X7 ..,hn⟩)]
theorem UH{o:Oper}{d k sz n:Nat}{es:List AV}{rt rd:List Nat}(hd:o.dst=some d)(hn:n=es.length)(hdr:d∉rd)(hdk:d≠k)
  (h:Step P N R s o ⟨some (.ms d sz 0 n),[(d,some (.row sz es)),(k,none)],rt,rd⟩):Step P N R s o ⟨some (.lst sz es),[(d,none),(k,none)],rt,rd⟩:=by
 refine⟨fun s' hag hnew C m a w Q next hC hr hnext=>?_⟩
 have hfr:s'.Fresh d:=by
  rcases hnew d (by simp)with h |h
  ·exact absurd h hdr
  ·exact h
 refine h.run s' hag hnew C m a w Q next hC hr (fun m' a' w' hr'=>?_);rw[hd]at hr'
 have hk:(s'.app (some d) ⟨some (.ms d sz 0 n),[(d,some (.row sz es)),(k,none)],rt,rd⟩).blk d=some (.row sz es):=by
  simp[AS.blk,AS.app,aT]
 obtain⟨m2,hr2⟩:=Wk.freeze hk C m' a' w' hr';refine hnext m2 a' w' ?_;rw[hd];refine hr2.congr ?_ ?_
 ·intro t;simp only[AS.get,pc,AS.app,aT];split
  ·subst hn;have e1:Nat.beq d d=true:=Nat.beq_refl d;have e2:Nat.beq sz sz=true:=Nat.beq_refl sz;have e3:Nat.ble (0+es.length) es.length=true:=Nat.ble_eq_true_of_le oz;simp only[Option.map_some,AV.fz,e1,e2,e3,Bool.and_self,Yh,XP]
  ·cases hx:lk s'.sl t with
   |none=>rfl
   |some x=>simp only[Option.map_some];rw[AV.fz_id _ _ _ _ (hfr.2.2.1 t x hx)]
 ·intro k';simp only[AS.blk,nB,AS.app,List.cons_append,nil_append,aT]
  by_cases h1:k'=d
  ·rw[Yl h1,Yl h1]
  ·rw[Yk h1,Yk h1,Yk h1];split
   ·rfl
   ·cases hx:lk s'.hp k' with
    |none=>rfl
    |some x=>simp only[Option.map_some];rw[Po (hfr.2.2.2 k' x hx)]
theorem oJ{d k sz len:Nat}{es xs:List AV}{x y:Operand}{T E t:TypeId}{ti te:TI}
  (hx:Ev s x (.ms k sz 0 len)) (hk:s.blk k=some (.row sz es)) (hlen:len=es.length) (hy:Ev s y (.lst sz xs)) (hT:aC P T=some ti) (hkd:ti.k=.slice E) (hE:aC P E=some te)
  (hsz:te.size=sz) (hz0:(Nat.beq te.zero.length te.size&&Nat.blt 0 te.size&&Nat.blt 0 te.bytes)=true) (hb:(len+xs.length)*te.bytes<=140737488355328) (hdk:Nat.beq d k=false)
  (hN:Nat.blt d N=true) :
  Step P N R s ⟨some d,.call ⟨.builtin .append,#[x,y],#[T,T]⟩,t,pos,after,none⟩
   ⟨some (.lst sz (es++xs)),[(d,none),(k,none)],au x++au y,[k]⟩ :=
 UH rfl (by rw[XZ,hlen]) (by simpa using Nat.ne_of_beq_eq_false hdk) (Nat.ne_of_beq_eq_false hdk) (bX hx hk hlen hy hT hkd hE hsz hz0 hb hdk hN)
theorem De{ρ:Operand->Value}{d:Option Tmp}{x y:Operand}{T t:TypeId}{w w':World}{v:Value}
  (h:(Builtin.copy_ #[T,T] t #[ρ x,ρ y]).run P w=.ok v w') :
  (execOp ρ ⟨d,.call ⟨.builtin .copy,#[x,y],#[T,T]⟩,t,pos,after,none⟩).run P w=.ok (.value v) w':=by
 simp[execOp,resolve,invoke,builtin,h]
set_option maxHeartbeats 1000000 in
theorem L8{d k sz len:Nat}{es xs:List AV}{x y:Operand}{T E t:TypeId}{ti te:TI}
  (hx:Ev s x (.ms k sz 0 len)) (hk:s.blk k=some (.row sz es)) (hlen:len=es.length) (hy:Ev s y (.lst sz xs)) (hT:aC P T=some ti) (hkd:ti.k=.slice E) (hE:aC P E=some te)
  (hsz:te.size=sz) (hz1:Nat.blt 0 te.size=true) (hb:xs.length<=len) (hN:Nat.blt d N=true) :
  Step P N R s ⟨some d,.call ⟨.builtin .copy,#[x,y],#[T,T]⟩,t,pos,after,none⟩
   ⟨some (.v (.int .i64 xs.length)),[(k,some (.row sz (xs++es.drop xs.length)))],au x++au y,[k]⟩:=by
 refine A4 rfl ?_;intro s' hag hnew C m a w next hC hr hnext;subst hsz;subst hlen
 rw[Nat.blt_eq]at hN hz1;have hkk:lk s'.hp k=some (.row te.size es):=(hag.2 k (by simp)).trans hk;have hd:d<C.nt:=by omega
 have hxr:=(hx.agree hag (fun _ h=>List.mem_append.2 (.inl h))).rep hr;have hyr:=(hy.agree hag (fun _ h=>List.mem_append.2 (.inr h))).rep hr;obtain⟨dd2,h3,h4,-,hu⟩:=d9 hT w;obtain rfl:=iG (h4.trans hkd);obtain⟨ll,hll⟩:∃ll,ll=es.length:=⟨_,rfl⟩
 rw[<- hll]at hxr
 have hput:∀(w':World),RelM C ⟨s'.sl,(k,some (.row te.size (xs++es.drop xs.length)))::s'.hp⟩ m a w'->next (a.put (some d) (goInt xs.length)) w':=by
  intro w' hr';refine hnext m _ _ ?_;have:=hr'.put d (.int .i64 xs.length) (some (.v (.int .i64 xs.length))) (fun z hz=>by cases hz;exact⟨XS hd hr'.nt,.v _⟩);simpa[AS.app,Act.put,goInt]using this
 have hnone:∀(b1 a1:Option Addr)(c1 c2 l1:Nat),a.eval x=.slice b1 l1 c1->a.eval y=.slice a1 0 c2->xs=[] ->
   (⟨some d,.call ⟨.builtin .copy,#[x,y],#[T,T]⟩,t,pos,after,none⟩:Oper).upon P a next (fun _ _ _=>False) ((execOp a.eval ⟨some d,.call ⟨.builtin .copy,#[x,y],#[T,T]⟩,t,pos,after,none⟩).run P w):=by
  intro b1 a1 c1 c2 l1 e1 e2 e3;subst e3
  have hfc:(Builtin.firstCells te.size 0 (.slice a1 0 c2)).run P w=.ok #[] w:=by
   cases a1 with
   |none=>rfl
   |some a1=>exact run_firstCells_some w _ _ a1 _ _ [] (by simp) (by simp)
  have hrun:(Builtin.copy_ #[T,T] t #[.slice b1 l1 c1,.slice a1 0 c2]).run P w=.ok (goInt 0) w:=by
   have e0:Nat.min 0 l1=0:=Nat.zero_min _;cases b1 with
   |none=>simp[Builtin.copy_,h3,f8 hE,Builtin.lenOf,e0,hfc]
   |some b1=>simp[Builtin.copy_,h3,f8 hE,Builtin.lenOf,e0,hfc,storeCells]
  rw[De (ρ:=a.eval) (by rw[e1,e2];exact hrun)];refine hput w ?_;refine RelM.congr (s:=s') (fun t=>rfl) ?_ hr;intro k';simp only[AS.blk,aT];split
  ·subst_vars;rw[hkk];rfl
  ·rfl
 rcases C4 hyr hz1 with⟨rfl,a1,cap1,hyv⟩ |⟨b1,off1,cap1,cs,hyv,hxl,him,hle1,hl1,hs1,ho1,hr1⟩
 ·generalize hxv:a.eval x=u at hxr;cases hxr with
  |ms0 a0=>exact hnone _ _ _ _ _ hxv hyv rfl
  |ms hm hc hS=>exact hnone _ _ _ _ _ hxv hyv rfl
 ·obtain ⟨hne1, hno1, t1, f1, hw1⟩:=him;have hnl:(cs.extract off1 (off1 + xs.length * te.size)).toList.length = xs.length * te.size:=by simp; omega
  have hnc:∀(j:Nat) v,(cs.extract off1 (off1+xs.length*te.size)).toList[j]?=some v->w.cell? ((⟨b1,off1,none⟩:Addr).add j)=some v:=by
   intro j v hj;rw[iV,rc hw1];rw[Array.getElem?_toList,Array.getElem?_extract]at hj;split at hj
   ·exact hj
   ·cases hj
  have hn1:∀u∈(cs.extract off1 (off1+xs.length*te.size)).toList,u.oneCell'=true:=by
   intro u hu;obtain⟨p,hp,rfl⟩:=List.mem_iff_getElem.1 hu;rw[hnl]at hp;have hi':p/te.size<xs.length:=by rw[Nat.div_lt_iff_lt_mul hz1];exact hp
   have he:=XC hi';have hel:=hs1 _ _ he;have hpm:p%te.size<te.size:=Nat.mod_lt _ hz1;have hx2:=XC (show p%te.size<(xs[p/te.size]).cells.length by omega);have hpe:p/te.size*te.size+p%te.size=p:=by rw[Nat.mul_comm];exact Nat.div_add_mod _ _
   have hcv:cs[off1+p/te.size*te.size+p%te.size]?=some ((cs.extract off1 (off1+xs.length*te.size)).toList[p]'oz):=by
    rw[Nat.add_assoc,hpe];simp only[Array.getElem_toList,Array.getElem_extract];exact Array.getElem?_eq_getElem oz
   exact(hr1 _ _ _ _ _ he hx2 hcv).one (ho1 _ _ _ _ he hx2)
  generalize hxv:a.eval x=u at hxr;cases hxr with
  |ms0 a0=>omega
  | @ms _ _ _ _ _ cap b hm hc hS =>
   subst hll;obtain⟨c,t2,hw,hn,hl,hs0,ho0,hr0⟩:=uk hr.heap hkk hm;have hle2:xs.length*te.size<=es.length*te.size:=XY _ hb;have hfc:=run_firstCells_some (P:=P) w te.size xs.length ⟨b1,off1,none⟩ xs.length cap1 _ hnl hnc;have hst:=B2 (P:=P) (cs.extract off1 (off1+xs.length*te.size)).toList c w 0 0 hw (by rw[hnl];omega) hn1;simp only[Nat.add_zero]at hst;have hmin:Nat.min xs.length es.length=xs.length:=Nat.min_eq_left hb
   have hrun:(Builtin.copy_ #[T,T] t #[.slice (some ⟨b,0*te.size,none⟩) es.length cap,.slice (some ⟨b1,off1,none⟩) xs.length cap1]).run P w =
     .ok (goInt xs.length) { w with heap:=w.heap.setIfInBounds b (.cells (over c.toList 0 (cs.extract off1 (off1+xs.length*te.size)).toList).toArray t2 (0,0)) }:=by
    rw[Nat.zero_mul];generalize(cs.extract off1 (off1+xs.length*te.size)).toList=news at hfc hst ⊢;simp[Builtin.copy_,h3,f8 hE,Builtin.lenOf,hmin,hfc,hst]
   rw[De (ρ:=a.eval) (by rw[hxv,hyv];exact hrun)];refine hput _ ?_
   have hcs:(over c.toList 0 (cs.extract off1 (off1+xs.length*te.size)).toList).toArray.size=c.size:=by
    simp only[List.size_toArray];rw[sM _ _ _ (by rw[hnl];simp;omega)];simp
   refine hr.write (x':=.row te.size (xs++es.drop xs.length)) hkk hm hw hcs rfl (fun g S hg hS hw'=>?_)
   have hsplit:∀(i:Nat)(e:AV),(xs++es.drop xs.length)[i]?=some e->(i<xs.length/\xs[i]?=some e)\/(xs.length<=i/\es[i]?=some e):=by
    intro i e he;rcases XH i xs.length with h |h
    ·rw[XU h]at he;exact .inl ⟨h,he⟩
    ·rw[XT h,Ya,show xs.length+(i-xs.length)=i by omega]at he;exact .inr ⟨h,he⟩
   refine .row hw' ?_ (by simp;omega) ?_ ?_ ?_
   ·rw [hcs];have:(xs ++ es.drop xs.length).length = es.length:=by simp; omega
    rw[this];exact hn
   ·intro i e he;rcases hsplit i e he with⟨_,h⟩ |⟨_,h⟩
    ·exact hs1 i e h
    ·exact hs0 i e h
   ·intro i j e z he hz;rcases hsplit i e he with⟨_,h⟩ |⟨_,h⟩
    ·exact ho1 i j e z h hz
    ·exact ho0 i j e z h hz
   ·intro i j e u z he hz hu;refine Rep.mono hg hS ?_ (fun _ _ _ h=>h);rw [List.getElem?_toArray,ja _ _ _ (by rw [hnl]; simp; omega),Yk oz,hnl] at hu;rcases hsplit i e he with ⟨hi,h⟩ | ⟨hi,h⟩
    ·have hj:j<te.size:=by
      rw[<- hs1 i e h];rcases XH j e.cells.length with h |h
      ·exact h
      ·rw[XN h]at hz;cases hz
     have:=mh (sz:=te.size) hi;rw[Yl oz,Array.getElem?_toList,Array.getElem?_extract,Yl oz]at hu;exact hr1 i j e z u h hz (by rw[<- hu];congr 1;omega)
    ·have h9:xs.length*te.size<=i*te.size:=XY _ hi;rw[Yk oz,Array.getElem?_toList]at hu;exact hr0 i j e u z h hz hu
theorem Sub.lst{sz:Nat}{es es':List AV}(hn:es.length=es'.length)(h:∀(i:Nat)(e e':AV),es[i]?=some e->es'[i]?=some e'->kC e e'):Sub (.lst sz es) (.lst sz es'):=by
 intro g S m v hv;cases hv with
 |lst0 a cap =>
  have:es'=[]:=List.eq_nil_of_length_eq_zero (by rw[<- hn];rfl);subst this;exact .lst0 _ _ _
 | @lst _ b off cap _ _ cs u hb hc hl hs h1 hu hr =>
  have hg:∀(i:Nat)(e':AV),es'[i]?=some e'->∃e,es[i]?=some e/\kC e e':=by
   intro i e' he';obtain⟨e,he⟩:=it hn.symm he';exact⟨e,he,h i e e' he he'⟩
  have:=Rep.lst (g:=g) (S:=S) (m:=m) (b:=b) (off:=off) (cap:=cap) (sz:=sz) (es:=es') u hb oz oz
   (fun i e' he'=>by obtain⟨e,he,hc⟩:=hg i e' he';rw[<- hc.1];exact hs i e he)
   (fun i j e' x' he' hx'=>by
    obtain⟨e,he,hc⟩:=hg i e' he';obtain⟨x,hx⟩:=it hc.1.symm hx';exact(hc.2 j x x' hx hx').1)
   (fun i j e' x' he' hx'=>by
    obtain⟨e,he,hc⟩:=hg i e' he';obtain⟨x,hx⟩:=it hc.1.symm hx';exact hu i j e x he hx)
   (fun i j e' x' he' hx'=>by
    obtain⟨e,he,hc⟩:=hg i e' he';obtain⟨x,hx⟩:=it hc.1.symm hx';exact(hc.2 j x x' hx hx').2 _ _ _ _ (hr i j e x he hx))
  rwa [<- hn]at this
end Go.Lw
namespace Go.Lw
variable{P:Program}{N:Nat}{R:Array Oper}{s:AS}{pos:String}{after:Array Edge}
mutual
def AV.fb(k:Nat)(xs:List AV):AV->AV
  | .ptr k' off=>match Nat.beq k' k with
    |true=>.iptr (xs.drop off)
    |false=>.ptr k' off
  | .agg cs=>.agg (AV.fbs k xs cs)
  | .tup cs=>.tup (AV.fbs k xs cs)
  | .fn f cs=>.fn f (AV.fbs k xs cs)
  | .opt b x=>.opt b (AV.fb k xs x)
  | .v x=>.v x
  | .lst sz l=>.lst sz l
  | .iptr l=>.iptr l
  | .ms k sz off len=>.ms k sz off len
  | .eptr k sz i off=>.eptr k sz i off
  | .yl k=>.yl k
  | .cl f cs ds=>.cl f cs ds
def AV.fbs(k:Nat)(xs:List AV):List AV->List AV
  |[]=>[]
  |x::l=>AV.fb k xs x::AV.fbs k xs l
end
theorem AV.fbs_eq(k:Nat)(xs:List AV):∀l,AV.fbs k xs l=l.map (AV.fb k xs)
 |[]=>rfl
 |x::l=>by simp only[AV.fbs,Yi,AV.fbs_eq k xs l]
theorem AV.fb_one(k:Nat)(xs:List AV)(x:AV)(h:x.one=true):(x.fb k xs).one=true:=by
 cases x <;> simp only[AV.fb] <;> first |exact h |(split <;> rfl)
theorem yL{g:Nat->Array Value->Prop}{S:Nat->Nat->Prop}{k:Nat}{xs:List AV}{m:Nat->Option Nat}{v:Value}{x:AV}(h:Rep g S m v x)
  (hb:∀b,m k=some b->∃c:Array Value,g b c/\c.size=xs.length/\(∀(j:Nat)(x:AV),xs[j]?=some x->x.one=true) /\
   ∀(j:Nat)(u:Value)(x:AV),c[j]?=some u->xs[j]?=some x->Rep g S dl u x):Rep g S m v (x.fb k xs):=by
 induction h with
 |v x=>exact .v x
 |lst0 a cap sz'=>exact .lst0 a cap sz'
 |lst u hb' hc hl hs h1 hu hr _=>exact .lst u hb' hc hl hs h1 hu hr
 |iptr u hb' h1 hu hr _=>exact .iptr u hb' h1 hu hr
 |ms0 a k' sz' off=>exact .ms0 _ _ _ _
 |ms hm hc hS=>exact .ms hm hc hS
 |eptr h=>exact .eptr h
 |yl h=>exact .yl h
 |opt h h' ih=>exact .opt (fun hbb=>ih hbb hb) h'
 |agg hn h1 hr ih =>
  simp only[AV.fb,AV.fbs_eq];refine .agg (by simpa using hn) ?_ ?_
  ·intro j c hc;simp only[XE,XB]at hc;obtain⟨y,hy,rfl⟩:=hc;exact AV.fb_one _ _ _ (h1 j y hy)
  ·intro j u c hu hc;simp only[XE,XB]at hc;obtain⟨y,hy,rfl⟩:=hc;exact ih j u y hu hy hb
 |tup hn hr ih =>
  simp only[AV.fb,AV.fbs_eq];refine .tup (by simpa using hn) ?_;intro j u c hu hc;simp only[XE,XB]at hc;obtain⟨y,hy,rfl⟩:=hc;exact ih j u y hu hy hb
 |fn hn hr ih =>
  simp only[AV.fb,AV.fbs_eq];refine .fn (by simpa using hn) ?_;intro j u c hu hc;simp only[XE,XB]at hc;obtain⟨y,hy,rfl⟩:=hc;exact ih j u y hu hy hb
 |cl hn hr hn' hr' _ _=>exact .cl hn hr hn' hr'
 | @ptr mm k' off b hm =>
  simp only[AV.fb];split
  ·rename_i h1;obtain rfl:=XG h1;obtain⟨c,hgc,hsz,ho,hr⟩:=hb b hm
   have hcell:∀(j:Nat)(x:AV),(xs.drop off)[j]?=some x->∃u,c[off+j]?=some u:=by
    intro j x hx;rw[Ya]at hx
    have hi:off+j<xs.length:=by
     rcases XH (off+j) xs.length with h |h
     ·exact h
     ·rw[XN h]at hx;cases hx
    exact⟨_,Array.getElem?_eq_getElem oz⟩
   refine .iptr (fun j=>c.getD (off+j) undef) hgc (fun j x hx=>?_) (fun j x hx=>?_) (fun j x hx=>?_)
   ·rw[Ya]at hx;exact ho _ x hx
   ·obtain⟨u,hu⟩:=hcell j x hx;rw[XI,hu];rfl
   ·obtain⟨u,hu⟩:=hcell j x hx;rw[Ya]at hx;rw[XI,hu];exact hr _ u x hu hx
  ·exact .ptr hm
theorem Wk.freezeB{k:Nat}{xs:List AV}(hk:s.blk k=some (.box xs))(hnm:(xs.all fun x=>x.nm.isEmpty)=true):Wk s ⟨jm (AV.fb k xs) s.sl,gK (AV.fb k xs) k s.hp⟩:=by
 intro C m a w hr;refine⟨m,?_⟩
 have hfew:∀k' z,lk ((k,none)::s.hp) k'=some z->lk s.hp k'=some z:=by
  intro k' z hz;rw[aT]at hz;split at hz
  ·cases hz
  ·exact hz
 have hr1:=hr.fewer hfew
 have hb:∀b,m k=some b->∃c:Array Value,Im C.ext ((k,none)::s.hp) m w b c/\c.size=xs.length/\(∀(j:Nat)(x:AV),xs[j]?=some x->x.one=true) /\
   ∀(j:Nat)(u:Value)(x:AV),c[j]?=some u->xs[j]?=some x->Rep (Im C.ext ((k,none)::s.hp) m w) (Sz w) dl u x:=by
  intro b hm;obtain⟨c,t,hw,hn,ho,hrr⟩:=wW hr.heap hk hm;have him:=eU (ext:=C.ext) (Frame.refl (a9 s.hp m) w) (hp':=(k,none)::s.hp) (m':=m) (fun k' z b' hz hb'=>.inl ⟨k',z,hfew k' z hz,hb'⟩);refine⟨c,⟨(hr.heap.sep k _ b hk hm).1,?_,t,(0,0),hw⟩,hn,ho,fun j u x hu hx=>(hrr j u x hu hx).mono him (fun _ _ h=>h) (fun k' _ hn _=>?_)⟩
  ·rintro⟨k',z,hz,hb'⟩;have:=hr.heap.inj k k' _ z b hk (hfew k' z hz) hm hb';subst this;rw[aT,Yl rfl]at hz;cases hz
  ·have h9:=List.all_eq_true.1 hnm x (Xx hx);have h8:=AV.Names.mem hn;rw[List.isEmpty_iff.1 h9]at h8;cases h8
 have hown:∀k' z,lk (gK (AV.fb k xs) k s.hp) k'=some z->∃y,lk ((k,none)::s.hp) k'=some y/\z=y.map (AV.fb k xs):=by
  intro k' z hz;rw[nB]at hz;split at hz
  ·cases hz
  ·rename_i hne;simp only[XB]at hz;obtain⟨y,hy,rfl⟩:=hz;exact⟨y,by rw[aT,Yk hne];exact hy,rfl⟩
 have hown':∀k' y,lk ((k,none)::s.hp) k'=some y->lk (gK (AV.fb k xs) k s.hp) k'=some (y.map (AV.fb k xs)):=by
  intro k' y hy;rw[aT]at hy;split at hy
  ·cases hy
  ·rename_i hne;rw[nB,Yk hne,hy];rfl
 have e1:a9 (gK (AV.fb k xs) k s.hp) m=a9 ((k,none)::s.hp) m:=by
  funext b;apply propext;constructor
  ·rintro⟨k',z,hz,hb⟩;obtain⟨y,hy,_⟩:=hown k' z hz;exact⟨k',y,hy,hb⟩
  ·rintro⟨k',y,hy,hb⟩;exact⟨k',_,hown' k' y hy,hb⟩
 have e2:Im C.ext (gK (AV.fb k xs) k s.hp) m w=Im C.ext ((k,none)::s.hp) m w:=by funext b cs;simp only[Im,e1]
 refine⟨?_,⟨?_,?_,?_⟩,hr1.frame,?_,?_,hr1.defers,hr1.nt⟩
 ·intro t x hx;simp only[AS.get,pc,XB]at hx;obtain⟨y,hy,rfl⟩:=hx;obtain⟨g1,g2⟩:=hr1.slots t y hy;refine⟨g1,?_⟩;show Rep (Im C.ext (gK (AV.fb k xs) k s.hp) m w) _ _ _ _;rw[e2];exact yL g2 hb
 ·intro k' z hz;obtain⟨y,hy,rfl⟩:=hown k' z hz;rw[e2];have:=hr1.heap.blk k' y hy;cases y with
  |row sz' es'=>exact this
  |vec vs =>
   simp only[Blk.map];generalize m k'=o at this;cases this with
   |vec hw hc h1=>exact .vec hw hc h1
  |loop=>exact this.mapLoop _ (fun _ _ _ _ h=>yL h hb)
  |box cs =>
   simp only[Blk.map];generalize m k'=o at this;cases this with
   |box hw hn h1 hrr =>
    refine .box hw (by simpa using hn) ?_ ?_
    ·intro j x hx;simp only[XE,XB]at hx;obtain⟨y,hy,rfl⟩:=hx;exact AV.fb_one _ _ _ (h1 j y hy)
    ·intro j u x hu hx;simp only[XE,XB]at hx;obtain⟨y,hy,rfl⟩:=hx;exact yL (hrr j u y hu hy) hb
 ·intro k1 k2 z1 z2 b g1 g2;obtain⟨y1,hy1,_⟩:=hown k1 z1 g1;obtain⟨y2,hy2,_⟩:=hown k2 z2 g2;exact hr1.heap.inj k1 k2 y1 y2 b hy1 hy2
 ·intro k' z b hz hb;obtain⟨y,hy,_⟩:=hown k' z hz;exact hr1.heap.sep k' y b hy hb
 ·intro k' z b hz hb;obtain⟨y,hy,_⟩:=hown k' z hz;exact hr1.new k' y b hy hb
 ·intro k' z h1000 hz;obtain⟨y,hy,_⟩:=hown k' z hz;exact hr1.keep k' y h1000 hy
def vX(P:Program)(t:TypeId):Bool:=match P.underlying t with |some (.int .i64)=>true |_=>false
theorem HE{P:Program}{t:TypeId}(h:vX P t=true):P.underlying t=some (.int .i64):=by
 unfold vX at h;split at h
 ·assumption
 ·cases h
def Bk(P:Program)(T:TypeId):Bool:=match P.underlying T with
  |some (.struct fs)=>(match fs.toList with
    | [f, g] => f.name != "_" && g.name != "_" && Nat.beq f.offset 0 && Nat.beq g.offset 1 && vX P f.type && vX P g.type
    |_=>false)&&!P.stoodInHeld T&&!P.eqGuardType P.depth T
  |_=>false
theorem NX{P:Program}{T:TypeId}(h:Bk P T=true)(w:World)(a b c d:Int) :
  (Op.equalIn 10000 T (.agg #[.int .i64 a,.int .i64 b]) (.agg #[.int .i64 c,.int .i64 d])).run P w=.ok (a==c&&b==d) w/\P.eqGuardType P.depth T=false:=by
 unfold Bk at h;split at h
 ·rename_i fs hu;rw[XF,XF]at h;obtain⟨⟨h,h1⟩,h2⟩:=h;split at h
  ·rename_i f g hfs;simp only [XF] at h;obtain ⟨⟨⟨⟨⟨g1,g2⟩,g3⟩,g4⟩,g5⟩,g6⟩:=h;have hF:P.fieldsOf T = fs:=by unfold Program.fieldsOf; rw [hu]
   have hs:P.stoodInHeld T=false:=by simpa using h1
   refine ⟨?_,by simpa using h2⟩;have u5:=HE g5;have u6:=HE g6;have o3:=XG g3;have o4:=XG g4;have n1 : f.name ≠ "_" := by simpa using g1
   have n2 : g.name ≠ "_" := by simpa using g2
   rw[run_equalIn_struct w 9999 T _ _ (by rw[hF];exact hu) hs,hF,hfs]
   have e1:∀(x:Int)(y:Int),(part f.type #[.int .i64 x,.int .i64 y] f.offset).run P w=.ok (.int .i64 x) w:=by
    intro x y;simp[part,isAgg,run_underlying u5,o3]
   have e2:∀(x:Int)(y:Int),(part g.type #[.int .i64 x,.int .i64 y] g.offset).run P w=.ok (.int .i64 y) w:=by
    intro x y;simp[part,isAgg,run_underlying u6,o4]
   have e3:∀(x y:Int),(Op.equalIn 9999 f.type (.int .i64 x) (.int .i64 y)).run P w=.ok (x==y) w:=fun x y=>run_equalIn_int w 9998 f.type .i64 .i64 x y u5
   have e4:∀(x y:Int),(Op.equalIn 9999 g.type (.int .i64 x) (.int .i64 y)).run P w=.ok (x==y) w:=fun x y=>run_equalIn_int w 9998 g.type .i64 .i64 x y u6
   simp only[Op.eqFields,n1,n2,ne_eq,not_false_eq_true,if_true,Sem.run_bind,e1,e2,e3,e4,Result.andThen_ok,Sem.run_ite];cases(a==c) <;> cases(b==d) <;> simp
  ·cases h
 ·cases h
theorem Tq{d:Nat}{x y:Operand}{a b c e:Int}{S T t:TypeId}(hx:Ev s x (.agg [.v (.int .i64 a),.v (.int .i64 b)]))(hy:Ev s y (.agg [.v (.int .i64 c),.v (.int .i64 e)]))
  (hS:Bk P S=true) (hN:Nat.blt d N=true) :
  Step P N R s ⟨some d,.binOp .eql S x y T,t,pos,after,none⟩ ⟨some (.v (.bool (a==c&&b==e))),[],au x++au y,[]⟩ :=
 dA rfl rfl hN fun s' hag C m ac w hr=>⟨.bool (a==c&&b==e),by
  have h:=(hx.agree hag (fun _ h=>List.mem_append.2 (.inl h))).rep hr;have h':=(hy.agree hag (fun _ h=>List.mem_append.2 (.inr h))).rep hr
  have pair:∀{v:Value}{p q:Int},Rep (Im C.ext s'.hp m w) (Sz w) m v (.agg [.v (.int .i64 p),.v (.int .i64 q)])->v=.agg #[.int .i64 p,.int .i64 q]:=by
   intro v p q hv;cases hv with
   | @agg _ vs _ hn h1 hrr =>
    have i0:0<vs.size:=by rw[hn];simp
    have i1:1<vs.size:=by rw[hn];simp
    have r0:=hrr 0 vs[0] _ (by simp[i0]) rfl;have r1:=hrr 1 vs[1] _ (by simp[i1]) rfl;generalize hz0:vs[0]=z0 at r0;generalize hz1:vs[1]=z1 at r1;cases r0;cases r1
    congr 1;refine Array.ext (by rw[hn];rfl) (fun i hi _=>?_)
    match i,hi with
    |0,_=>exact hz0
    |1,_=>exact hz1
    |i+2,hi=>rw[hn]at hi;simp at hi;omega
  have hu:=pair h;have hv:=pair h';obtain⟨r1,r2⟩:=NX hS w a b c e;simp only[execOp,hu,hv,Sem.run_bind,run_eqGuard_agg w .eql S x y _ _ r2,Result.andThen_ok,run_eql_struct,r1,Sem.run_pure],.v _⟩
theorem vY{d n e:Nat}{x y:Operand}{kk:IntKind}{i:Int}{k off sz:Nat}{T t:TypeId}{ti te:TI}(hx:Ev s x (.ptr k off))(hi:Ev s y (.v (.int kk i)))
  (hT:aC P T=some ti) (hk:ti.k=.array n e) (hE:aC P e=some te) (hsz:te.size=sz) (h0:0<=i) (he:i<(n:Int)) (hN:Nat.blt d N=true) :
  Step P N R s ⟨some d,.indexAddr T x y,t,pos,after,none⟩ ⟨some (.ptr k (off+i.toNat*sz)),[],au x++au y,[]⟩ :=
 dA rfl rfl hN fun s' hag C m a w hr=>by
  obtain⟨b,hm,hv⟩:=pz hr (hx.agree hag (fun _ h=>List.mem_append.2 (.inl h)));have hiv:=mL hr (hi.agree hag (fun _ h=>List.mem_append.2 (.inr h)));obtain⟨d2,h2,h3,-,-⟩:=d9 hT w;obtain rfl:=UA (h3.trans hk);subst hsz;refine⟨.pointer (some ⟨b,off+i.toNat*te.size,none⟩),?_,.ptr hm⟩;simp[execOp,hv,hiv,Instr.indexAt,Instr.sureAddr,asIntOf,h2,h0,he,f8 hE,iV]
end Go.Lw
namespace Go.Lw
theorem SlW.k {sl l : bO} {x y : AV} {t : Nat} (hl : SlW sl l) (h : lk sl t = some y := by exact rfl)
  (hs:Sub y x:=by first |exact Sub.refl _ |exact Sub.nil _ _ _ |exact Sub.nM _ _ _ |exact Sub.int oz):SlW sl ((t,some x)::l):=.cons h hs hl
open Go.Proofs
abbrev FP(f:FuncId)(a:List AV)(r:AV):Prop:=gO prog f a r
theorem Vh:prog.follows .mixedOrders=true:=by kernel_rfl
theorem T3:aC prog 3=some ⟨1,8,[.int .i64 0],.int .i64,[]⟩:=by kernel_rfl
theorem T4:aC prog 4=some ⟨1,1,[.bool false],.bool,[]⟩:=by kernel_rfl
theorem T5:aC prog 5=some ⟨1,1,[.int .u8 0],.int .u8,[]⟩:=by kernel_rfl
theorem T9:aC prog 9=some ⟨1,16,[.string ⟨#[]⟩],.string,[]⟩:=by kernel_rfl
theorem T22:aC prog 22=some ⟨1,24,[.slice none 0 0],.slice 173,[]⟩:=by kernel_rfl
theorem T23:aC prog 23=some ⟨1,24,[.slice none 0 0],.slice 75,[]⟩:=by kernel_rfl
theorem T24:aC prog 24=some ⟨1,24,[.slice none 0 0],.slice 185,[]⟩:=by kernel_rfl
theorem T26:aC prog 26=some ⟨4,88,[.string ⟨#[]⟩,.slice none 0 0,.slice none 0 0,.slice none 0 0],.struct,[(0,1),(1,1),(2,1),(3,1)]⟩:=by kernel_rfl
theorem T32:aC prog 32=some ⟨1,24,[.slice none 0 0],.slice 53,[]⟩:=by kernel_rfl
theorem T35:aC prog 35=some ⟨1,24,[.slice none 0 0],.slice 67,[]⟩:=by kernel_rfl
theorem T37:aC prog 37=some ⟨1,24,[.slice none 0 0],.struct,[(0,1)]⟩:=by kernel_rfl
theorem T38:aC prog 38=some ⟨1,24,[.slice none 0 0],.slice 69,[]⟩:=by kernel_rfl
theorem T39:aC prog 39=some ⟨1,24,[.slice none 0 0],.slice 3,[]⟩:=by kernel_rfl
theorem T41:aC prog 41=some ⟨3,72,[.slice none 0 0,.slice none 0 0,.slice none 0 0],.struct,[(0,1),(1,1),(2,1)]⟩:=by kernel_rfl
theorem T43:aC prog 43=some ⟨1,24,[.slice none 0 0],.slice 350,[]⟩:=by kernel_rfl
theorem T45:aC prog 45=some ⟨3,56,[.bool false,.slice none 0 0,.slice none 0 0],.struct,[(0,1),(1,1),(2,1)]⟩:=by kernel_rfl
theorem T47:aC prog 47=some ⟨4,64,[.bool false,.slice none 0 0,.slice none 0 0,.bool false],.struct,[(0,3),(3,1)]⟩:=by kernel_rfl
theorem T49:aC prog 49=some ⟨6,112,[.bool false,.slice none 0 0,.slice none 0 0,.bool false,.slice none 0 0,.slice none 0 0],.struct,[(0,3),(3,3)]⟩:=by kernel_rfl
theorem T53:aC prog 53=some ⟨4,64,[.int .i64 0,.slice none 0 0,.slice none 0 0,.int .i64 0],.struct,[(0,1),(1,1),(2,1),(3,1)]⟩:=by kernel_rfl
theorem T54:aC prog 54=some ⟨1,24,[.slice none 0 0],.slice 62,[]⟩:=by kernel_rfl
theorem T56:aC prog 56=some ⟨1,16,[.nilIface],.iface 1,[]⟩:=by kernel_rfl
theorem T60:aC prog 60=some ⟨1,8,[.int .i64 0],.int .i64,[]⟩:=by kernel_rfl
theorem T62:aC prog 62=some ⟨3,56,[.slice none 0 0,.slice none 0 0,.int .i64 0],.struct,[(0,1),(1,1),(2,1)]⟩:=by kernel_rfl
theorem T66:aC prog 66=some ⟨1,24,[.slice none 0 0],.slice 45,[]⟩:=by kernel_rfl
theorem T67:aC prog 67=some ⟨1,24,[.slice none 0 0],.slice 45,[]⟩:=by kernel_rfl
theorem T69:aC prog 69=some ⟨4,96,[.slice none 0 0,.slice none 0 0,.slice none 0 0,.slice none 0 0],.struct,[(0,1),(1,1),(2,1),(3,1)]⟩:=by kernel_rfl
theorem T75:aC prog 75=some ⟨7,64,[.string ⟨#[]⟩,.int .i64 0,.int .i64 0,.int .i64 0,.int .i64 0,.int .i64 0,.int .i64 0],.struct,[(0,1),(1,1),(2,1),(3,1),(4,1),(5,1),(6,1)]⟩:=by kernel_rfl
theorem T77:aC prog 77=some ⟨2,48,[.slice none 0 0,.slice none 0 0],.struct,[(0,1),(1,1)]⟩:=by kernel_rfl
theorem T85:aC prog 85=some ⟨1,24,[.slice none 0 0],.slice 41,[]⟩:=by kernel_rfl
theorem T88:aC prog 88=some ⟨1,24,[.slice none 0 0],.slice 47,[]⟩:=by kernel_rfl
theorem T92:aC prog 92=some ⟨2,16,[.int .i64 0,.int .i64 0],.struct,[(0,1),(1,1)]⟩:=by kernel_rfl
theorem T127:aC prog 127=some ⟨12,240,[.string ⟨#[]⟩,.slice none 0 0,.slice none 0 0,.slice none 0 0,.int .i64 0,.slice none 0 0,.slice none 0 0,.int .i64 0,.slice none 0 0,.slice none 0 0,.slice none 0 0,.nilIface],.struct,[(0,4),(4,4),(8,3),(11,1)]⟩:=by kernel_rfl
theorem T133:aC prog 133=some ⟨2,40,[.slice none 0 0,.nilIface],.struct,[(0,1),(1,1)]⟩:=by kernel_rfl
theorem T136:aC prog 136=some ⟨14,272,[.bool false,.slice none 0 0,.slice none 0 0,.bool false,.slice none 0 0,.slice none 0 0,.slice none 0 0,.slice none 0 0,.bool false,.slice none 0 0,.slice none 0 0,.bool false,.slice none 0 0,.slice none 0 0],.struct,[(0,6),(6,2),(8,6)]⟩:=by kernel_rfl
theorem T142:aC prog 142=some ⟨3,72,[.slice none 0 0,.slice none 0 0,.slice none 0 0],.struct,[(0,2),(2,1)]⟩:=by kernel_rfl
theorem T152:aC prog 152=some ⟨19,392,[.bool false,.slice none 0 0,.slice none 0 0,.bool false,.slice none 0 0,.slice none 0 0,.slice none 0 0,.slice none 0 0,.bool false,.slice none 0 0,.slice none 0 0,.bool false,.slice none 0 0,.slice none 0 0,.slice none 0 0,.slice none 0 0,.slice none 0 0,.slice none 0 0,.slice none 0 0],.struct,[(0,6),(6,2),(8,6),(14,1),(15,1),(16,1),(17,2)]⟩:=by kernel_rfl
theorem T171:aC prog 171=some ⟨1,24,[.slice none 0 0],.slice 175,[]⟩:=by kernel_rfl
theorem T173:aC prog 173=some ⟨2,40,[.string ⟨#[]⟩,.slice none 0 0],.struct,[(0,1),(1,1)]⟩:=by kernel_rfl
theorem T175:aC prog 175=some ⟨7,128,[.string ⟨#[]⟩,.bool false,.slice none 0 0,.slice none 0 0,.bool false,.slice none 0 0,.slice none 0 0],.struct,[(0,1),(1,3),(4,3)]⟩:=by kernel_rfl
theorem T181:aC prog 181=some ⟨1,8,[.nilFunc],.other,[]⟩:=by kernel_rfl
theorem T183:aC prog 183=some ⟨9,176,[.string ⟨#[]⟩,.slice none 0 0,.slice none 0 0,.slice none 0 0,.slice none 0 0,.slice none 0 0,.nilFunc,.bool false,.slice none 0 0],.struct,[(0,4),(4,1),(5,1),(6,1),(7,1),(8,1)]⟩:=by kernel_rfl
theorem T185:aC prog 185=some ⟨2,24,[.string ⟨#[]⟩,.int .i64 0],.struct,[(0,1),(1,1)]⟩:=by kernel_rfl
theorem T219:aC prog 219=some ⟨1,24,[.slice none 0 0],.slice 4,[]⟩:=by kernel_rfl
theorem T237:aC prog 237=some ⟨1,24,[.slice none 0 0],.slice 77,[]⟩:=by kernel_rfl
theorem T239:aC prog 239=some ⟨2,48,[.slice none 0 0,.slice none 0 0],.struct,[(0,1),(1,1)]⟩:=by kernel_rfl
theorem T254:aC prog 254=some ⟨2,40,[.slice none 0 0,.nilIface],.struct,[(0,1),(1,1)]⟩:=by kernel_rfl
theorem T262:aC prog 262=some ⟨2,40,[.slice none 0 0,.nilIface],.struct,[(0,1),(1,1)]⟩:=by kernel_rfl
theorem T274:aC prog 274=some ⟨2,32,[.bool false,.slice none 0 0],.struct,[(0,1),(1,1)]⟩:=by kernel_rfl
theorem T309:aC prog 309=some ⟨6,144,[.slice none 0 0,.slice none 0 0,.slice none 0 0,.slice none 0 0,.slice none 0 0,.slice none 0 0],.array 3 77,[]⟩:=by kernel_rfl
theorem T318:aC prog 318=some ⟨1,8,[.pointer none],.pointer 323,[]⟩:=by kernel_rfl
theorem T323:aC prog 323=some ⟨8,184,[.string ⟨#[]⟩,.slice none 0 0,.slice none 0 0,.slice none 0 0,.slice none 0 0,.slice none 0 0,.slice none 0 0,.slice none 0 0],.struct,[(0,4),(4,1),(5,1),(6,1),(7,1)]⟩:=by kernel_rfl
theorem T328:aC prog 328=some ⟨1,8,[.int .u64 0],.int .u64,[]⟩:=by kernel_rfl
theorem T331:aC prog 331=some ⟨1,24,[.slice none 0 0],.slice 49,[]⟩:=by kernel_rfl
theorem T337:aC prog 337=some ⟨1,24,[.slice none 0 0],.slice 136,[]⟩:=by kernel_rfl
theorem T340:aC prog 340=some ⟨1,24,[.slice none 0 0],.slice 142,[]⟩:=by kernel_rfl
theorem T348:aC prog 348=some ⟨1,8,[.int .u64 0],.int .u64,[]⟩:=by kernel_rfl
theorem T350:aC prog 350=some ⟨1,4,[.int .u32 0],.int .u32,[]⟩:=by kernel_rfl
theorem T380:aC prog 380=some ⟨1,8,[.int .i64 0],.int .i64,[]⟩:=by kernel_rfl
theorem T395:aC prog 395=some ⟨1,8,[.int .u64 0],.int .u64,[]⟩:=by kernel_rfl
theorem T401:aC prog 401=some ⟨1,8,[.nilFunc],.other,[]⟩:=by kernel_rfl
theorem jQ{k:Nat}{x:Blk}{m:Nat->Option Nat}{b:Nat}:a9 [(k,some x)] m b↔m k=some b:=by
 constructor
 ·rintro⟨k',y,hy,hb⟩;rw[aT]at hy;split at hy
  ·rename_i e;rw[<- e]at *;exact hb
  ·cases hy
 ·intro h;exact⟨k,x,by rw[aT,Yl rfl],h⟩
theorem fC{k k':Nat}{x:Option Blk}{z:Blk}(h:lk [(k,x)] k'=some z):k'=k/\x=some z:=by
 rw[aT]at h;split at h
 ·rename_i e;exact⟨e,h⟩
 ·cases h
theorem jX{ext:Nat->Prop}{k d:Nat}{x y:Blk}{m m2:Nat->Option Nat}{w:World}(h:m2 d=m k):Im ext [(d,some y)] m2 w=Im ext [(k,some x)] m w:=by
 funext b cs;apply propext;have:a9 [(d,some y)] m2 b↔a9 [(k,some x)] m b:=by rw[jQ,jQ,h]
 simp only[Im,this]
theorem pf{ext:Nat->Prop}{k d sz:Nat}{es:List AV}{m m2:Nat->Option Nat}{w:World}(h:m2 d=m k)(hr:HeapRel ext [(k,some (.row sz es))] m w):HeapRel ext [(d,some (.row sz es))] m2 w:=by
 refine⟨?_,?_,?_⟩
 ·intro k' z hz;obtain⟨rfl,h9⟩:=fC hz;cases h9;have h1:=hr.blk k _ (by rw[aT,Yl rfl]);rw[jX h (y:=.row sz es) (x:=.row sz es)];exact BlkRep.mono (w:=w) (fun _ _ h=>h) (fun _ _ h=>h) (fun _ _ hn=>hn.elim) h (fun _ _=>rfl) h1
 ·intro k1 k2 z z' b h1 h2 _ _;rw[(fC h1).1,(fC h2).1]
 ·intro k' z b hz hb;obtain⟨rfl,h9⟩:=fC hz;cases h9;exact hr.sep k _ b (by rw[aT,Yl rfl]) (h▸hb)
mutual
def AV.sc:AV->Bool
  | .v _=>true
  | .agg cs=>AV.scs cs
  | .tup cs=>AV.scs cs
  |_=>false
def AV.scs:List AV->Bool
  |[]=>true
  |x::l=>x.sc&&AV.scs l
end
theorem AV.scs_mem:∀{l:List AV}{c:AV},AV.scs l=true->c∈l->c.sc=true
 |x::l,c,h,hc=>by
  simp only[AV.scs,XF]at h;rcases List.mem_cons.1 hc with rfl |hc
  ·exact h.1
  ·exact AV.scs_mem h.2 hc
theorem Az{g g':Nat->Array Value->Prop}{S S':Nat->Nat->Prop}{m m':Nat->Option Nat}{v:Value}{x:AV}(hx:x.sc=true)(h:Rep g S m v x):Rep g' S' m' v x:=by
 induction h with
 |v=>exact .v _
 |agg hn h1 hr ih=>exact .agg hn h1 (fun j u c hu hc=>ih j u c hu hc (AV.scs_mem hx (Xx hc)))
 |tup hn hr ih=>exact .tup hn (fun j u c hu hc=>ih j u c hu hc (AV.scs_mem hx (Xx hc)))
 |_=>cases hx
def Blk.sc:Blk->Bool
  | .row _ es=>es.all fun e=>e.cells.all AV.sc
  | .box cs=>cs.all AV.sc
  | .loop _ _ _ _=>false
  | .vec _=>true
theorem QY{g g':Nat->Array Value->Prop}{S S':Nat->Nat->Prop}{m m':Nat->Option Nat}{w:World}{o:Option Nat}{x:Blk}(hx:x.sc=true)(h:BlkRep g S m w o x):BlkRep g' S' m' w o x:=by
 cases h with
 |none=>exact .none _
 |box hw hn h1 hr =>
  refine .box hw hn h1 (fun j u x hu hc=>Az ?_ (hr j u x hu hc));exact List.all_eq_true.1 hx x (Xx hc)
 |row hw hn hl hs h1 hr =>
  refine .row hw hn hl hs h1 (fun i j e u x he hc hu=>Az ?_ (hr i j e u x he hc hu));exact List.all_eq_true.1 (List.all_eq_true.1 hx e (Xx he)) x (Xx hc)
 |loop=>cases hx
 |vec hw hc h1=>exact .vec hw hc h1
theorem iN{g:Nat->Array Value->Prop}{S:Nat->Nat->Prop}{m m':Nat->Option Nat}{v:Value}{x:AV}(hx:x.nm=[])(h:Rep g S m v x):Rep g S m' v x :=
 h.mono (fun _ _ h=>h) (fun _ _ h=>h) (fun k b hk=>by have:=hk.mem;rw[hx]at this;cases this)
theorem Con.rk{P:Program}{f:FuncId}{k sz off len:Nat}{xs es es':List AV}{r:AV}(d:Nat)(hxs:(xs.all fun x=>x.nm.isEmpty)=true)(hr:r.nm=[])
  (h:Con P f (.ms k sz off len::xs) [(k,some (.row sz es))] r [(k,some (.row sz es'))]):Con P f (.ms d sz off len::xs) [(d,some (.row sz es))] r [(d,some (.row sz es'))]:=by
 refine⟨h.ok,?_⟩;intro ext m w vs hext hheap hvs hrep
 have h1 := h.ret ext (fun _ => m d) w vs hext (pf (k := d) rfl hheap) (by simpa using hvs) (by
  intro j v x hv hx;rw[jX (d:=k) (k:=d) (y:=.row sz es) (x:=.row sz es) (m2:=fun _=>m d) (m:=m) rfl]
  match j,hx with
  |0,hx =>
   cases hx;have h2:=hrep 0 v _ hv rfl;cases h2 with
   |ms0 a=>exact .ms0 a _ _ _
   |ms hm hc hS=>exact .ms hm hc hS
  |j+1,hx =>
   have h2:=hrep (j+1) v x hv hx;refine iN ?_ h2;have:=List.all_eq_true.1 hxs x (Xx hx);simpa using this)
 refine Calls.mono h1 ?_;rintro e w' ⟨v,m',rfl,hf,hh,hn,hk,hrr⟩
 have ho:a9 [(k,some (Blk.row sz es))] (fun _=>m d)=a9 [(d,some (Blk.row sz es))] m:=by
  funext b;apply propext;rw[jQ,jQ]
 refine⟨v,fun _=>m' k,rfl,ho▸hf,pf (k:=k) rfl hh,?_,?_,?_⟩
 ·intro k' x b hx hb;rw[<- ho];exact hn k _ b (by rw[aT,Yl rfl]) hb
 ·intro k' x y hx hy;obtain⟨rfl,_⟩:=fC hx;exact hk k _ _ (by rw[aT,Yl rfl]) (by rw[aT,Yl rfl])
 ·rw[jX (d:=d) (k:=k) (y:=.row sz es') (x:=.row sz es') (m2:=fun _=>m' k) (m:=m') rfl];exact iN hr hrr
theorem Con.borrowF{P:Program}{f:FuncId}{args args':List AV}{H H':Hp}{r:AV}(k sz:Nat)(es:List AV)(hk:lk H k=none)(hk':lk H' k=none)(hl:args'.length=args.length)
  (hargs:∀(j:Nat)(x':AV),args'[j]?=some x'->args[j]?=some x'\/args[j]?=some (x'.fz k sz es))
  (hr:r.sc=true) (hH':∀k' x,lk H' k'=some x->x.sc=true) (h:Con P f args H r H') :
  Con P f args' ((k,some (.row sz es))::H) r ((k,some (.row sz es))::H'):=by
 refine⟨h.ok,?_⟩;intro ext m w vs hext hheap hvs hrep
 have hsub:∀k' z,lk H k'=some z->lk ((k,some (.row sz es))::H) k'=some z:=by
  intro k' z hz;rw[aT];split
  ·rename_i e;rw[e,hk]at hz;cases hz
  ·exact hz
 have hownsub:∀b,a9 H m b->a9 ((k,some (.row sz es))::H) m b:=fun b ⟨k',z,h1,h2⟩=>⟨k',z,hsub k' z h1,h2⟩
 have him:∀b cs,Im ext ((k,some (.row sz es))::H) m w b cs->Im ext H m w b cs:=fun b cs ⟨h1,h2,h3⟩=>⟨h1,fun h'=>h2 (hownsub b h'),h3⟩
 have hheap':HeapRel ext H m w:=by
  refine⟨?_,?_,?_⟩
  ·intro k' z hz;exact BlkRep.mono (w:=w) him (fun _ _ h=>h) (fun _ _ _ h=>h) rfl (fun _ _=>rfl) (hheap.blk k' z (hsub k' z hz))
  ·intro k1 k2 z z' b h1 h2;exact hheap.inj k1 k2 z z' b (hsub _ _ h1) (hsub _ _ h2)
  ·intro k' z b hz;exact hheap.sep k' z b (hsub _ _ hz)
 have hkk:lk ((k,some (Blk.row sz es))::H) k=some (.row sz es):=by rw[aT,Yl rfl]
 have hblk:=hheap.blk k _ hkk
 have hnot:∀b,m k=some b->¬a9 H m b:=by
  rintro b hb ⟨k',z,hz,hb'⟩;have:=hheap.inj k k' _ _ b hkk (hsub _ _ hz) hb hb';subst this;rw[hk]at hz;cases hz
 have h1 := h.ret ext m w vs hext hheap' (by rw [hvs, hl]) (by
  intro j v x hv hx
  have hj:j<args'.length:=by
   rw[hl];rcases XH j args.length with h |h
   ·exact h
   ·rw[XN h]at hx;cases hx
  have hx':=XC hj;have h2:=hrep j v _ hv hx';rcases hargs j _ hx' with h3 |h5
  ·rw[hx]at h3;cases h3
   exact h2.mono him (fun _ _ h=>h) (fun _ _ _ h=>h)
  ·rw[hx]at h5;cases h5
   have h6:=uy (g:=Im ext H m w) (k:=k) (sz:=sz) (es:=es) (h2.mono him (fun _ _ h=>h) (fun _ _ _ h=>h)) (by
    intro b hb;rw[hb]at hblk;cases hblk with
    | @row _ _ _ c t hw hn hl hs h1 hr =>
     exact⟨c,⟨(hheap.sep k _ b hkk hb).1,hnot b hb,t,_,hw⟩,hn,hl,hs,h1,fun i j e u x he hx hu=>(hr i j e u x he hx hu).mono him (fun _ _ h=>h) (fun _ _ _ h=>h)⟩)
   exact h6)
 refine Calls.mono h1 ?_;rintro e w' ⟨v,m',rfl,hf,hh,hn,hkeep,hrr⟩
 have hsub':∀k' z,lk ((k,some (Blk.row sz es))::H') k'=some z->(k'=k/\z=.row sz es)\/(k'≠k/\lk H' k'=some z):=by
  intro k' z hz;rw[aT]at hz;split at hz
  ·rename_i e;cases hz;exact .inl ⟨e,rfl⟩
  ·rename_i e;exact .inr ⟨e,hz⟩
 have hframe:Frame (a9 ((k,some (.row sz es))::H) m) w w':=⟨hf.os,hf.tape,hf.output,hf.size,hf.sz,fun b h1 h2=>hf.keep b h1 (fun h'=>h2 (hownsub b h'))⟩
 have hnew:∀k' x b,lk ((k,some (Blk.row sz es))::H') k'=some x->(if k'=k then m k else m' k')=some b->a9 ((k,some (.row sz es))::H) m b\/w.heap.size<=b:=by
  intro k' x b hx hb;rcases hsub' k' x hx with⟨rfl,rfl⟩ |⟨h2,h3⟩
  ·rw[Yl rfl]at hb;exact .inl ⟨k',_,hkk,hb⟩
  ·rw[Yk h2]at hb;rcases hn k' x b h3 hb with h4 |h4
   ·exact .inl (hownsub b h4)
   ·exact .inr h4
 have him2:=eU (ext:=ext) hframe (hp':=(k,some (.row sz es))::H') (m':=fun k'=>if k'=k then m k else m' k') hnew;refine⟨v,fun k'=>if k'=k then m k else m' k',rfl,hframe,⟨?_,?_,?_⟩,hnew,?_,Az hr hrr⟩
 ·intro k' z hz;rcases hsub' k' z hz with⟨rfl,rfl⟩ |⟨h2,h3⟩
  ·rw[Yl rfl];exact BlkRep.mono him2 (fun b n h=>hf.sz b n h) (fun _ _ hn=>hn.elim) rfl (fun b hb=>hf.keep b (hheap.sep k' _ b hkk hb).2 (hnot b hb)) hblk
  ·rw[Yk h2];exact QY (hH' k' z h3) (hh.blk k' z h3)
 ·intro k1 k2 z z' b h1 h2 hb1 hb2
  have key:∀k' z,k'≠k->lk H' k'=some z->m k=some b->m' k'=some b->False:=by
   intro k' z hne hz hb hb';rcases hn k' z b hz hb' with h4 |h4
   ·exact hnot b hb h4
   ·have:=(hheap.sep k _ b hkk hb).2;omega
  rcases hsub' k1 z h1 with⟨rfl,rfl⟩ |⟨h3,h4⟩ <;> rcases hsub' k2 z' h2 with⟨h5,rfl⟩ |⟨h5,h6⟩
  ·exact h5.symm
  ·rw[Yl rfl]at hb1;rw[Yk h5]at hb2
   exact(key k2 z' h5 h6 hb1 hb2).elim
  ·rw[Yk h3]at hb1;rw[Yl h5]at hb2
   exact(key k1 z h3 h4 hb2 hb1).elim
  ·rw[Yk h3]at hb1;rw[Yk h5]at hb2
   exact hh.inj k1 k2 z z' b h4 h6 hb1 hb2
 ·intro k' z b hz hb;rcases hsub' k' z hz with⟨rfl,rfl⟩ |⟨h2,h3⟩
  ·rw[Yl rfl]at hb;have:=hheap.sep k' _ b hkk hb;exact⟨this.1,XS this.2 hf.size⟩
  ·rw[Yk h2]at hb;exact hh.sep k' z b h3 hb
 ·intro k' x y hx hy;rcases hsub' k' y hy with⟨rfl,rfl⟩ |⟨h2,h3⟩
  ·exact Yl rfl
  ·have hx' : lk H k' = some x := by rw [aT, Yk h2] at hx; exact hx
   exact(Yk h2).trans (hkeep k' x y hx' h3)
theorem NA{k sz off len:Nat}{es:List AV}(h:off+len<=es.length):AV.fz k sz es (.ms k sz off len)=.lst sz ((es.drop off).take len):=by
 have e1:Nat.ble (off+len) es.length=true:=Nat.ble_eq_true_of_le h;have e2:∀n,Nat.beq n n=true:=fun n=>Nat.beq_refl n
 simp only[AV.fz,e1,e2,Bool.and_self]
theorem Con.borrow{P:Program}{f:FuncId}{args args':List AV}{H H':Hp}{r:AV}(k sz:Nat)(es:List AV)(hk:lk H k=none)(hk':lk H' k=none)(hl:args'.length=args.length)
  (hargs:∀(j:Nat)(x':AV),args'[j]?=some x'->args[j]?=some x'\/(∃off len,x'=.ms k sz off len/\off+len<=es.length/\args[j]?=some (.lst sz ((es.drop off).take len))))
  (hr:r.sc=true) (hH':∀k' x,lk H' k'=some x->x.sc=true) (h:Con P f args H r H') :
  Con P f args' ((k,some (.row sz es))::H) r ((k,some (.row sz es))::H') :=
 Con.borrowF k sz es hk hk' hl (fun j x' hj=>by
  rcases hargs j x' hj with h |⟨off,len,rfl,h1,h2⟩
  ·exact .inl h
  ·exact .inr (by rw[NA h1];exact h2)) hr hH' h
theorem Con.freeze{P:Program}{f:FuncId}{args:List AV}{k sz off len:Nat}{es:List AV}(hl:off+len<=es.length)
  (h:Con P f args [] (.ms k sz off len) [(k,some (.row sz es))]):gO P f args (.lst sz ((es.drop off).take len)):=by
 refine⟨h.ok,?_⟩;intro ext m w vs hext hheap hvs hrep;refine Calls.mono (h.ret ext m w vs hext hheap hvs hrep) ?_;rintro e w' ⟨v,m',rfl,hf,hh,hn,hkeep,hrr⟩;have hkk:lk [(k,some (Blk.row sz es))] k=some (.row sz es):=by rw[aT,Yl rfl]
 have hblk:=hh.blk k _ hkk;have him:∀b cs,Im ext [(k,some (.row sz es))] m' w' b cs->Im ext [] m' w' b cs:=fun b cs ⟨h1,h2,h3⟩=>⟨h1,(fun⟨_,_,h',_⟩=>by cases h'),h3⟩
 refine⟨v,m',rfl,hf,⟨(fun k z h=>by cases h),(fun k k' z z' b h=>by cases h),(fun k z b h=>by cases h)⟩,(fun k x b h=>by cases h),(fun k x y h=>by cases h),?_⟩
 have h6:=uy (g:=Im ext [] m' w') (k:=k) (sz:=sz) (es:=es) (hrr.mono him (fun _ _ h=>h) (fun _ _ _ h=>h)) (by
  intro b hb;rw[hb]at hblk;cases hblk with
  | @row _ _ _ c t hw hn hl hs h1 hr =>
   exact⟨c,⟨(hh.sep k _ b hkk hb).1,(fun⟨_,_,h',_⟩=>by cases h'),t,_,hw⟩,hn,hl,hs,h1,fun i j e u x he hx hu=>(hr i j e u x he hx hu).mono him (fun _ _ h=>h) (fun _ _ _ h=>h)⟩)
 have h7:AV.fz k sz es (.ms k sz off len)=.lst sz ((es.drop off).take len):=by
  have e1:Nat.ble (off+len) es.length=true:=Nat.ble_eq_true_of_le hl;have e2:∀n,Nat.beq n n=true:=fun n=>Nat.beq_refl n
  simp only[AV.fz,e1,e2,Bool.and_self]
 rwa [h7]at h6
theorem Con.rekeyR{P:Program}{f:FuncId}{k sz off len off' len':Nat}{xs es es':List AV}(d:Nat)(hxs:(xs.all fun x=>x.nm.isEmpty)=true)
  (h:Con P f (.ms k sz off len::xs) [(k,some (.row sz es))] (.ms k sz off' len') [(k,some (.row sz es'))]) :
  Con P f (.ms d sz off len::xs) [(d,some (.row sz es))] (.ms d sz off' len') [(d,some (.row sz es'))]:=by
 refine⟨h.ok,?_⟩;intro ext m w vs hext hheap hvs hrep
 have h1 := h.ret ext (fun _ => m d) w vs hext (pf (k := d) rfl hheap) (by simpa using hvs) (by
  intro j v x hv hx;rw[jX (d:=k) (k:=d) (y:=.row sz es) (x:=.row sz es) (m2:=fun _=>m d) (m:=m) rfl]
  match j,hx with
  |0,hx =>
   cases hx;have h2:=hrep 0 v _ hv rfl;cases h2 with
   |ms0 a=>exact .ms0 a _ _ _
   |ms hm hc hS=>exact .ms hm hc hS
  |j+1,hx =>
   have h2:=hrep (j+1) v x hv hx;refine iN ?_ h2;have:=List.all_eq_true.1 hxs x (Xx hx);simpa using this)
 refine Calls.mono h1 ?_;rintro e w' ⟨v,m',rfl,hf,hh,hn,hk,hrr⟩
 have ho:a9 [(k,some (Blk.row sz es))] (fun _=>m d)=a9 [(d,some (Blk.row sz es))] m:=by
  funext b;apply propext;rw[jQ,jQ]
 refine⟨v,fun _=>m' k,rfl,ho▸hf,pf (k:=k) rfl hh,?_,?_,?_⟩
 ·intro k' x b hx hb;rw[<- ho];exact hn k _ b (by rw[aT,Yl rfl]) hb
 ·intro k' x y hx hy;obtain⟨rfl,_⟩:=fC hx;exact hk k _ _ (by rw[aT,Yl rfl]) (by rw[aT,Yl rfl])
 ·rw[jX (d:=d) (k:=k) (y:=.row sz es') (x:=.row sz es') (m2:=fun _=>m' k) (m:=m') rfl];cases hrr with
  |ms0 a=>exact .ms0 a _ _ _
  |ms hm hc hS=>exact .ms hm hc hS
end Go.Lw
namespace Go.Lw
variable{P:Program}{N:Nat}{R:Array Oper}{s:AS}{pos:String}{after:Array Edge}
theorem Step.weaken{o:Oper}{u u':Out}(h:Step P N R s o u)(hag:∀s',f9 s s' u'->f9 s s' u)(hno:∀s',f9 s s' u'->jH s' u)
  (hw:∀s',f9 s s' u'->Wk (s'.app o.dst u) (s'.app o.dst u')):Step P N R s o u':=by
 refine⟨fun s' hag' _ C m a w Q next hC hr hnext=>?_⟩
 exact h.run s' (hag s' hag') (hno s' hag') C m a w Q next hC hr (fun m' a' w' hr'=>by
  obtain⟨m'',hr''⟩:=hw s' hag' C m' a' w' hr';exact hnext m'' a' w' hr'')
theorem mF{d f k sz:Nat}{es:List AV}{args:Array Operand}{ts:Array TypeId}{xs:List AV}{r:AV}{t:TypeId}
  (hcon:Con P f xs [(k,some (.row sz es))] r [(k,some (.row sz es))]) (ha:EvL s args.toList xs) (hk:s.blk k=some (.row sz es)) (hok:iA s [(k,some (.row sz es))] [(k,some (.row sz es))] r=true) (hN:Nat.blt d N=true) :
  Step P N R s ⟨some d,.call ⟨.value (.func f),args,ts⟩,t,pos,after,none⟩ ⟨some r,[],eG args.toList,[k]⟩:=by
 refine Step.weaken (aH (d:=d) hcon ha (fun k' z h=>by
  obtain⟨rfl,h9⟩:=fC h;cases h9;exact hk) hok hN) (fun s' h=>h) (fun s' h k' hk'=>?_) (fun s' h=>?_)
 ·left;simp only[XQ,dp,Yi,map_nil,mem_append,X6,XV,or_false]at hk' ⊢;rcases hk' with h9 |h9 <;> exact h9
 ·intro C m a w hr;refine⟨m,hr.weak (fun t x hx=>⟨x,hx,.refl _⟩) (fun k' x hx=>⟨x,?_,.refl _⟩)⟩;have hb:lk s'.hp k=some (.row sz es):=(h.2 k (List.mem_singleton.2 rfl)).trans hk;show lk ([(k,some (.row sz es))]++dp [(k,some (.row sz es))]++s'.hp) k'=some x;have hx':lk s'.hp k'=some x:=hx;simp only[dp,Yi,map_nil,List.cons_append,nil_append,aT]
  by_cases e:k'=k
  ·rw[Yl e];rw[e,hb]at hx';exact hx'
  ·rw[Yk e,Yk e];exact hx'
theorem Con.rekey1{P:Program}{f:FuncId}{k sz off len:Nat}{xs es es':List AV}{y r:AV}(d:Nat)(hy:y.nm=[])(hxs:(xs.all fun x=>x.nm.isEmpty)=true)(hr:r.nm=[])
  (h:Con P f (y :: .ms k sz off len::xs) [(k,some (.row sz es))] r [(k,some (.row sz es'))]):Con P f (y :: .ms d sz off len::xs) [(d,some (.row sz es))] r [(d,some (.row sz es'))]:=by
 refine⟨h.ok,?_⟩;intro ext m w vs hext hheap hvs hrep
 have h1 := h.ret ext (fun _ => m d) w vs hext (pf (k := d) rfl hheap) (by simpa using hvs) (by
  intro j v x hv hx;rw[jX (d:=k) (k:=d) (y:=.row sz es) (x:=.row sz es) (m2:=fun _=>m d) (m:=m) rfl]
  match j,hx with
  |0,hx =>
   cases hx;exact iN hy (hrep 0 v _ hv rfl)
  |1,hx =>
   cases hx;have h2:=hrep 1 v _ hv rfl;cases h2 with
   |ms0 a=>exact .ms0 a _ _ _
   |ms hm hc hS=>exact .ms hm hc hS
  |j+2,hx =>
   have h2:=hrep (j+2) v x hv hx;refine iN ?_ h2;have:=List.all_eq_true.1 hxs x (Xx hx);simpa using this)
 refine Calls.mono h1 ?_;rintro e w' ⟨v,m',rfl,hf,hh,hn,hk,hrr⟩
 have ho:a9 [(k,some (Blk.row sz es))] (fun _=>m d)=a9 [(d,some (Blk.row sz es))] m:=by
  funext b;apply propext;rw[jQ,jQ]
 refine⟨v,fun _=>m' k,rfl,ho▸hf,pf (k:=k) rfl hh,?_,?_,?_⟩
 ·intro k' x b hx hb;rw[<- ho];exact hn k _ b (by rw[aT,Yl rfl]) hb
 ·intro k' x y hx hy;obtain⟨rfl,_⟩:=fC hx;exact hk k _ _ (by rw[aT,Yl rfl]) (by rw[aT,Yl rfl])
 ·rw[jX (d:=d) (k:=k) (y:=.row sz es') (x:=.row sz es') (m2:=fun _=>m' k) (m:=m') rfl];exact iN hr hrr
end Go.Lw
namespace Go.Lw
variable{P:Program}{N:Nat}{Q:Exit->AS->Prop}
inductive TyT where
  |lf
  |nd (l:TyT) (k:Nat) (t:TI) (r:TyT)
def TyT.get:TyT->Nat->Option TI
  | .lf,_=>none
  | .nd l k t r,n=>match Nat.beq n k with
    |true=>some t
    |false=>match Nat.blt n k with
      |true=>l.get n
      |false=>r.get n
inductive TyT.Ok(P:Program):TyT->Prop
  |lf:TyT.Ok P .lf
  |nd {l r:TyT} {k:Nat} {t:TI} (hl:TyT.Ok P l) (h:aC P k=some t) (hr:TyT.Ok P r):TyT.Ok P (.nd l k t r)
theorem TyT.Ok.get{T:TyT}(h:T.Ok P){n:Nat}{t:TI}(hg:T.get n=some t):aC P n=some t:=by
 induction h with
 |lf=>cases hg
 |nd _ h _ ihl ihr =>
  unfold TyT.get at hg;split at hg
  ·rename_i hb;rw[XG hb,h];exact hg
  ·split at hg
   ·exact ihl hg
   ·exact ihr hg
structure Tys(P:Program) where
  tab:TyT
  ok:tab.Ok P
  mix:P.follows .mixedOrders=true
def fR(P:Program)[Inhabited (Tys P)](n:Nat):Option TI:=(default:Tys P).tab.get n
theorem fP[Inhabited (Tys P)]{n:Nat}{t:TI}(h:fR P n=some t):aC P n=some t:=(default:Tys P).ok.get h
inductive AllP:List Prop->Prop
  |nil:AllP []
  |cons {p:Prop} {l:List Prop} (h:p) (hl:AllP l):AllP (p::l)
theorem AllP.app{a b:List Prop}(h:AllP (a++b)):AllP a/\AllP b:=by
 induction a with
 |nil=>exact⟨.nil,h⟩
 |cons p a ih =>
  cases h with |cons h hl=>exact⟨.cons h (ih hl).1,(ih hl).2⟩
def AV.optB:AV->Option (Bool×AV)
  | .opt b x=>some (b,x)
  |_=>none
theorem AV.optB_some{x y:AV}{b:Bool}(h:x.optB=some (b,y)):x=.opt b y:=by cases x <;> simp_all [AV.optB]
def dQ(g:Bool)(G:Prop)(s:AS):Operand->Option (AV×List Prop)
  | .tmp t=>match s.get t with
    |some x=>match g with
      |true=>match x.optB with
        |some (b,y)=>some (y,[G->b=true])
        |none=>some (x,[])
      |false=>some (x,[])
    |none=>none
  | .const c=>some (.v c,[])
  | .func f=>some (.v (.func (.func f) #[] #[]),[])
  | .global _=>none
theorem d5{g:Bool}{G:Prop}{s:AS}{o:Operand}{x:AV}{ob:List Prop}(h:dQ g G s o=some (x,ob))(ho:AllP ob)(hG:G):Ev s o x:=by
 cases o with
 |tmp t =>
  simp only[dQ]at h;split at h
  ·rename_i y hy;split at h
   ·split at h
    ·rename_i b z hz;cases h;cases ho with
     |cons h1 _=>exact .opt (by rw[hy,AV.optB_some hz]) (h1 hG)
    ·cases h;exact .tmp hy
   ·cases h;exact .tmp hy
  ·cases h
 |const c=>cases h;exact .const c
 |func f=>cases h;exact .func f
 |global n=>cases h
def mV:List AV->Option (List AV)
  |[]=>some []
  |x::l=>match mV l with
    |some r=>some (x::r)
    |none=>none
theorem qj:∀{l r:List AV},mV l=some r->r=l
 |[],r,h=>by cases h;rfl
 |x::l,r,h=>by
  unfold mV at h;split at h
  ·rename_i r' hr;cases h;rw[qj hr]
  ·cases h
def nv(g:Bool)(G:Prop)(s:AS):List Operand->Option (List AV×List Prop)
  |[]=>some ([],[])
  |o::os=>match dQ g G s o with
    |some (x,a)=>match nv g G s os with
      |some (xs,b)=>some (x::xs,a++b)
      |none=>none
    |none=>none
theorem p4{g:Bool}{G:Prop}{s:AS}(hG:G):∀{os:List Operand}{xs:List AV}{ob:List Prop},nv g G s os=some (xs,ob)->AllP ob->EvL s os xs
 |[],xs,ob,h,ho=>by cases h;exact .nil
 |o::os,xs,ob,h,ho=>by
  unfold nv at h;split at h
  ·rename_i x a h1;split at h
   ·rename_i ys b h2;cases h;exact .cons (d5 h1 ho.app.1 hG) (p4 hG h2 ho.app.2)
   ·cases h
  ·cases h
def uC(g:Bool)(G:Prop)(s:AS):List (Nat×Operand)->Option (List (Nat×AV)×List Prop)
  |[]=>some ([],[])
  |p::os=>match dQ g G s p.2 with
    |some (x,a)=>match uC g G s os with
      |some (xs,b)=>some ((p.1,x)::xs,a++b)
      |none=>none
    |none=>none
theorem If{g:Bool}{G:Prop}{s:AS}(hG:G):∀{os:List (Nat×Operand)}{xs:List (Nat×AV)}{ob:List Prop},uC g G s os=some (xs,ob)->AllP ob->EvP s os xs
 |[],xs,ob,h,ho=>by cases h;exact .nil
 |p::os,xs,ob,h,ho=>by
  unfold uC at h;split at h
  ·rename_i x a h1;split at h
   ·rename_i ys b h2;cases h;exact .cons (d5 h1 ho.app.1 hG) (If hG h2 ho.app.2)
   ·cases h
  ·cases h
structure R1 where
  x:AV
  rt:List Nat
  rd:List Nat
  ob:List Prop
def pR:IntKind->Nat
  | .i8=>0 | .i16=>1 | .i32=>2 | .i64=>3 | .u8=>4 | .u16=>5 | .u32=>6 | .u64=>7
theorem Gh{a b:IntKind}(h:Nat.beq (pR a) (pR b)=true):a=b:=by cases a <;> cases b <;> first |rfl |(exact absurd h (by decide))
def Ip:BinOp->Bool
  | .eql | .neq | .lss | .leq | .gtr | .geq=>true
  |_=>false
def td(ti:TI)(l:List AV):Option AV:=match ti.ag with
  |true=>match mV (l.take ti.size)with
    |some r=>some (.agg r)
    |none=>none
  |false=>match Nat.beq ti.size 1,l with
    |true,x::_=>some x
    |_,_=>none
theorem ym{ti:TI}{l:List AV}{x:AV}(h:td ti l=some x):(ti.ag||Nat.beq ti.size 1)=true/\x=kH ti.ag (l.take ti.size):=by
 unfold td at h;split at h
 ·rename_i ha;split at h
  ·rename_i r hr;cases h;rw[ha,qj hr];exact⟨rfl,rfl⟩
  ·cases h
 ·rename_i ha;split at h
  ·rename_i h1;cases h
   rw[ha,XG h1];exact⟨rfl,rfl⟩
  ·cases h
section
variable{s:AS}{R:Array Oper}{d:Nat}{t T:TypeId}{pos:String}{after:Array Edge}{r:R1}
def tu(ti:TI)(x:Operand)(f:Nat)(ob:List Prop)(y:AV):Option R1:=match ti.k with
  | .struct=>match ti.fs[f]? with
    |some (o,n)=>match Nat.blt 0 n with
      |true=>match y with
        | .ptr k off=>some ⟨.ptr k (off+o),au x,[],ob⟩
        | .eptr k sz i off=>some ⟨.eptr k sz i (off+o),au x,[],ob⟩
        | .iptr xs=>some ⟨.iptr (xs.drop o),au x,[],ob⟩
        |_=>none
      |false=>none
    |none=>none
  |_=>none
theorem OI{x:Operand}{y:AV}{f:Nat}{ti:TI}{ob:List Prop}(hx:Ev s x y)(hT:aC P T=some ti)(h:tu ti x f ob y=some r)(hN:Nat.blt d N=true) :
  Step P N R s ⟨some d,.fieldAddr T x f,t,pos,after,none⟩ ⟨some r.x,[],r.rt,r.rd⟩:=by
 unfold tu at h;split at h
 ·rename_i hk;split at h
  ·rename_i o n hf;split at h
   ·rename_i hn;split at h
    ·cases h;exact SX hx hT hk hf hn hN
    ·cases h;exact SE hx hT hk hf hn hN
    ·cases h;exact TZ hx hT hk hf hn hN
    ·cases h
   ·cases h
  ·cases h
 ·cases h
theorem OE{x:Operand}{y:AV}{f:Nat}{ti:TI}{ob:List Prop}(h:tu ti x f ob y=some r):r.ob=ob:=by
 unfold tu at h
 repeat' split at h
 all_goals first |(cases h;rfl) |cases h
end
variable[Inhabited (Tys P)]
def uc(P:Program)[Inhabited (Tys P)](s:AS)(ti:TI)(x:Operand)(ob:List Prop):AV->Option R1
  | .ptr k off=>match s.blk k with
    |some (.box cs)=>match Nat.ble (off+ti.size) cs.length with
      |true=>match td ti (cs.drop off)with
        |some v=>some ⟨v,au x,[k],ob⟩
        |none=>none
      |false=>none
    |_=>none
  | .iptr xs=>match Nat.blt 0 ti.size&&Nat.ble ti.size xs.length with
    |true=>match td ti xs with
      |some v=>some ⟨v,au x,[],ob⟩
      |none=>none
    |false=>none
  |_=>none
def ID:Value->Prop:=fun v=>v=.nilIface\/∃T u,v=.iface T u
def sG(P:Program)[Inhabited (Tys P)](op:BinOp)(S:TypeId)(x y:Operand)(ob:List Prop)(vx vy:Value):Option R1:=match vy with
  | .int k b=>match vx with
    | .int k' a=>match Ip op&&Nat.beq (pR k) (pR k')with
      |true=>some ⟨.v (.bool (aa op a b)),au x++au y,[],ob⟩
      |false=>none
    |_=>none
  | .string b=>match vx with
    | .string a=>match op with
      | .eql=>some ⟨.v (.bool (a.toList==b.toList)),au x++au y,[],ob⟩
      | .neq=>some ⟨.v (.bool !(a.toList==b.toList)),au x++au y,[],ob⟩
      |_=>none
    |_=>none
  | .bool b=>match vx with
    | .bool a=>match fR P S with
      |some ti=>match ti.k with
        | .bool=>match op with
          | .eql=>some ⟨.v (.bool (a==b)),au x++au y,[],ob⟩
          | .neq=>some ⟨.v (.bool (a != b)),au x++au y,[],ob⟩
          |_=>none
        |_=>none
      |none=>none
    |_=>none
  | .nilIface=>match y with
    | .const _=>match fR P S with
      |some ti=>match ti.k with
        | .iface _=>match op with
          | .eql=>some ⟨.v (.bool (ef vx)),au x++[],[],ID vx::ob⟩
          | .neq=>some ⟨.v (.bool !(ef vx)),au x++[],[],ID vx::ob⟩
          |_=>none
        |_=>none
      |none=>none
    |_=>none
  |_=>none
def rO(P:Program)[Inhabited (Tys P)](x:Operand)(T:TypeId)(ob:List Prop)(y:AV):Option R1:=match fR P T with
  |some ti=>match ti.k with
    | .slice _=>match y with
      | .ms _ _ _ len=>some ⟨.v (.int .i64 len),au x,[],ob⟩
      | .v (.slice _ n _)=>some ⟨.v (.int .i64 n),au x,[],ob⟩
      |_=>none
    | .string=>match y with
      | .v (.string b)=>some ⟨.v (.int .i64 b.size),au x,[],ob⟩
      |_=>none
    |_=>none
  |none=>none
def Ck:TK->Bool
  | .int _ | .struct | .pointer _ | .string=>true
  |_=>false
def vE:Nat->List (Nat×Operand)->Bool
  |_,[]=>true
  |n,p::l=>Nat.beq p.1 n&&vE (n+1) l
theorem FB:∀{l:List (Nat×Operand)}{n:Nat},vE n l=true->l=mt n (l.map (·.2))
 |[],n,_=>rfl
 |(i,o)::l,n,h=>by
  simp only[vE,XF]at h;have h1:=XG h.1;subst h1;simp only[Yi,mt];rw[<- FB h.2]
def yi{α:Type}:List α->Bool
  |[]=>true
  |_=>false
theorem PV{α:Type}{l:List α}(h:yi l=true):l=[]:=by cases l <;> simp_all [yi]
def pG(g:Bool)(G:Prop)(b w:Bool):Prop:=match g with
  |true=>G/\b=w
  |false=>b=w
theorem DG{g:Bool}{G:Prop}{b w:Bool}(hG:G)(h:b=w):pG g G b w:=by cases g <;> first |exact h |exact⟨hG,h⟩
def u9(P:Program)[Inhabited (Tys P)](g:Bool)(G:Prop)(s:AS):Op->Option R1
  | .move x=>match dQ g G s x with
    |some (v,ob)=>some ⟨v,au x,[],ob⟩
    |none=>none
  | .assign x=>match dQ g G s x with
    |some (v,ob)=>some ⟨v,au x,[],ob⟩
    |none=>none
  | .load T x=>match dQ g G s x with
    |some (v,ob)=>match fR P T with
      |some ti=>uc P s ti x ob v
      |none=>none
    |none=>none
  | .fieldAddr T x f=>match dQ g G s x with
    |some (v,ob)=>match fR P T with
      |some ti=>tu ti x f ob v
      |none=>none
    |none=>none
  | .extract x i=>match dQ g G s x with
    |some (.tup xs,ob)=>match xs[i]? with
      |some y=>some ⟨y,au x,[],ob⟩
      |none=>none
    |_=>none
  | .unOp .not _ x=>match dQ g G s x with
    |some (.v (.bool b),ob)=>some ⟨.v (.bool !b),au x,[],ob⟩
    |_=>none
  | .binOp op S x y _=>match dQ g G s y with
    |some (.v vy,ob)=>match dQ g G s x with
      |some (.v vx,ob')=>sG P op S x y (ob'++ob) vx vy
      |_=>none
    |_=>none
  | .makeInterface T x=>match dQ g G s x with
    |some (.v v,ob)=>match fR P T with
      |some ti=>match Ck ti.k with
        |true=>some ⟨.v (.iface T v),au x,[],ob⟩
        |false=>none
      |none=>none
    |_=>none
  | .nilCheck x=>match dQ g G s x with
    |some (.ptr k off,ob)=>some ⟨.ptr k off,au x,[],ob⟩
    |some (.iptr xs,ob)=>some ⟨.iptr xs,au x,[],ob⟩
    |_=>none
  | .makeFunc (.func f) first caps=>match first.toList with
    |[]=>match nv g G s caps.toList with
      |some (xs,ob)=>some ⟨.fn f xs,eG caps.toList,[],ob⟩
      |none=>none
    |_=>match caps.toList with
      |[]=>match nv g G s first.toList with
        |some (xs,ob)=>match xs.all fun x=>x.nm.isEmpty with
          |true=>some ⟨.cl f xs [],eG first.toList,[],ob⟩
          |false=>none
        |none=>none
      |_=>none
  | .build T parts=>match fR P T with
    |some ti=>match ti.k with
      | .struct=>match ti.zero.all Value.oneCell'&&ti.fs.all fun p=>Nat.blt 0 p.2 with
        |true=>match uC g G s parts.toList with
          |some (xs,ob)=>match tP (fun i=>ti.fs[i]?) (ti.zero.map .v) xs with
            |some l=>match mV l with
              |some l=>some ⟨.agg l,qS parts.toList,[],ob⟩
              |none=>none
            |none=>none
          |none=>none
        |false=>none
      |_=>none
    |none=>none
  | .buildSlice T n parts=>match n with
    |0=>none
    |n+1=>match fR P T with
      |some ti=>match ti.k with
        | .slice E=>match fR P E with
          |some te=>match nv g G s (parts.toList.map (·.2))with
            |some (es,ob)=>match vE 0 parts.toList&&te.zero.all Value.oneCell'&&Nat.beq te.zero.length te.size&&(es.all fun e=>Nat.beq e.cells.length te.size&&e.ok) &&
                yi (AV.nms es)&&Nat.beq (n+1) es.length&&Nat.ble ((n+1)*te.size) 16777216&&Nat.ble (n+1) 16777216 with
              |true=>some ⟨.lst te.size es,eG (parts.toList.map (·.2)),[],ob⟩
              |false=>none
            |none=>none
          |none=>none
        |_=>none
      |none=>none
  | .pick c x y=>match dQ g G s c with
    |some (.v (.bool b),ob)=>match dQ true (pG g G b true) s x with
      |some (.v (.bool bx),ob')=>match dQ true (pG g G b false) s y with
        |some (.v (.bool bz),ob'')=>some ⟨.v (.bool (cond b bx bz)),au c++(au x++au y),[],ob++(ob'++ob'')⟩
        |_=>none
      |_=>none
    |_=>none
  | .call ⟨.builtin .len,args,ts⟩=>match args.toList with
    |[x]=>match ts.toList with
      |[T]=>match dQ g G s x with
        |some (y,ob)=>rO P x T ob y
        |none=>none
      |_=>none
    |_=>none
  |_=>none
section
variable{g:Bool}{G:Prop}{s:AS}{R:Array Oper}{d:Nat}{t T:TypeId}{pos:String}{after:Array Edge}{r:R1}
theorem VL{x:Operand}{y:AV}{ti:TI}{ob:List Prop}(hx:Ev s x y)(hT:aC P T=some ti)(h:uc P s ti x ob y=some r)(hN:Nat.blt d N=true) :
  Step P N R s ⟨some d,.load T x,t,pos,after,none⟩ ⟨some r.x,[],r.rt,r.rd⟩:=by
 unfold uc at h;split at h
 ·split at h
  ·split at h
   ·split at h
    ·cases h;rename_i hk _ h1 _ v hv;obtain⟨h2,rfl⟩:=ym hv;exact SG hx hk hT h1 h2 hN
    ·cases h
   ·cases h
  ·cases h
 ·split at h
  ·split at h
   ·cases h;rename_i h1 _ v hv;obtain⟨h2,rfl⟩:=ym hv;exact Og hx hT h1 h2 hN
   ·cases h
  ·cases h
 ·cases h
theorem Mx{op:BinOp}{x y:Operand}{vx vy:Value}{S:TypeId}{ob:List Prop}(hx:Ev s x (.v vx))(hy:Ev s y (.v vy))(h:sG P op S x y ob vx vy=some r)(ho:AllP r.ob)
  (hN:Nat.blt d N=true):Step P N R s ⟨some d,.binOp op S x y T,t,pos,after,none⟩ ⟨some r.x,[],r.rt,r.rd⟩:=by
 unfold sG at h;split at h
 ·split at h
  ·split at h
   ·rename_i hc;cases h
    simp only[XF]at hc;cases Gh hc.2;exact Qc hx hy (by have:=hc.1;cases op <;> simp_all [Ip]) hN
   ·cases h
  ·cases h
 ·split at h
  ·split at h
   ·cases h;exact Qx hx hy hN
   ·cases h;exact Qh hx hy hN
   ·cases h
  ·cases h
 ·split at h
  ·split at h
   ·rename_i ti hti;split at h
    ·rename_i hk;split at h
     ·cases h;exact RU hx hy (fP hti) hk hN
     ·cases h;exact RE hx hy (fP hti) hk hN
     ·cases h
    ·cases h
   ·cases h
  ·cases h
 ·split at h
  ·rename_i c;have hc:c = .nilIface:=by cases hy; rfl
   subst hc;split at h
   ·rename_i ti hti;split at h
    ·rename_i hk;split at h
     ·cases h;cases ho with |cons h1 _=>exact MW hx h1 (fP hti) hk hN
     ·cases h;cases ho with |cons h1 _=>exact OG hx h1 (fP hti) hk hN
     ·cases h
    ·cases h
   ·cases h
  ·cases h
 ·cases h
theorem Re{op:BinOp}{x y:Operand}{vx vy:Value}{S:TypeId}{ob:List Prop}(h:sG P op S x y ob vx vy=some r)(ho:AllP r.ob):AllP ob:=by
 unfold sG at h
 repeat' split at h
 all_goals first |(cases h;exact ho) |(cases h;cases ho;assumption) |cases h
theorem KO{x:Operand}{y:AV}{ob:List Prop}(hx:Ev s x y)(h:rO P x T ob y=some r)(hN:Nat.blt d N=true) :
  Step P N R s ⟨some d,.call ⟨.builtin .len,#[x],#[T]⟩,t,pos,after,none⟩ ⟨some r.x,[],r.rt,r.rd⟩:=by
 unfold rO at h;split at h
 ·rename_i ti hti;have hti:=fP hti;split at h
  ·rename_i hk;split at h
   ·cases h;exact Kk hx hti hk hN
   ·cases h;exact Qt hx hti hk hN
   ·cases h
  ·rename_i hk;split at h
   ·cases h;exact WN hx hti hk hN
   ·cases h
  ·cases h
 ·cases h
theorem Pp{x:Operand}{y:AV}{ti:TI}{ob:List Prop}(h:uc P s ti x ob y=some r):r.ob=ob:=by
 unfold uc at h
 repeat' split at h
 all_goals first |(cases h;rfl) |cases h
theorem UK{x:Operand}{y:AV}{ob:List Prop}(h:rO P x T ob y=some r):r.ob=ob:=by
 unfold rO at h
 repeat' split at h
 all_goals first |(cases h;rfl) |cases h
theorem B4{op:Op}(h:u9 P g G s op=some r)(ho:AllP r.ob)(hG:G)(hN:Nat.blt d N=true):Step P N R s ⟨some d,op,t,pos,after,none⟩ ⟨some r.x,[],r.rt,r.rd⟩:=by
 unfold u9 at h;split at h
 ·split at h
  ·rename_i h1;cases h;exact MK (d5 h1 ho hG) hN
  ·cases h
 ·split at h
  ·rename_i h1;cases h;exact Uh (d5 h1 ho hG) hN
  ·cases h
 ·split at h
  ·rename_i h1;split at h
   ·rename_i ti hti;rw[Pp h]at ho;exact VL (d5 h1 ho hG) (fP hti) h hN
   ·cases h
  ·cases h
 ·split at h
  ·rename_i h1;split at h
   ·rename_i ti hti;rw[OE h]at ho;exact OI (d5 h1 ho hG) (fP hti) h hN
   ·cases h
  ·cases h
 ·split at h
  ·rename_i h1;split at h
   ·rename_i hy;cases h;exact PB (d5 h1 ho hG) hy hN
   ·cases h
  ·cases h
 ·split at h
  ·rename_i h1;cases h;exact Lj (d5 h1 ho hG) hN
  ·cases h
 ·split at h
  ·rename_i h1;split at h
   ·rename_i h2;have:=(Re h ho).app;exact Mx (d5 h2 this.1 hG) (d5 h1 this.2 hG) h ho hN
   ·cases h
  ·cases h
 ·split at h
  ·rename_i h1;split at h
   ·rename_i ti hti;split at h
    ·rename_i hk;cases h
     exact Ob (d5 h1 ho hG) hN (fP hti) (by
      generalize ti.k=k at hk;cases k <;> simp_all [Ck])
    ·cases h
   ·cases h
  ·cases h
 ·split at h
  ·rename_i h1;cases h;exact Ls (d5 h1 ho hG) hN
  ·rename_i h1;cases h;exact U5 (d5 h1 ho hG) hN
  ·cases h
 ·rename_i f first caps
  split at h
  ·rename_i hf;have:first = #[]:=by apply Array.toList_inj.1; simpa using hf
   subst this;split at h
   ·rename_i h1;cases h;exact QK (p4 hG h1 ho) hN
   ·cases h
  ·split at h
   ·rename_i hf;have:caps = #[]:=by apply Array.toList_inj.1; simpa using hf
    subst this;split at h
    ·rename_i h1;split at h
     ·rename_i h2;cases h;exact Ps (p4 hG h1 ho) h2 hN
     ·cases h
    ·cases h
   ·cases h
 ·split at h
  ·rename_i ti hti;split at h
   ·rename_i hk;split at h
    ·rename_i hz;simp only[XF]at hz;split at h
     ·rename_i h1;split at h
      ·rename_i hl;split at h
       ·rename_i hr;cases h;exact NY (If hG h1 ho) (fP hti) hk hz.1 hz.2 (by rw[hl,qj hr]) hN
       ·cases h
      ·cases h
     ·cases h
    ·cases h
   ·cases h
  ·cases h
 ·rename_i T n parts;split at h
  ·cases h
  ·rename_i n;split at h
   ·rename_i ti hti;split at h
    ·rename_i E hk;split at h
     ·rename_i te hte;split at h
      ·rename_i es ob h1;split at h
       ·rename_i hc;cases h;simp only[XF]at hc;obtain⟨⟨⟨⟨⟨⟨⟨c1,c2⟩,c3⟩,c4⟩,c5⟩,c6⟩,c7⟩,c8⟩:=hc;exact VV (by rw[<- FB c1]) (p4 hG h1 ho) (fP hti) hk (fP hte) c2 c3 (by simpa only[XF]using c4) (PV c5) (XG c6) c7 c8 hN
       ·cases h
      ·cases h
     ·cases h
    ·cases h
   ·cases h
 ·split at h
  ·rename_i h1;split at h
   ·rename_i h2;split at h
    ·rename_i h3;cases h;have hp:=ho.app;have hq:=hp.2.app;exact RS (d5 h1 hp.1 hG) (fun hb=>d5 h2 hq.1 (DG hG hb)) (fun hb=>d5 h3 hq.2 (DG hG hb)) hN
    ·cases h
   ·cases h
  ·cases h
 ·rename_i args ts;split at h
  ·rename_i x hx;split at h
   ·rename_i T hT;have e1:args = #[x]:=by apply Array.toList_inj.1; simpa using hx
    have e2:ts=#[T]:=by apply Array.toList_inj.1;simpa using hT
    subst e1;subst e2
    split at h
    ·rename_i h1;rw[UK h]at ho;exact KO (d5 h1 ho hG) h hN
    ·cases h
   ·cases h
  ·cases h
 ·cases h
end
end Go.Lw
namespace Go.Lw
variable{P:Program}{N:Nat}{R:Array Oper}{s:AS}{pos:String}{after:Array Edge}{Q:Exit->AS->Prop}
theorem Vj{ρ:Operand->Value}{o:Oper}{g:Operand}{l:Nat}{args:Array Operand}{ts:Array TypeId}(ho:o.op=.call ⟨.value g,args,ts⟩)
  (hρ:ρ g=.func (.yield l) #[] #[]):(execOp ρ o).run P=(Instr.yield l (args.map ρ)).run P:=by
 obtain⟨dst,op,type,pos,after,guard⟩:=o;subst ho;funext w;simp[execOp,resolve,hρ,Deferred.ofValue,invoke]
def rq(P:Program)(vs:Array Value)(w:World)(R:Ending->World->Prop):Prop :=
  ∃l f ts x y,vs[0]?=some (.func (.yield l) #[] #[])/\(Instr.yield l (vs.toList.drop 1).toArray).run P w=.ok (.round l f ts x y) w/\∀ro n,RoundIn (Fw ro) n P l f ts x y w R
theorem rq.mono{vs:Array Value}{w:World}{R R':Ending->World->Prop}(h:rq P vs w R)(hr:∀e w',R e w'->R' e w'):rq P vs w R':=by
 obtain⟨l,f,ts,x,y,h1,h2,h3⟩:=h;exact⟨l,f,ts,x,y,h1,h2,fun ro n=>(h3 ro n).mono hr⟩
def uH(P:Program)(k:Nat)(xs:List AV)(H:Hp)(r:AV)(H':Hp):Prop:=y9 (rq P) (.yl k::xs) H r H'
theorem RC{d:Nat}{g:Operand}{k:Nat}{args:Array Operand}{ts:Array TypeId}{xs:List AV}{H H':Hp}{r:AV}{t:TypeId}
  (hg:Ev s g (.yl k)) (hcon:uH P k xs H r H') (ha:EvL s args.toList xs) (hH:∀k z,lk H k=some z->s.blk k=some z) (hok:iA s H H' r=true) (hN:Nat.blt d N=true) :
  Step P N R s ⟨some d,.call ⟨.value g,args,ts⟩,t,pos,after,none⟩ ⟨some r,H'++dp H,au g++eG args.toList,H.map (·.1)⟩:=by
 refine⟨fun s' hag hnew C m a w Q next hC hr hnext=>?_⟩;rw[Yl (lZ rfl _)];intro ro n;have hag':f9 s s' ⟨none,[],au g++eG args.toList,[]⟩:=⟨hag.1,fun k hk=>by cases hk⟩
 have ha':=ha.agree hag' (fun _ h=>List.mem_append.2 (.inr h));have hgr:=(hg.agree hag' (fun _ h=>List.mem_append.2 (.inl h))).rep hr
 have hev:∃l,a.eval g=.func (.yield l) #[] #[]:=by
  generalize a.eval g=u at hgr;cases hgr;exact⟨_,rfl⟩
 obtain⟨l,hev⟩:=hev;rw[Vj rfl hev];simp only[iA,XF,X9]at hok;obtain⟨hok1,hok2⟩:=hok
 have hc := hr.called (run := rq P) (fun _ _ _ _ h h' => rq.mono h h') hcon (vs := #[Value.func (.yield l) #[] #[]] ++ args.map a.eval) (by have := ha'.length; simp at this ⊢; omega) (by
   intro j v x hv hx;cases j with
   |zero =>
    cases hx;rw[Array.getElem?_append,Yl (by show 0<1;omega)]at hv;cases hv;rw[<- hev];exact hgr
   |succ j =>
    refine ha'.rep hr j v x ?_ (by simpa using hx);rw[Array.getElem?_append,Yk (by show ¬j+1<1;omega)]at hv;have h9:(Array.map a.eval args)[j]?=some v:=hv;simpa using h9)
  (fun k z hz=>by rw[<- hH k z hz];exact hag.2 k (mX hz)) (by
  intro k z hz;rcases hnew k (by simp only[XQ,mem_append];exact .inl (mX hz))with h |h
  ·obtain⟨p,hp,rfl⟩:=List.mem_map.1 h;exact .inl (gU.1 (hok1 p hp))
  ·exact .inr h) (by
  intro k hk;obtain⟨p,hp,rfl⟩:=List.mem_map.1 hk;exact hok1 p hp) hok2
 obtain⟨l',f,ts',x,y,h1,h2,h3⟩:=hc
 have hl:l'=l:=by
  rw[Array.getElem?_append,Yl (by show 0<1;omega)]at h1;cases h1;rfl
 subst hl;have e1:((#[Value.func (.yield l') #[] #[]]++args.map a.eval).toList.drop 1).toArray=args.map a.eval:=by simp;rw[<- Array.toList_map,Array.toArray_toList]
 rw[e1]at h2;rw[h2];refine⟨(fun h=>by cases h),(h3 ro (n-1)).mono ?_⟩;rintro e w' ⟨v,m'',rfl,hr',hrr,_⟩;rw[Nat.blt_eq]at hN;have:=hr'.put d v (some r) (fun z hz=>by cases hz;exact⟨by have:=hr'.nt;omega,hrr⟩);exact hnext m'' _ _ (by simpa[AS.app,Act.put]using this)
theorem P6{d j g:Nat}{op:Op}{t:TypeId}{want b:Bool}{x:AV}{upd:Hp}{rt rd:List Nat}
  (hj:(R[j]?).bind (·.dst)=some g) (hb:s.get g=some (.v (.bool b))) (hN:Nat.blt d N=true)
  (hno:b≠want->∀k∈upd.map (·.1),k∈rd/\lk upd k=s.blk k)
  (h:b=want->Step P N R s ⟨some d,op,t,pos,after,none⟩ ⟨some x,upd,rt,rd⟩) :
  Step P N R s ⟨some d,op,t,pos,after,some (j,want)⟩ ⟨some (.opt (b==want) x),upd,g::rt,rd⟩:=by
 refine⟨fun s' hag hnew C m a w Q next hC hr hnext=>?_⟩;have hg:=hr.slots g _ ((hag.1 g (by simp)).trans hb)
 have hgv:a.tmps[g]?=some (.bool b):=by
  obtain⟨h1,h2⟩:=hg;generalize hu:a.tmps.getD g undef=u at h2;cases h2;simp only[XI]at hu;rw[Array.getElem?_eq_getElem h1]at hu ⊢;simpa using hu
 have hy:yielded R a.tmps j=some b:=by simp[yielded,hj,hgv]
 have hd:d<a.tmps.size:=by rw[Nat.blt_eq]at hN;have:=hr.nt;omega
 by_cases hbw:b=want
 ·subst hbw;have hwt:Region.wanted ⟨some d,op,t,pos,after,some (j,b)⟩ (yielded R a.tmps) = true:=by simp [Region.wanted,hy]
  rw[Yl hwt];have:=(h rfl).run s' ⟨fun t ht=>hag.1 t (by simp[show t∈rt from ht]),hag.2⟩ hnew C m a w Q next hC hr (fun m' a' w' h'=>hnext m' a' w' ?_)
  ·rw[Yl (lZ rfl _)]at this;exact this
  ·refine⟨fun t y hy=>?_,h'.heap,h'.frame,h'.new,h'.keep,h'.defers,h'.nt⟩;simp only[ir]at hy;split at hy
   ·rename_i hdt;cases hy;have:=h'.slots t x (by simp only[ir,Yl hdt]);exact⟨this.1,.opt (fun _=>this.2) (fun h=>by simp at h)⟩
   ·rename_i hdt;exact h'.slots t y (by simp only[ir,Yk hdt];exact hy)
 ·have hwt : ¬ Region.wanted ⟨some d, op, t, pos, after, some (j, want)⟩ (yielded R a.tmps) = true := by simp [Region.wanted, hy, hbw]
  rw[Yk hwt];have:=hr.put d undef (some (.opt (b==want) x)) (fun y hy=>by cases hy;exact⟨hd,.opt (fun h=>absurd (beq_iff_eq.1 h) hbw) (fun _=>rfl)⟩);refine hnext m _ _ ?_;refine RelM.congr (s:=⟨(d,some (.opt (b==want) x))::s'.sl,s'.hp⟩) (fun t=>rfl) (fun k=>?_) (by simpa[Act.put]using this);simp only[AS.app,AS.blk,nG];split
  ·rename_i hk;obtain⟨h1,h2⟩:=hno hbw k hk;rw[h2];exact hag.2 k h1
  ·rfl
theorem RelM.setLoop{C:Ctx}{m:Nat->Option Nat}{a:Act}{w:World}(h:RelM C s m a w){k l:Nat}{d:LpD}{st:LoopState}{pe:Option Code}{sl:bO}{r:Loop}
  (hk:lk s.hp k=some (.loop d st pe sl)) (hm:m k=some l) (hl:w.heap[l]?=some (.loop r)) (st':LoopState) (pe':Option Code) :
  RelM C ⟨s.sl,(k,some (.loop d st' pe' sl))::s.hp⟩ m a (w.putObj l (.loop { r with state:=st',pending:=pe' })):=by
 have hlt:=(h.heap.sep k _ l hk hm).2;have hget:∀b',b'≠l->(w.putObj l (.loop { r with state:=st',pending:=pe' })).heap[b']?=w.heap[b']? := fun b' hb=>World.putObj_heap_other hb
 have hlk:∀k' y,lk ((k,some (Blk.loop d st' pe' sl))::s.hp) k'=some y->∃z,lk s.hp k'=some z:=by
  intro k' y hy;rw[aT]at hy;split at hy
  ·subst_vars;exact⟨_,hk⟩
  ·exact⟨y,hy⟩
 have hf:Frame (a9 s.hp m) w (w.putObj l (.loop { r with state:=st',pending:=pe' })):=by
  refine⟨rfl,rfl,rfl,by simp,?_,?_⟩
  ·rintro b' n ⟨c1,t1,f1,h1,h2⟩;refine⟨c1,t1,f1,?_,h2⟩;rw[hget,h1];rintro rfl;rw[hl]at h1;cases h1
  ·intro b' hb' hn;refine hget b' ?_;rintro rfl;exact hn ⟨k,_,hk,hm⟩
 have hal:∀k' y b',lk ((k,some (Blk.loop d st' pe' sl))::s.hp) k'=some y->m k'=some b'->a9 s.hp m b'\/w.heap.size<=b':=by
  intro k' y b' hy hb';obtain⟨z,hz⟩:=hlk k' y hy;exact .inl ⟨k',z,hz,hb'⟩
 refine h.update hf (fun t y k' b' _ _ hb'=>hb') hal (fun k' y _ hy=>⟨hlk k' y hy,rfl⟩) ⟨?_,?_,?_⟩
 ·intro k' y hy
  by_cases e:k'=k
  ·subst e;rw[aT,Yl rfl]at hy;cases hy;have hb:=h.heap.blk k' _ hk;rw[hm]at hb ⊢;cases hb with
   |loop hw h1 h2 h3 h4 h5 hn hr =>
    rw[hl]at hw;cases hw
    exact .loop (World.putObj_heap_same hlt) rfl rfl h3 h4 h5 hn (fun t x hx=>⟨(hr t x hx).1,(hr t x hx).2.mono (eU hf hal) hf.sz (fun _ _ _ h=>h)⟩)
  ·rw[aT,Yk e]at hy;refine BlkRep.mono (eU hf hal) hf.sz (fun k'' b' _ hb'=>hb') rfl ?_ (h.heap.blk k' y hy);intro b' hb';refine hget b' ?_;rintro rfl;exact e (h.heap.inj k' k y _ b' hy hk hb' hm)
 ·intro k1 k2 y1 y2 b' h1 h2 hb1 hb2;obtain⟨z1,hz1⟩:=hlk k1 y1 h1;obtain⟨z2,hz2⟩:=hlk k2 y2 h2;exact h.heap.inj k1 k2 z1 z2 b' hz1 hz2 hb1 hb2
 ·intro k' y b' hy hb';obtain⟨z,hz⟩:=hlk k' y hy;have:=h.heap.sep k' z b' hz hb';exact⟨this.1,XS this.2 hf.size⟩
def rQ:List Tmp->List AV->bO->bO
  |p::ps,x::xs,sl=>rQ ps xs ((p,some x)::sl)
  |_,_,sl=>sl
theorem RelM.params{C:Ctx}{m:Nat->Option Nat}{w:World}{hp:Hp}:∀(ps:List Tmp)(xs:List AV)(vs:List Value)(sl:bO)(a:Act),RelM C ⟨sl,hp⟩ m a w->vs.length=xs.length->(∀p∈ps,p<C.nt) ->
  (∀(j:Nat) v x,vs[j]?=some v->xs[j]?=some x->Rep (Im C.ext hp m w) (Sz w) m v x) ->
  RelM C ⟨rQ ps xs sl,hp⟩ m { a with tmps:=(ps.zip vs).foldl (fun t (p,v)=>t.setIfInBounds p v) a.tmps } w
 |[],_,_,sl,a,h,_,_,_=>by simpa[rQ]using h
 |p::ps,[],[],sl,a,h,_,_,_=>by simpa[rQ]using h
 |p::ps,x::xs,v::vs,sl,a,h,hl,hp,hr=>by
  have h1:=h.put p v (some x) (fun y hy=>by cases hy;exact⟨XS (hp p (by simp)) h.nt,hr 0 v x rfl rfl⟩);exact RelM.params ps xs vs _ _ h1 (by simpa using hl) (fun q hq=>hp q (by simp[hq])) (fun j v' x' hv hx=>hr (j+1) v' x' hv hx)
def MH(k:Nat)(d:LpD)(r:AV)(H':Hp):Exit->AS->Prop
  | .normal,s=>∃pe sl,lk s.hp k=some (.loop d .busy pe sl)/\az ⟨s.sl,(k,some (.loop d .ready none sl))::s.hp⟩ (.v (.bool true)) r H'
  | .ret,s=>∃pe sl,lk s.hp k=some (.loop d .busy pe sl)/\az ⟨s.sl,(k,some (.loop d .done (some .ret) sl))::s.hp⟩ (.v (.bool false)) r H'
  |_,_=>False
def W7(P:Program)(k:Nat)(d:LpD)(r:AV)(H':Hp)(e:Exit)(s:AS):Prop :=
  e=.normal/\∃pe sl,lk s.hp k=some (.loop d .ready pe sl)/\bQ P d.nt d.body (MH k d r H') ⟨s.sl,(k,some (.loop d .busy pe sl))::s.hp⟩
theorem RelM.loopAt{C:Ctx}{m:Nat->Option Nat}{a:Act}{w:World}(h:RelM C s m a w){k l:Nat}{d:LpD}{st:LoopState}{pe:Option Code}{sl:bO}
  (hk:lk s.hp k=some (.loop d st pe sl)) (hm:m k=some l):∃r:Loop,w.heap[l]?=some (.loop r)/\r.state=st/\r.pending=pe:=by
 have hb:=h.heap.blk k _ hk;rw[hm]at hb;cases hb with
 |loop hw h1 h2=>exact⟨_,hw,h1,h2⟩
theorem Ww{k:Nat}{d:LpD}{xs:List AV}{H:Hp}{r:AV}{H':Hp}{sl:bO}(hH:∀k z,lk H k=some z->1000<=k)(hk:lk H k=some (.loop d .ready none sl))
  (hl:xs.length=d.params.size) (hps:∀p∈d.params.toList,p<d.nt) (h:bQ P d.nt d.assign (W7 P k d r H') ⟨rQ d.params.toList xs sl,H⟩):uH P k xs H r H':=by
 intro ext m w vs hext hheap hvs hrep;have hs:vs.size=xs.length+1:=hvs;have h0:vs[0]?=some vs[0]:=Array.getElem?_eq_getElem oz;have hy:=hrep 0 _ _ h0 rfl;generalize vs[0]=v0 at h0 hy;cases hy with
 | @yl _ _ l hm =>
  have hb:=hheap.blk k _ hk;rw[hm]at hb;cases hb with
  | @loop _ r0 _ _ _ _ hw h1 h2 h3 h4 h5 hn hr =>
   have hk1000:=hH k _ hk
   let C:Ctx:=⟨w,ext,a9 H m,m,d.nt,hext,some l⟩
   have hr0:RelM C ⟨sl,H⟩ m { tmps:=r0.tmps,defers:=[] } w :=
    ⟨fun t x hx=>hr t x hx,hheap,Frame.refl _ _,fun k x b h1 h2=>.inl ⟨k,x,h1,h2⟩,fun _ _ _ _=>rfl,qf.nil _ _,hn⟩
   have hargs:((vs.toList.drop 1).toArray).size=r0.params.size:=by rw[h3];simp;omega
   have hr1:=hr0.params d.params.toList xs (vs.toList.drop 1) sl _ (by simp;omega) hps (fun j v x hv hx=>hrep (j+1) v x (by simpa[Nat.add_comm]using hv) (by simpa using hx))
   have e1:(r0.params.zip (vs.toList.drop 1).toArray).foldl (fun tmps (t,a)=>tmps.setIfInBounds t a) r0.tmps=(d.params.toList.zip (vs.toList.drop 1)).foldl (fun t (p,v)=>t.setIfInBounds p v) r0.tmps:=by
    rw[h3,<- Array.foldl_toList,Array.toList_zip]
   refine⟨l,r0.fn,_,r0.assign,r0.body,h0,run_yield hw hargs,fun ro n=>roundIn_of_wpIn (F:=Fw ro) trivial ?_⟩;rw[e1,h4,h5];refine wpIn_mono (h C m _ w n rfl hr1) ?_;rintro e a1 w1 ⟨s1,m1,⟨rfl,pe1,sl1,hk1,hbody⟩,hr1'⟩;have hm1:m1 k=some l:=(hr1'.keep k _ hk1000 hk1).trans hm;obtain⟨r1,hw1,hst1,hpe1⟩:=hr1'.loopAt hk1 hm1;have hr2:=hr1'.setLoop hk1 hm1 hw1 .busy pe1;refine⟨_,run_beginRound hw1 hst1,?_⟩;have e2:({ r1 with state:=.busy }:Loop)={ r1 with state:=.busy,pending:=pe1 }:=by rw[<- hpe1]
   rw[e2];refine wpIn_mono (hbody C m1 a1 _ n rfl hr2) ?_;rintro e a3 w3 ⟨s3,m3,hq,hr3⟩
   have fin:∀(jump:Option Code)(pe:Option Code)(sl3:bO),lk s3.hp k=some (.loop d .busy pe sl3) ->
     az ⟨s3.sl,(k,some (.loop d (if jump.isNone then .ready else .done) jump sl3))::s3.hp⟩ (.v (.bool jump.isNone)) r H' ->
     ∃v w',(Instr.endRound l jump).run P w3=.ok v w'/\∃v' m',Ending.returned v=.returned v'/\Frame (a9 H m) w w'/\HeapRel ext H' m' w' /\
      (∀k x b,lk H' k=some x->m' k=some b->a9 H m b\/w.heap.size<=b)/\(∀k x y,lk H k=some x->lk H' k=some y->m' k=m k)/\Rep (Im ext H' m' w') (Sz w') m' v' r:=by
    intro jump pe sl3 hk3 hfin;have hm3:m3 k=some l:=(hr3.keep k _ hk1000 hk3).trans hm;obtain⟨r3,hw3,hst3,hpe3⟩:=hr3.loopAt hk3 hm3;have hr4:=hr3.setLoop hk3 hm3 hw3 (if jump.isNone then .ready else .done) jump;obtain⟨m'',g3,g4,g5,g6⟩:=hfin ext m3 _ _ hr4.heap (fun b hb=>hr4.ext_lt hb) (.v (.bool jump.isNone));refine⟨_,_,run_endRound jump hw3,_,m'',rfl,hr4.frame,g3,?_,?_,g6⟩
    ·intro k' z b hk' hb';obtain⟨k2,z2,hk2,hb2⟩:=g4 k' z b hk' hb';exact hr4.new k2 z2 b hk2 hb2
    ·intro k' z y hk' hy';obtain⟨⟨y',hy2⟩,h8⟩:=g5 k' y (hH k' z hk') hy';rw[h8];exact hr4.keep k' y' (hH k' z hk') hy2
   cases e with
   |normal =>
    obtain⟨pe,sl3,hk3,hfin⟩:=hq;exact fin none pe sl3 hk3 hfin
   |ret =>
    obtain⟨pe,sl3,hk3,hfin⟩:=hq;exact fin (some .ret) pe sl3 hk3 hfin
   |_=>exact hq.elim
theorem BT{x y:Code}(h:bQ P N x (fun e s=>match e with | .normal=>j6 P N y Q s |e=>Q e s) s):j6 P N (.seq x y) Q s:=by
 intro C m a w n hro hN hr;refine wpIn_seq (wpIn_mono (h C m a w n hN hr) ?_);rintro e a' w' ⟨s',m',hq,hr'⟩;cases e with
 |normal=>exact hq C m' a' w' n hro hN hr'
 |_=>exact⟨s',m',hq,hr'⟩
theorem UO{x y:Code}(h:j6 P N x (fun e s=>match e with | .normal=>j6 P N y Q s |e=>Q e s) s):j6 P N (.seq x y) Q s:=by
 intro C m a w n hro hN hr;refine wpIn_seq (wpIn_mono (h C m a w n hro hN hr) ?_);rintro e a' w' ⟨s',m',hq,hr'⟩;cases e with
 |normal=>exact hq C m' a' w' n hro hN hr'
 |_=>exact⟨s',m',hq,hr'⟩
theorem Ul{id:Nat}{c:Code}(h:j6 P N c (xE id (Q .normal) Q) s):j6 P N (.block id c) Q s:=by
 intro C m a w n hro hN hr;refine wpIn_block (wpIn_mono (h C m a w n hro hN hr) ?_);rintro e a' w' ⟨s',m',hq,hr'⟩;cases e with
 |exit id' =>
  simp only[Exit.inBlock];simp only[xE]at hq;split at hq
  ·rename_i hb;rw[Yl (XG hb)];exact⟨s',m',hq,hr'⟩
  ·rename_i hb;rw[Yk (Nat.ne_of_beq_eq_false hb)];exact⟨s',m',hq,hr'⟩
 |_=>exact⟨s',m',hq,hr'⟩
theorem RelM.mark{C:Ctx}{m:Nat->Option Nat}{a:Act}{w:World}(hr:RelM C s m a w) :
  RelM C s m { a with defers:=qI w.heap.size::a.defers } { w with heap:=w.heap.push (.deferred (some [])) }:=by
 have hf:=Bm (a9 s.hp m) w (.deferred (some []));have hal:∀k' y b',lk s.hp k'=some y->m k'=some b'->a9 s.hp m b'\/w.heap.size<=b':=fun k' y b' h1 h2=>.inl ⟨k',y,h1,h2⟩
 have hr1:RelM C s m a { w with heap:=w.heap.push (.deferred (some [])) }:=by
  refine hr.update hf (fun t y k' b' _ _ hb'=>hb') hal (fun k' y _ hy=>⟨⟨y,hy⟩,rfl⟩) ⟨?_,hr.heap.inj,?_⟩
  ·intro k y hk;refine BlkRep.mono (eU hf hal) hf.sz (fun _ _ _ h=>h) rfl ?_ (hr.heap.blk k y hk);intro b hb;have:=(hr.heap.sep k y b hk hb).2;show(w.heap.push _)[b]?=_;rw[Array.getElem?_push,Yk oz]
  ·intro k y b hk hb;have:=hr.heap.sep k y b hk hb;refine⟨this.1,?_⟩;have:=this.2;simp;omega
 refine⟨hr1.slots,hr1.heap,hr1.frame,hr1.new,hr1.keep,?_,hr1.nt⟩;obtain⟨Ds,e,hn,hD⟩:=hr.defers;have hnew:(w.heap.push (.deferred (some [])))[w.heap.size]?=some (Obj.deferred (some [])):=by simp
 refine⟨w.heap.size::Ds,by simp[e],List.nodup_cons.2 ⟨fun hm=>?_,hn⟩,?_⟩
 ·have:=hr.heap.lt (hD _ hm).2;omega
 ·intro D hm;rcases List.mem_cons.1 hm with rfl |hm
  ·exact⟨hr.frame.size,hnew⟩
  ·obtain⟨h1,h2⟩:=hD D hm;refine⟨h1,?_⟩;have:=hr.heap.lt h2;show(w.heap.push _)[D]?=_;rw[Array.getElem?_push,Yk oz];exact h2
theorem GA{g:Operand}{ps:Array Tmp}{assign body:Code}{f:FuncId}{caps:List AV}{k:Nat}{H H':Hp}{r:AV}{st:LoopState}{pe:Option Code}{sl0 sl':bO}
  (hg:Ev s g (.fn f caps)) (hsl:∀t x,lk sl0 t=some x->s.get t=some x) (hnk:(yk sl0).contains k=false) (hfr:s.freshB k=true) (hcon:Con P f (.yl k::caps) H r H')
  (hH:∀k' z,lk H k'=some z->lk ((k,some (.loop ⟨ps,assign,body,N⟩ .ready none sl0))::s.hp) k'=some z) (hok:iA s H H' r=true)
  (hkH:gQ H k=true) (hnew:(H'.all fun p=>gQ H p.1)=true) (hend:lk H' k=some (.loop ⟨ps,assign,body,N⟩ st pe sl')) (hst:st≠.busy)
  (hpe:pe=none/\Q .normal ⟨s.sl,(k,none)::(H'++dp H++s.hp)⟩\/pe=some .ret/\Q .ret ⟨s.sl,(k,none)::(H'++dp H++s.hp)⟩) :
  j6 P N (.rangeFunc g ps assign body) Q s:=by
 intro C m a w n hro hN hr;rw[hro];simp only[iA,XF,X9]at hok hnew;obtain⟨hok1,hok2⟩:=hok;have hgr:=hg.rep hr;generalize hev:a.eval g=u at hgr;cases hgr with
 | @fn _ _ cvs _ hn' hrr =>
  refine wpIn_rangeFunc (F:=Fw none) fun fn _=>?_
  have hfresh:=AS.fresh_of hfr;have hr1:=hr.mark
  have hnm:¬(Blk.loop ⟨ps,assign,body,N⟩ .ready none sl0).Names k:=by
   rintro⟨t,x,hx,hn⟩;have h9:k∈yk sl0:=List.mem_flatMap.2 ⟨_,hx,hn.mem⟩;have h8:=List.elem_eq_true_of_mem h9;rw[List.contains]at hnk;rw[hnk]at h8;cases h8
  have hr2:=hr1.alloc (k:=k) hfresh (.loop { state:=.ready,pending:=none,fn,tmps:=a.tmps,params:=ps,assign,body,defers:=w.heap.size }) (.loop ⟨ps,assign,body,N⟩ .ready none sl0) hnm
   (fun g' S' m' w' h1 h2 h3 h4 => .loop h4 rfl rfl rfl rfl rfl (by have := hr.nt; rw [hN] at this; exact this) (fun t x hx => by
    obtain⟨g1,g2⟩:=hr1.slots t x (hsl t x hx);exact⟨g1,g2.mono h1 h2 (fun k' b hk hb=>h3 k' b (fun e=>hfresh.2.2.1 t x (hsl t x hx) (e▸hk)) hb)⟩))
  have hsz1:(w.heap.push (Obj.deferred (some []))).size=w.heap.size+1:=by simp
  have hsz:∀k',k'=k->(if k'=k then some (w.heap.push (Obj.deferred (some []))).size else m k')=some (w.heap.size+1):=fun k' e=>by rw[Yl e,hsz1]
  have hc := hr2.called (run := Calls P f) (fun _ _ _ _ h h' => Calls.mono h h') hcon.ret (vs := #[Value.func (.yield (w.heap.size + 1)) #[] #[]] ++ cvs) (by simp [hn']; omega) (by
    intro j v x hv hx;cases j with
    |zero =>
     cases hx;rw[Array.getElem?_append,Yl (by show 0<1;omega)]at hv;cases hv;exact .yl (hsz k rfl)
    |succ j =>
     rw[Array.getElem?_append,Yk (by show ¬j+1<1;omega)]at hv;have h9:cvs[j]?=some v:=hv;have hx':caps[j]?=some x:=hx;have hev':({ a with defers:=qI w.heap.size::a.defers }:Act).eval g=.func (.func f) #[] cvs:=by cases g <;> exact hev
     have hag2:f9 s ⟨s.sl,(k,some (.loop ⟨ps,assign,body,N⟩ .ready none sl0))::s.hp⟩ ⟨none,[],au g,[]⟩:=⟨fun _ _=>rfl,fun k hk=>by cases hk⟩
     have h8:=(hg.agree hag2 (fun _ h=>h)).rep hr2;rw[hev']at h8;cases h8 with
     |fn hn2 hrr2=>exact hrr2 j v x h9 hx')
   hH (by
    intro k' z hz;have:=hnew _ (mC hz);exact .inl (gU.1 this)) (by
    intro k' hk';obtain⟨p,hp,rfl⟩:=List.mem_map.1 hk';exact hok1 p hp) hok2
  let W2:=(w.alloc (.deferred (some []))).alloc (.loop { state:=.ready,pending:=none,fn,tmps:=a.tmps,params:=ps,assign,body,defers:=w.heap.size })
  refine⟨w.heap.size+1,[qI w.heap.size],W2,{ target:=.fn (.func f) cvs,args:=#[.func (.yield (w.heap.size+1)) #[] #[]] },W2,f,
   #[Value.func (.yield (w.heap.size+1)) #[] #[]]++cvs,W2,run_enterLoop_outer fn a.tmps ps assign body,?_,fun _ _=>trivial,?_,(fun h=>by cases h),(callsIn_wide (n:=n-1)).2 (Calls.mono hc ?_)⟩
  ·simp only[resolve,hev];simp[go_sem]
  ·simp[invoke,go_sem,hcon.ok _ _]
  ·rintro e w' ⟨v,m'',rfl,hr3,_,hkk⟩;obtain⟨y,hy⟩:=gU.1 hkH;have hm:m'' k=some (w.heap.size+1):=(hkk k y _ hy hend).trans (hsz k rfl)
   have hlk3:lk (H'++dp H++(k,some (Blk.loop ⟨ps,assign,body,N⟩ .ready none sl0))::s.hp) k=some (.loop ⟨ps,assign,body,N⟩ st pe sl'):=by
    rw[Ye,nG,Yl (mX hend)];exact hend
   obtain⟨r3,hw3,hst3,hpe3⟩:=hr3.loopAt hlk3 hm
   have hr4:=(hr3.setLoop hlk3 hm hw3 .exhausted pe).fewer (hp':=(k,none)::(H'++dp H++s.hp)) (by
    intro k' z hz;rw[aT]at hz;split at hz
    ·cases hz
    ·rename_i hne;rw[aT,Yk hne];rw[Ye,nG]at hz ⊢;split at hz
     ·rename_i h1;rw[Yl h1];exact hz
     ·rename_i h1;rw[Yk h1]
      rw[nG]at hz ⊢;split at hz
      ·rename_i h2;rw[Yl h2];exact hz
      ·rename_i h2;rw[Yk h2,aT,Yk hne];exact hz)
   have hrun:=run_endLoop (P:=P) hw3 (by rw[hst3];exact hst);rw[hpe3]at hrun;refine⟨pe,_,hrun,?_⟩;rcases hpe with⟨rfl,hq⟩ |⟨rfl,hq⟩
   ·exact⟨_,m'',hq,hr4⟩
   ·exact wpIn_ret ⟨_,m'',hq,hr4⟩
theorem sW{f:FuncId}{caps:List AV}(hnm:(caps.all fun x=>x.nm.isEmpty)=true):Sub (.fn f caps) (.cl f [] caps):=by
 intro g S m v h;cases h with
 |fn hn hr =>
  exact .cl rfl (fun j u c hu hc => by simp at hc) hn (fun j u c hu hc => (hr j u c hu hc).mono (fun _ _ h => h) (fun _ _ h => h) (fun k b hk => by
   have h1:=List.all_eq_true.1 hnm c (Xx hc);have h2:=hk.mem;simp only[List.isEmpty_iff]at h1;rw[h1]at h2;cases h2))
theorem UY{ρ:Operand->Value}{o:Oper}{g:Operand}{f:FuncId}{pre caps:Array Value}{args:Array Operand}{ts:Array TypeId}{w:World}{vs:Array Value}(ho:o.op=.call ⟨.value g,args,ts⟩)
  (hρ:ρ g=.func (.func f) pre caps) (hok:sI P f) (hvs:pre++args.map ρ++caps=vs):(execOp ρ o).run P w=.ok (.enter f vs) w:=by
 subst hvs;have:=hok (pre++args.map ρ++caps) w;rw[Array.append_assoc]at this;obtain⟨dst,op,type,pos,after,guard⟩:=o;subst ho;simp[execOp,resolve,hρ,Deferred.ofValue,invoke,this]
theorem Qn{d:Nat}{g:Operand}{f:FuncId}{pre caps:List AV}{args:Array Operand}{ts:Array TypeId}{xs:List AV}{H H':Hp}{r:AV}{t:TypeId}
  (hg:Ev s g (.cl f pre caps)) (hcon:Con P f (pre++xs++caps) H r H') (ha:EvL s args.toList xs) (hH:∀k z,lk H k=some z->s.blk k=some z) (hok:iA s H H' r=true) (hN:Nat.blt d N=true) :
  Step P N R s ⟨some d,.call ⟨.value g,args,ts⟩,t,pos,after,none⟩ ⟨some r,H'++dp H,au g++eG args.toList,H.map (·.1)⟩:=by
 refine zJ rfl (fun d' h=>by cases h;exact⟨hN,rfl⟩) hcon hH hok fun s' hag C m a w hr=>?_
 have hag':f9 s s' ⟨none,[],au g++eG args.toList,[]⟩:=⟨hag,fun k hk=>by cases hk⟩
 have ha':=ha.agree hag' (fun _ h=>List.mem_append.2 (.inr h));have hgr:=(hg.agree hag' (fun _ h=>List.mem_append.2 (.inl h))).rep hr;generalize hv:a.eval g=u at hgr;cases hgr with
 | @cl _ _ pvs cvs _ _ hn hrr hn' hrr' =>
  have hl:=ha'.length;simp only[Array.length_toList]at hl;refine⟨pvs++args.map a.eval++cvs,UY rfl hv hcon.ok rfl,by simp[hn,hn',hl],?_⟩;intro j v x hv' hx;rw[Array.getElem?_append]at hv';rw[List.getElem?_append]at hx;simp only[Array.size_append,Array.size_map,XZ,hn,hl]at hv' hx;split at hv'
  ·rename_i h1;rw[Yl h1]at hx;rw[Array.getElem?_append]at hv';rw[List.getElem?_append]at hx;split at hv'
   ·rename_i h2;rw[Yl oz]at hx;exact(hrr j v x hv' hx).mono (fun _ _ h=>h) (fun _ _ h=>h) (fun k b _ h=>by cases h)
   ·rename_i h2;rw[Yk oz]at hx;rw[hn]at hv';exact ha'.rep hr _ v x (by simpa using hv') hx
  ·rename_i h1;rw[Yk h1]at hx;exact(hrr' _ v x hv' hx).mono (fun _ _ h=>h) (fun _ _ h=>h) (fun k b _ h=>by cases h)
end Go.Lw
namespace Go.Lw
variable{P:Program}{N:Nat}{Q:Exit->AS->Prop}
def xM(s:AS)(g:Nat)(want:Bool):Option (Prop×Bool):=match s.get g with
  |some x=>match x with
    | .v (.bool b)=>some (b=want,b==want)
    | .opt c (.v (.bool b))=>some (c=true/\b=want,c&&b==want)
    |_=>none
  |none=>none
inductive Want where
  |ar (op:BinOp) (k:IntKind) (a b:Int)
  |cv (k:IntKind) (n:Int)
  |ln (es:List AV)
  |ix (es:List AV) (i:Int)
  |cl (f:FuncId) (xs:List AV)
def ul(P:Program)(w:Want)(x:AV):Prop:=match w with
  | .ar op k a b=>∃n,k.wrap (fN op a b)=n/\x=.v (.int k n)
  | .cv k n=>∃m,k.wrap n=m/\x=.v (.int k m)
  | .ln es=>∃n:Nat,es.length=n/\x=.v (.int .i64 n)
  | .ix es i=>0<=i/\∃e,es[i.toNat]?=some e/\x=.iptr e.cells
  | .cl f xs=>gO P f xs x/\x.nm=[]
inductive Fr where
  |seq (c:Code)
  |blk (id:Nat)
  |lp (K:AS->Prop)
def cE(P:Program)(N:Nat)(Q:Exit->AS->Prop):List Fr->Exit->AS->Prop
  |[],e,s=>Q e s
  | .seq c::k,e,s=>match e with
    | .normal=>bQ P N c (cE P N Q k) s
    |e=>cE P N Q k e s
  | .blk id::k,e,s=>match e with
    | .exit id'=>match Nat.beq id' id with
      |true=>cE P N Q k .normal s
      |false=>cE P N Q k (.exit id') s
    |e=>cE P N Q k e s
  | .lp K::k,e,s=>match e with
    | .normal=>K s
    |e=>cE P N Q k e s
inductive Cf where
  |code (c:Code) (k:List Fr) (s:AS)
  |ops (id i:Nat) (R:List Oper) (draw:Bool) (s0:AS) (ops:List Oper) (us:List Out) (k:List Fr) (s:AS)
  |ap (o:Oper) (u:Out) (id i:Nat) (R:List Oper) (draw:Bool) (s0:AS) (ops:List Oper) (us:List Out) (k:List Fr) (s:AS)
  |ex (e:Exit) (k:List Fr) (s:AS)
  |st (w:Want) (rt:List Nat) (o:Oper) (id i:Nat) (R:List Oper) (draw:Bool) (s0:AS) (ops:List Oper) (us:List Out) (k:List Fr) (s:AS)
  |sg (G:Prop) (b:Bool) (w:Want) (rt:List Nat) (o:Oper) (id i:Nat) (R:List Oper) (draw:Bool) (s0:AS) (ops:List Oper) (us:List Out) (k:List Fr) (s:AS)
def Gd(P:Program)(N:Nat)(Q:Exit->AS->Prop):Cf->Prop
  | .code c k s=>bQ P N c (cE P N Q k) s
  | .ops _ _ R draw s0 ops us k s=>gk P N R.toArray ops s us (fun s' us'=>(draw=true->chk R us' s0=true)/\cE P N Q k .normal s')
  | .ap o u _ _ R draw s0 ops us k s=>gk P N R.toArray ops (s.app o.dst u) (us++[u]) (fun s' us'=>(draw=true->chk R us' s0=true)/\cE P N Q k .normal s')
  | .ex e k s=>cE P N Q k e s
  | .st w rt o _ _ R draw s0 ops us k s=>(∀x,ul P w x->Step P N R.toArray s o ⟨some x,[],rt,[]⟩)->gk P N R.toArray (o::ops) s us (fun s' us'=>(draw=true->chk R us' s0=true)/\cE P N Q k .normal s')
  | .sg G b w rt o _ _ R draw s0 ops us k s=>(∀x,(G->ul P w x)->Step P N R.toArray s o ⟨some (.opt b x),[],rt,[]⟩)->gk P N R.toArray (o::ops) s us (fun s' us'=>(draw=true->chk R us' s0=true)/\cE P N Q k .normal s')
theorem NN{x y:Code}{k:List Fr}{s:AS}(h:bQ P N x (cE P N Q (.seq y::k)) s):bQ P N (.seq x y) (cE P N Q k) s :=
 Qp fun K hK=>jr h fun e s he=>by
  cases e with
  |normal=>exact hK s he
  |_=>exact he
theorem SS{id:Nat}{c:Code}{k:List Fr}{s:AS}(h:bQ P N c (cE P N Q (.blk id::k)) s):bQ P N (.block id c) (cE P N Q k) s :=
 Wu (jr h fun e s he=>by
  cases e with
  |exit id' =>
   show match Nat.beq id' id with |true=>_ |false=>_
   simp only[cE]at he;split at he
   ·exact he
   ·exact he
  |_=>exact he)
theorem Bn{R:Array Oper}{K K':AS->List Out->Prop}(hk:∀s us,K s us->K' s us):∀{ops:List Oper}{s:AS}{us:List Out},gk P N R ops s us K->gk P N R ops s us K'
 |[],s,us,h=>hk s us h
 |_::_,s,us,⟨u,h1,h2,h3⟩=>⟨u,h1,h2,Bn hk h3⟩
def w8:List Oper->Bool
  |[]=>true
  |o::l=>match o.op with
    | .defer _=>false
    |_=>w8 l
theorem Fi:∀{l:List Oper},w8 l=true->l.all nd=true
 |[],_=>rfl
 |o::l,h=>by
  unfold w8 at h;simp only[List.all_cons,XF];split at h
  ·cases h
  ·rename_i hd;refine⟨?_,Fi h⟩;unfold nd;split
   ·rename_i c hc;exact absurd hc (hd c)
   ·rfl
theorem RZ{id:Nat}{A:Array Oper}{d:Bool}{k:List Fr}{s:AS}(hnd:A.toList.all nd=true)(hd:d=true->P.follows .mixedOrders=true)
  (h:gk P N A.toList.toArray A.toList s [] (fun s' us'=>(d=true->chk A.toList us' s=true)/\cE P N Q k .normal s')):bQ P N (.region id A d) (cE P N Q k) s:=by
 have e:A=A.toList.toArray:=by simp
 cases d with
 |false =>
  rw[e]
  exact QP hnd (by
   exact Bn (fun s us h=>h.2) h)
 |true =>
  rw[e];exact LQ hnd (hd rfl) (Bn (fun s us h=>⟨h.1 rfl,h.2⟩) h)
variable[Inhabited (Tys P)]
def AN(P:Program)[Inhabited (Tys P)](s:AS)(d:Nat):Op->Option (Out×List Prop)
  | .alloc T=>match fR P T with
    |some ti=>match ti.zero.all Value.oneCell' with
      |true=>match mV (ti.zero.map .v)with
        |some l=>some (⟨some (.ptr d 0),[(d,some (.box l))],[],[]⟩,[])
        |none=>none
      |false=>none
    |none=>none
  | .box _ x=>match dQ false True s x with
    |some (v,ob)=>match v.ok with
      |true=>match mV v.cells with
        |some l=>some (⟨some (.ptr d 0),[(d,some (.box l))],au x,[]⟩,ob)
        |none=>none
      |false=>none
    |none=>none
  |_=>none
def yZ(P:Program)[Inhabited (Tys P)](s:AS):Op->Option (Out×List Prop)
  | .store T x y=>match dQ false True s x with
    |some (.ptr k off,ob)=>match dQ false True s y with
      |some (v,ob')=>match s.blk k with
        |some (.box cs)=>match fR P T with
          |some ti=>match v.ok&&Nat.beq v.cells.length ti.size&&Nat.ble (off+ti.size) cs.length with
            |true=>match mV (over cs off v.cells)with
              |some l=>some (⟨none,[(k,some (.box l))],au x++au y,[k]⟩,ob++ob')
              |none=>none
            |false=>none
          |none=>none
        |_=>none
      |none=>none
    |_=>none
  |_=>none
def wn(s:AS)(r:Out×List Prop):Option (Out×List Prop):=match Fz s r.1 with
  |true=>some r
  |false=>none
def xW(P:Program)[Inhabited (Tys P)](N:Nat)(R:List Oper)(s:AS)(o:Oper):Option (Out×List Prop):=match o.guard with
  |none=>match o.dst with
    |some d=>match Nat.blt d N with
      |true=>match u9 P false True s o.op with
        |some ⟨x,rt,rd,ob⟩=>some (⟨some x,[],rt,rd⟩,ob)
        |none=>match AN P s d o.op with
          |some r=>wn s r
          |none=>none
      |false=>none
    |none=>match yZ P s o.op with
      |some r=>wn s r
      |none=>none
  |some (j,want)=>match R[j]? with
    |some og=>match og.dst with
      |some g=>match o.dst with
        |some d=>match Nat.blt d N with
          |true=>match xM s g want with
            |some (G,b)=>match u9 P true G s o.op with
              |some ⟨x,rt,rd,ob⟩=>some (⟨some (.opt b x),[],g::rt,rd⟩,ob)
              |none=>none
            |none=>none
          |false=>none
        |none=>none
      |none=>none
    |none=>none
theorem DJ{s:AS}{r r':Out×List Prop}(h:wn s r=some r'):r'=r/\jH s r.1:=by
 unfold wn at h;split at h
 ·rename_i hn;cases h;exact⟨rfl,wR hn⟩
 ·cases h
theorem MV{s:AS}{R:Array Oper}{d:Nat}{op:Op}{t:TypeId}{pos:String}{after:Array Edge}{r:Out×List Prop}(h:AN P s d op=some r)(ho:AllP r.2)(hN:Nat.blt d N=true) :
  Step P N R s ⟨some d,op,t,pos,after,none⟩ r.1:=by
 unfold AN at h;split at h
 ·split at h
  ·rename_i ti hti;split at h
   ·rename_i hz;split at h
    ·rename_i l hl;cases h;cases qj hl;exact Kb (fP hti) hz hN
    ·cases h
   ·cases h
  ·cases h
 ·split at h
  ·rename_i v ob h1;split at h
   ·rename_i hv;split at h
    ·rename_i l hl;cases h;cases qj hl;exact MA (d5 h1 ho trivial) hv hN
    ·cases h
   ·cases h
  ·cases h
 ·cases h
theorem Wv{s:AS}{R:Array Oper}{op:Op}{t:TypeId}{pos:String}{after:Array Edge}{r:Out×List Prop}(h:yZ P s op=some r)(ho:AllP r.2) :
  Step P N R s ⟨none,op,t,pos,after,none⟩ r.1:=by
 unfold yZ at h;split at h
 ·split at h
  ·rename_i h1;split at h
   ·rename_i h2;split at h
    ·rename_i hk;split at h
     ·rename_i ti hti;split at h
      ·rename_i hc;simp only[XF]at hc;split at h
       ·rename_i l hl;cases h;cases qj hl
        exact Eb (d5 h1 ho.app.1 trivial) hk (d5 h2 ho.app.2 trivial) hc.1.1 (fP hti) hc.1.2 hc.2
       ·cases h
      ·cases h
     ·cases h
    ·cases h
   ·cases h
  ·cases h
 ·cases h
theorem SJ{R:List Oper}{s:AS}{o:Oper}{u:Out}{ob:List Prop}(h:xW P N R s o=some (u,ob))(ho:AllP ob):Step P N R.toArray s o u/\jH s u:=by
 obtain⟨dst,op,ty,pos,after,guard⟩:=o;unfold xW at h;simp only at h;split at h
 ·split at h
  ·rename_i d;split at h
   ·rename_i hN;split at h
    ·rename_i h1;cases h;exact⟨B4 h1 ho trivial hN,fun k hk=>by simp at hk⟩
    ·split at h
     ·rename_i r h1;obtain⟨h2,h3⟩:=DJ h;subst h2;exact⟨MV h1 ho hN,h3⟩
     ·cases h
   ·cases h
  ·split at h
   ·rename_i r h1;obtain⟨h2,h3⟩:=DJ h;subst h2;exact⟨Wv h1 ho,h3⟩
   ·cases h
 ·rename_i j want;split at h
  ·rename_i og hog;split at h
   ·rename_i g hg;split at h
    ·rename_i d;split at h
     ·rename_i hN;split at h
      ·rename_i G b hG;split at h
       ·rename_i h1;cases h;have hj:(R.toArray[j]?).bind (·.dst) = some g:=by simp [hog,hg]
        unfold xM at hG;split at hG
        ·rename_i x hx;split at hG
         ·cases hG;exact⟨fq hj hx hN (fun h=>B4 h1 ho h hN),fun k hk=>by simp at hk⟩
         ·cases hG;exact⟨rh hj hx hN (fun hc h=>B4 h1 ho ⟨hc,h⟩ hN),fun k hk=>by simp at hk⟩
         ·cases hG
        ·cases hG
       ·cases h
      ·cases h
     ·cases h
    ·cases h
   ·cases h
  ·cases h
def F7:BinOp->Bool
  | .add | .sub | .mul=>true
  |_=>false
theorem WO:∀{op:BinOp},F7 op=true->(match op with | .add | .sub | .mul=>true |_=>false)=true:=by intro op;cases op <;> intro h <;> first |rfl |cases h
structure R2 where
  w:Want
  rt:List Nat
  ob:List Prop
def xq(P:Program)[Inhabited (Tys P)](g:Bool)(G:Prop)(s:AS):Op->Option R2
  | .binOp op _ x y _=>match F7 op with
    |true=>match dQ g G s x with
      |some (.v (.int k a),ob)=>match dQ g G s y with
        |some (.v (.int k' b),ob')=>match Nat.beq (pR k) (pR k')with
          |true=>some ⟨.ar op k a b,au x++au y,ob++ob'⟩
          |false=>none
        |_=>none
      |_=>none
    |false=>none
  | .convert S T x=>match dQ g G s x with
    |some (.v (.int _ n),ob)=>match fR P S with
      |some _=>match fR P T with
        |some ti=>match ti.k with
          | .int k'=>some ⟨.cv k' n,au x,ob⟩
          |_=>none
        |none=>none
      |none=>none
    |_=>none
  | .indexAddr T x ix=>match dQ g G s x with
    |some (.lst sz es,ob)=>match dQ g G s ix with
      |some (.v (.int _ i),ob')=>match fR P T with
        |some ti=>match ti.k with
          | .slice E=>match fR P E with
            |some te=>match Nat.beq te.size sz with
              |true=>some ⟨.ix es i,au x++au ix,ob++ob'⟩
              |false=>none
            |none=>none
          |_=>none
        |none=>none
      |_=>none
    |_=>none
  | .call ⟨.builtin .len,args,ts⟩=>match args.toList with
    |[x]=>match ts.toList with
      |[T]=>match dQ g G s x with
        |some (.lst _ es,ob)=>match fR P T with
          |some ti=>match ti.k with
            | .slice _=>some ⟨.ln es,au x,ob⟩
            |_=>none
          |none=>none
        |_=>none
      |_=>none
    |_=>none
  | .call ⟨.value (.func f),args,_⟩=>match nv g G s args.toList with
    |some (xs,ob)=>some ⟨.cl f xs,eG args.toList,ob⟩
    |none=>none
  | .call ⟨.value (.tmp t),args,_⟩=>match dQ g G s (.tmp t)with
    |some (.cl f pre caps,ob)=>match nv g G s args.toList with
      |some (xs,ob')=>some ⟨.cl f (pre++xs++caps),au (.tmp t)++eG args.toList,ob++ob'⟩
      |none=>none
    |_=>none
  |_=>none
theorem BX{g:Bool}{G:Prop}{s:AS}{R:Array Oper}{d:Nat}{t:TypeId}{pos:String}{after:Array Edge}{op:Op}{r:R2}(h:xq P g G s op=some r)(ho:AllP r.ob)(hG:G)(hN:Nat.blt d N=true)
  {x:AV} (hm:ul P r.w x):Step P N R s ⟨some d,op,t,pos,after,none⟩ ⟨some x,[],r.rt,[]⟩:=by
 unfold xq at h;split at h
 ·split at h
  ·rename_i hop;split at h
   ·rename_i h1;split at h
    ·rename_i h2;split at h
     ·rename_i hk;cases h;cases Gh hk;obtain⟨n,e,rfl⟩:=hm;subst e;exact V2 (d5 h1 ho.app.1 hG) (d5 h2 ho.app.2 hG) (WO hop) hN
     ·cases h
    ·cases h
   ·cases h
  ·cases h
 ·split at h
  ·rename_i h1;split at h
   ·rename_i tS hS;split at h
    ·rename_i ti hT;split at h
     ·rename_i k' hk;cases h;obtain⟨m,e,rfl⟩:=hm;subst e;exact TY (d5 h1 ho hG) hN (fP hS) (fP hT) hk
     ·cases h
    ·cases h
   ·cases h
  ·cases h
 ·split at h
  ·rename_i h1;split at h
   ·rename_i h2;split at h
    ·rename_i ti hT;split at h
     ·rename_i E hk;split at h
      ·rename_i te hE;split at h
       ·rename_i hsz;cases h;obtain⟨h0,e,he,rfl⟩:=hm;exact ND (d5 h1 ho.app.1 hG) (d5 h2 ho.app.2 hG) (fP hT) hk (fP hE) (XG hsz) h0 he hN
       ·cases h
      ·cases h
     ·cases h
    ·cases h
   ·cases h
  ·cases h
 ·rename_i args ts;split at h
  ·rename_i y hy;split at h
   ·rename_i T hT;have e1:args = #[y]:=by apply Array.toList_inj.1; simpa using hy
    have e2:ts=#[T]:=by apply Array.toList_inj.1;simpa using hT
    subst e1;subst e2
    split at h
    ·rename_i h1;split at h
     ·rename_i ti hti;split at h
      ·rename_i e hk;cases h;obtain⟨n,e,rfl⟩:=hm;subst e;exact UF (d5 h1 ho hG) (fP hti) hk hN
      ·cases h
     ·cases h
    ·cases h
   ·cases h
  ·cases h
 ·split at h
  ·rename_i h1;cases h;exact SU hm.1 (p4 hG h1 ho) hm.2 hN
  ·cases h
 ·split at h
  ·rename_i h1;split at h
   ·rename_i h2;cases h;exact Qn (d5 h1 ho.app.1 hG) hm.1 (p4 hG h2 ho.app.2) (fun k z h=>by cases h) (by simp[iA,rU,hm.2]) hN
   ·cases h
  ·cases h
 ·cases h
def AT(P:Program)[Inhabited (Tys P)](N:Nat)(R:List Oper)(s:AS)(o:Oper)(f:Want->List Nat->Cf)(fG:Prop->Bool->Want->List Nat->Cf):Option (Cf×List Prop):=match o.dst with
  |some d=>match Nat.blt d N with
    |true=>match o.guard with
      |none=>match xq P false True s o.op with
        |some ⟨w,rt,ob⟩=>some (f w rt,ob)
        |none=>none
      |some (j,want)=>match R[j]? with
        |some og=>match og.dst with
          |some g=>match xM s g want with
            |some (G,b)=>match xq P true G s o.op with
              |some ⟨w,rt,ob⟩=>some (fG G b w (g::rt),ob)
              |none=>none
            |none=>none
          |none=>none
        |none=>none
    |false=>none
  |none=>none
theorem Su{R:List Oper}{s:AS}{o:Oper}{f:Want->List Nat->Cf}{fG:Prop->Bool->Want->List Nat->Cf}{c:Cf}{ob:List Prop}(h:AT P N R s o f fG=some (c,ob))(ho:AllP ob) :
  (∃w rt,c=f w rt/\∀x,ul P w x->Step P N R.toArray s o ⟨some x,[],rt,[]⟩)\/(∃G b w rt,c=fG G b w rt/\∀x,(G->ul P w x)->Step P N R.toArray s o ⟨some (.opt b x),[],rt,[]⟩):=by
 obtain⟨dst,op,ty,pos,after,guard⟩:=o;unfold AT at h;simp only at h;split at h
 ·rename_i d;split at h
  ·rename_i hN;split at h
   ·split at h
    ·rename_i h1;cases h;exact .inl ⟨_,_,rfl,fun x hm=>BX h1 ho trivial hN hm⟩
    ·cases h
   ·rename_i j want;split at h
    ·rename_i og hog;split at h
     ·rename_i g hg;split at h
      ·rename_i G b hG;split at h
       ·rename_i h1;cases h;have hj:(R.toArray[j]?).bind (·.dst) = some g:=by simp [hog,hg]
        refine .inr ⟨_,_,_,_,rfl,fun x hm=>?_⟩;unfold xM at hG;split at hG
        ·rename_i y hy;split at hG
         ·cases hG;exact fq hj hy hN (fun h=>BX h1 ho h hN (hm h))
         ·cases hG;exact rh hj hy hN (fun hc h=>BX h1 ho ⟨hc,h⟩ hN (hm ⟨hc,h⟩))
         ·cases hG
        ·cases hG
       ·cases h
      ·cases h
     ·cases h
    ·cases h
  ·cases h
 ·cases h
def step(P:Program)[Inhabited (Tys P)](N:Nat)(st:Nat×Nat):Cf->Option (Cf×List Prop)
  | .code c k s=>match c with
    | .skip=>match Nat.beq 77777 st.1 with
      |true=>none
      |false=>some (.ex .normal k s,[])
    | .ret=>match Nat.beq 77777 st.1 with
      |true=>none
      |false=>some (.ex .ret k s,[])
    | .exit id=>match Nat.beq 77777 st.1 with
      |true=>none
      |false=>some (.ex (.exit id) k s,[])
    | .seq x y=>some (.code x (.seq y::k) s,[])
    | .block id c=>some (.code c (.blk id::k) s,[])
    | .region id A d=>match Nat.beq id st.1&&Nat.beq 0 st.2 with
      |true=>none
      |false=>match w8 A.toList with
        |true=>some (.ops id 0 A.toList d s A.toList [] k s,[])
        |false=>none
    |_=>none
  | .ops id i R d s0 ops us k s=>match ops with
    |[]=>match d with
      |false=>some (.ex .normal k s,[])
      |true=>none
    |o::ops=>match Nat.beq id st.1&&Nat.beq (i+1) st.2 with
      |true=>none
      |false=>match xW P N R s o with
        |some (u,ob)=>some (.ap o u id i R d s0 ops us k s,ob)
        |none=>AT P N R s o (fun w rt=>.st w rt o id i R d s0 ops us k s) (fun G b w rt=>.sg G b w rt o id i R d s0 ops us k s)
  | .ap o u id i R d s0 ops us k s=>match s with
    |⟨sl,hp⟩=>match u with
      |⟨val,upd,rt,rd⟩=>match o.dst with
        |some t=>match upd with
          |[]=>some (.ops id (i+1) R d s0 ops (us++[⟨val,[],rt,rd⟩]) k ⟨(t,val)::sl,hp⟩,[])
          |p::q=>some (.ops id (i+1) R d s0 ops (us++[⟨val,p::q,rt,rd⟩]) k ⟨(t,val)::sl,p::(q++hp)⟩,[])
        |none=>some (.ops id (i+1) R d s0 ops (us++[⟨val,upd,rt,rd⟩]) k ⟨sl,upd++hp⟩,[])
  | .ex e k s=>match k with
    |[]=>none
    | .seq c::k=>match e with
      | .normal=>some (.code c k s,[])
      |e=>some (.ex e k s,[])
    | .blk id::k=>match e with
      | .exit id'=>match Nat.beq id' id with
        |true=>some (.ex .normal k s,[])
        |false=>some (.ex (.exit id') k s,[])
      |e=>some (.ex e k s,[])
    | .lp _::k=>match e with
      | .normal=>none
      |e=>some (.ex e k s,[])
  | .st .. => none
  | .sg .. => none
def run(P:Program)[Inhabited (Tys P)](N:Nat)(st:Nat×Nat):Nat->Cf->List Prop->Option (Cf×List Prop)
  |0,c,ob=>some (c,ob)
  |n+1,c,ob=>match step P N st c with
    |none=>some (c,ob)
    |some (c',o)=>match o with
      |[]=>run P N st n c' ob
      |p::o=>run P N st n c' (p::(o++ob))
theorem Jq{st:Nat×Nat}{c c':Cf}{ob:List Prop}(h:step P N st c=some (c',ob))(ho:AllP ob)(hg:Gd P N Q c'):Gd P N Q c:=by
 unfold step at h;split at h
 ·split at h
  ·split at h
   ·cases h
   ·cases h;exact Oi hg
  ·split at h
   ·cases h
   ·cases h;exact Kx hg
  ·split at h
   ·cases h
   ·cases h;exact Px hg
  ·cases h;exact NN hg
  ·cases h;exact SS hg
  ·split at h
   ·cases h
   ·split at h
    ·rename_i hnd;cases h;exact RZ (Fi hnd) (fun _=>(default:Tys P).mix) hg
    ·cases h
  ·cases h
 ·split at h
  ·split at h
   ·cases h;simpa[Gd,gk]using hg
   ·cases h
  ·split at h
   ·cases h
   ·split at h
    ·rename_i h1;cases h;obtain⟨h2,h3⟩:=SJ h1 ho;exact⟨_,h2,h3,hg⟩
    ·rcases Su h ho with⟨w,rt,rfl,h2⟩ |⟨G,b,w,rt,rfl,h2⟩
     ·exact hg h2
     ·exact hg h2
 ·rename_i o u id i R d s0 ops us k s;obtain⟨sl,hp⟩:=s;obtain⟨val,upd,rt,rd⟩:=u;obtain⟨dst,op,ty,pos,after,guard⟩:=o;cases dst with
  |none=>cases h;exact hg
  |some t =>
   cases upd with
   |nil=>cases h;exact hg
   |cons p q=>cases h;exact hg
 ·rename_i e k s;cases k with
  |nil=>cases h
  |cons f k =>
   cases f with
   |seq c=>cases e <;> cases h <;> exact hg
   |blk id =>
    cases e with
    |exit id' =>
     show cE P N Q (.blk id::k) (.exit id') s;simp only[cE];simp only at h;split at h
     ·cases h;exact hg
     ·cases h;exact hg
    |_=>cases h;exact hg
   |lp K=>cases e <;> cases h <;> exact hg
 ·cases h
 ·cases h
theorem cI{st:Nat×Nat}:∀{n:Nat}{c c':Cf}{ob ob':List Prop},run P N st n c ob=some (c',ob')->AllP ob'->Gd P N Q c'->Gd P N Q c/\AllP ob
 |0,c,c',ob,ob',h,ho,hg=>by cases h;exact⟨hg,ho⟩
 |n+1,c,c',ob,ob',h,ho,hg=>by
  unfold run at h;split at h
  ·cases h;exact⟨hg,ho⟩
  ·rename_i c2 o h1;split at h
   ·obtain⟨h2,h3⟩:=cI h ho hg;exact⟨Jq h1 .nil h2,h3⟩
   ·rename_i p o;obtain⟨h2,h3⟩:=cI h ho hg;cases h3 with |cons h4 h5=>exact⟨Jq h1 (.cons h4 h5.app.1) h2,h5.app.2⟩
end Go.Lw
namespace Go.Lw
variable{P:Program}{N:Nat}{Q:Exit->AS->Prop}
theorem aZ{a b:bO}(h:SlW a b:=by repeat(first |exact SlW.nil |refine SlW.k ?_)):SlW a b:=h
theorem Wk.o {s : AS} {sl : bO} {hp : Hp} (h1 : SlW s.sl sl := by exact aZ)
  (h2:HpW s.hp hp:=by repeat(first |exact HpW.nil |refine HpW.cons rfl (.refl _) ?_)):Wk s ⟨sl,hp⟩:=Wk.of h1 h2
def lD:Nat->List Fr->Option (List Fr×Code×List Fr)
  |0,.seq y::k=>some ([],y,k)
  |n+1,f::k=>match lD n k with
    |some (a,y,b)=>some (f::a,y,b)
    |none=>none
  |_,_=>none
theorem un:∀{n:Nat}{k k1 k2:List Fr}{y:Code},lD n k=some (k1,y,k2)->k=k1 ++ .seq y::k2
 |0,[],_,_,_,h=>by simp[lD]at h
 |0,f::k,k1,k2,y,h=>by cases f <;> simp[lD]at h;obtain⟨rfl,rfl,rfl⟩:=h;rfl
 |n+1,[],_,_,_,h=>by simp[lD]at h
 |n+1,f::k,k1,k2,y,h=>by
  simp only[lD]at h;split at h
  ·rename_i h1;cases h;rw[un h1];rfl
  ·cases h
theorem kX{k2:List Fr}{y:Code}{K:AS->Prop}(hK:∀s,K s->bQ P N y (cE P N Q k2) s) :
  ∀(k1:List Fr)(e:Exit)(s:AS),cE P N Q (k1 ++ .lp K::k2) e s->cE P N Q (k1 ++ .seq y::k2) e s
 |[],e,s,h=>by cases e <;> first |exact hK s h |exact h
 | .seq c::k1,e,s,h=>by
  cases e with
  |normal=>exact jr (h:bQ P N c _ s) (fun e s=>kX hK k1 e s)
  |_=>exact kX hK k1 _ s h
 | .blk id::k1,e,s,h=>by
  cases e with
  |exit id' =>
   simp only[List.cons_append,cE]at h ⊢;split at h
   ·exact kX hK k1 _ s h
   ·exact kX hK k1 _ s h
  |_=>exact kX hK k1 _ s h
 | .lp K'::k1,e,s,h=>by
  cases e with
  |normal=>exact h
  |_=>exact kX hK k1 _ s h
def uv:Nat->List AV->Option bO
  |_,[]=>some []
  |n,x::xs=>match uv (n+1) xs with
    |some l=>some ((n,some x)::l)
    |none=>none
theorem x8:∀{xs:List AV}{n:Nat}{l:bO},uv n xs=some l->l=mo n xs
 |[],n,l,h=>by cases h;rfl
 |x::xs,n,l,h=>by
  unfold uv at h;split at h
  ·rename_i h1;cases h;rw[x8 h1];rfl
  ·cases h
def pk{α:Type}(l:List (Nat×Option α)):List Nat->Option (List (Nat×Option α))
  |[]=>some []
  |t::ts=>match lk l t with
    |some x=>match pk l ts with
      |some r=>some ((t,some x)::r)
      |none=>none
    |none=>none
theorem H6{sl:bO}:∀{ts:List Nat}{r:bO},pk sl ts=some r->SlW sl r
 |[],r,h=>by cases h;exact .nil
 |t::ts,r,h=>by
  unfold pk at h;split at h
  ·rename_i h1;split at h
   ·rename_i h2;cases h;exact .cons h1 (.refl _) (H6 h2)
   ·cases h
  ·cases h
theorem EC{hp:Hp}:∀{ts:List Nat}{r:Hp},pk hp ts=some r->HpW hp r
 |[],r,h=>by cases h;exact .nil
 |t::ts,r,h=>by
  unfold pk at h;split at h
  ·rename_i h1;split at h
   ·rename_i h2;cases h;exact .cons h1 (.refl _) (EC h2)
   ·cases h
  ·cases h
theorem SlW.ap{sl a b:bO}(h:SlW sl a)(h':SlW sl b):SlW sl (a++b):=by
 induction h with
 |nil=>exact h'
 |cons h1 h2 _ ih=>exact .cons h1 h2 ih
theorem HpW.ap{sl a b:Hp}(h:HpW sl a)(h':HpW sl b):HpW sl (a++b):=by
 induction h with
 |nil=>exact h'
 |cons h1 h2 _ ih=>exact .cons h1 h2 ih
theorem Wk.p{s:AS}{a b:bO}{c d:Hp}{ks kh:List Nat}(h1:SlW s.sl a)(h2:HpW s.hp c)(hs:pk s.sl ks=some b)(hh:pk s.hp kh=some d):Wk s ⟨a++b,c++d⟩ :=
 Wk.of (h1.ap (H6 hs)) (h2.ap (EC hh))
def wM:Exit->Bool
  | .normal | .ret=>true
  |_=>false
theorem iy{s:AS}{x:Option AV}{rt rd:List Nat}:jH s ⟨x,[],rt,rd⟩:=fun _ hk=>by simp at hk
theorem r8{c:Code}{k:List Fr}{s:AS}{α:Type}{f:α->AV}{l:List α}{t sz:Nat}(ht:s.get t=some (.lst sz (l.map f)))(h:l.length<=a8->Gd P N Q (.code c k s)):Gd P N Q (.code c k s):=Pg ht h
theorem o9{S:AS}{F:Prop}{K:AS->Prop}{k:List Fr}{s:AS}(hK:∀(s1:AS),F->Wk s1 S->K s1)(hF:F)(hw:Wk s S:=by exact Wk.o):Gd P N Q (.ex .normal (.lp K::k) s):=hK s hF hw
theorem aO{P':Type}{S:P'->AS}{F:P'->Prop}{M:P'->Nat}{m0:Nat}{K:AS->Prop}{k:List Fr}{s:AS}(hK:∀(s1:AS),∀(p2:P'),F p2->M p2<m0->Wk s1 (S p2)->K s1)(p0:P')(hF:F p0)
  (hl:M p0<m0:=by first |omega |(dsimp only;omega)) (hw:Wk s (S p0):=by exact Wk.o):Gd P N Q (.ex .normal (.lp K::k) s):=hK s p0 hF hl hw
theorem qw{P':Type}{S:P'->AS}{F:P'->Prop}{K:AS->Prop}{k:List Fr}{s:AS}(hK:∀(s1:AS),∀(p:P'),F p->Wk s1 (S p)->K s1)(p0:P')(hF:F p0)(hw:Wk s (S p0):=by exact Wk.o):Gd P N Q (.ex .normal (.lp K::k) s):=hK s p0 hF hw
theorem fU{P' Q':Type}{S:P'->Q'->AS}{F:P'->Q'->Prop}{M:P'->Q'->Nat}{m0:Nat}{K:AS->Prop}{k:List Fr}{s:AS}(hK:∀(s1:AS),∀(p2:P')(q2:Q'),F p2 q2->M p2 q2<m0->Wk s1 (S p2 q2)->K s1)(p0:P')(q0:Q')(hF:F p0 q0)
  (hl:M p0 q0<m0:=by first |omega |(dsimp only;omega)) (hw:Wk s (S p0 q0):=by exact Wk.o):Gd P N Q (.ex .normal (.lp K::k) s):=hK s p0 q0 hF hl hw
theorem pW{P' Q':Type}{S:P'->Q'->AS}{F:P'->Q'->Prop}{K:AS->Prop}{k:List Fr}{s:AS}(hK:∀(s1:AS),∀(p:P')(q:Q'),F p q->Wk s1 (S p q)->K s1)(p0:P')(q0:Q')(hF:F p0 q0)(hw:Wk s (S p0 q0):=by exact Wk.o):Gd P N Q (.ex .normal (.lp K::k) s):=hK s p0 q0 hF hw
theorem gS{P' Q' R':Type}{S:P'->Q'->R'->AS}{F:P'->Q'->R'->Prop}{M:P'->Q'->R'->Nat}{m0:Nat}{K:AS->Prop}{k:List Fr}{s:AS}(hK:∀(s1:AS),∀(p2:P')(q2:Q')(r2:R'),F p2 q2 r2->M p2 q2 r2<m0->Wk s1 (S p2 q2 r2)->K s1)(p0:P')(q0:Q')(r0:R')(hF:F p0 q0 r0)
  (hl:M p0 q0 r0<m0:=by first |omega |(dsimp only;omega)) (hw:Wk s (S p0 q0 r0):=by exact Wk.o):Gd P N Q (.ex .normal (.lp K::k) s):=hK s p0 q0 r0 hF hl hw
theorem CY{P' Q' R' T':Type}{S:P'->Q'->R'->T'->AS}{F:P'->Q'->R'->T'->Prop}{M:P'->Q'->R'->T'->Nat}{m0:Nat}{K:AS->Prop}{k:List Fr}{s:AS}(hK:∀(s1:AS),∀(p2:P')(q2:Q')(r2:R')(t2:T'),F p2 q2 r2 t2->M p2 q2 r2 t2<m0->Wk s1 (S p2 q2 r2 t2)->K s1)(p0:P')(q0:Q')(r0:R')(t0:T')(hF:F p0 q0 r0 t0)
  (hl:M p0 q0 r0 t0<m0:=by first |omega |(dsimp only;omega)) (hw:Wk s (S p0 q0 r0 t0):=by exact Wk.o):Gd P N Q (.ex .normal (.lp K::k) s):=hK s p0 q0 r0 t0 hF hl hw
theorem ES{P' Q' R' T':Type}{S:P'->Q'->R'->T'->AS}{F:P'->Q'->R'->T'->Prop}{K:AS->Prop}{k:List Fr}{s:AS}(hK:∀(s1:AS),∀(p:P')(q:Q')(r:R')(t:T'),F p q r t->Wk s1 (S p q r t)->K s1)(p0:P')(q0:Q')(r0:R')(t0:T')(hF:F p0 q0 r0 t0)(hw:Wk s (S p0 q0 r0 t0):=by exact Wk.o):Gd P N Q (.ex .normal (.lp K::k) s):=hK s p0 q0 r0 t0 hF hw
theorem Ik{P' Q' R' T' U':Type}{S:P'->Q'->R'->T'->U'->AS}{F:P'->Q'->R'->T'->U'->Prop}{M:P'->Q'->R'->T'->U'->Nat}{m0:Nat}{K:AS->Prop}{k:List Fr}{s:AS}(hK:∀(s1:AS),∀(p2:P')(q2:Q')(r2:R')(t2:T')(u2:U'),F p2 q2 r2 t2 u2->M p2 q2 r2 t2 u2<m0->Wk s1 (S p2 q2 r2 t2 u2)->K s1)(p0:P')(q0:Q')(r0:R')(t0:T')(u0:U')(hF:F p0 q0 r0 t0 u0)
  (hl:M p0 q0 r0 t0 u0<m0:=by first |omega |(dsimp only;omega)) (hw:Wk s (S p0 q0 r0 t0 u0):=by exact Wk.o):Gd P N Q (.ex .normal (.lp K::k) s):=hK s p0 q0 r0 t0 u0 hF hl hw
variable[Inhabited (Tys P)]
def nZ(P:Program)[Inhabited (Tys P)](s:AS):List ResultVar->Option (List AV)
  |[]=>some []
  |r::rs=>match nZ P s rs with
    |some xs=>match r with
      | .tmp t=>match s.get t with
        |some x=>some (x::xs)
        |none=>none
      | .cell t T=>match s.get t with
        |some (.ptr k off)=>match s.blk k with
          |some (.box cs)=>match fR P T with
            |some ti=>match Nat.beq off 0&&Nat.ble ti.size cs.length with
              |true=>match td ti cs with
                |some v=>some (v::xs)
                |none=>none
              |false=>none
            |none=>none
          |_=>none
        |_=>none
    |none=>none
theorem D0{s:AS}:∀{rs:List ResultVar}{xs:List AV},nZ P s rs=some xs->ResL P s rs xs
 |[],xs,h=>by cases h;exact .nil
 |r::rs,xs,h=>by
  unfold nZ at h;split at h
  ·rename_i ys hy;have ih:=D0 hy;split at h
   ·split at h
    ·rename_i hx;cases h;exact .cons (.tmp hx) ih
    ·cases h
   ·split at h
    ·rename_i hx;split at h
     ·rename_i hk;split at h
      ·rename_i ti hti;split at h
       ·rename_i hc;simp only[XF]at hc;have:=XG hc.1;subst this;split at h
        ·rename_i v hv;cases h;obtain⟨h2,rfl⟩:=ym hv;exact .cons (.cell hx hk (fP hti) hc.2 h2) ih
        ·cases h
       ·cases h
      ·cases h
     ·cases h
    ·cases h
  ·cases h
theorem gR {rs : List ResultVar} {xs : List AV} {r : AV} {H' : Hp} {e : Exit} {s : AS} (h : az s (d7 xs) r H') (hx : nZ P s rs = some xs := by exact rfl) (he : wM e = true := by exact rfl) :
  Gd P N (lY P rs r H') (.ex e [] s):=by
 cases e <;> first |exact⟨xs,D0 hx,h⟩ |cases he
theorem af {rs : List ResultVar} {x r : AV} {e : Exit} {s : AS} (h : x = r) (hx : nZ P s rs = some [x] := by exact rfl) (he : wM e = true := by exact rfl) :
  Gd P N (lY P rs r []) (.ex e [] s):=gR (I7 h) hx he
theorem bp {rs : List ResultVar} {x y r : AV} {e : Exit} {s : AS} (h : .tup [x, y] = r) (hx : nZ P s rs = some [x, y] := by exact rfl) (he : wM e = true := by exact rfl) :
  Gd P N (lY P rs r []) (.ex e [] s):=gR (kl h) hx he
theorem wt {rs : List ResultVar} {x y z r : AV} {e : Exit} {s : AS} (h : .tup [x, y, z] = r) (hx : nZ P s rs = some [x, y, z] := by exact rfl) (he : wM e = true := by exact rfl) :
  Gd P N (lY P rs r []) (.ex e [] s):=gR (tR h) hx he
theorem cT{ob:List Prop}(h:AllP ob:=by repeat(first |exact AllP.nil |refine AllP.cons (by first |(intro h;(try simp only[pG]at h);simp only[h,beq_self_eq_true,Bool.and_self];done) |exact OW _ |exact .inl rfl |exact .inr ⟨_,_,rfl⟩ |(intro h;simp_all;done)) ?_)):AllP ob:=h
theorem go{c c':Cf}{ob:List Prop}(h:Gd P N Q c')(st:Nat×Nat:=(99999,0))(hr:run P N st 999 c []=some (c',ob):=by exact rfl)(ho:AllP ob:=by exact cT):Gd P N Q c:=(cI hr ho h).1
theorem gW{c:Code}{k:List Fr}{s s':AS}{c':Cf}{ob:List Prop}(hw:Wk s s')(h:Gd P N Q c')(st:Nat×Nat:=(99999,0))(hr:run P N st 999 (.code c k s') []=some (c',ob):=by exact rfl)(ho:AllP ob:=by exact cT):Gd P N Q (.code c k s):=rD hw (cI hr ho h).1
theorem gC{c:Operand}{x y:Code}{b:Bool}{k:List Fr}{s:AS}{c1 c2:Cf}{ob1 ob2:List Prop}(ht:b=true->Gd P N Q c1)(hf:b=false->Gd P N Q c2)(st1:Nat×Nat:=(99999,0))(st2:Nat×Nat:=(99999,0))
  (hc:Ev s c (.v (.bool b)):=by first |exact .tmp rfl |exact .const _) (hr1:run P N st1 999 (.code x k s) []=some (c1,ob1):=by exact rfl) (ho1:AllP ob1:=by exact cT) (hr2:run P N st2 999 (.code y k s) []=some (c2,ob2):=by exact rfl) (ho2:AllP ob2:=by exact cT) :
  Gd P N Q (.code (.cond c x y) k s):=SC hc (fun h=>(cI hr1 ho1 (ht h)).1) (fun h=>(cI hr2 ho2 (hf h)).1)
theorem gs {o : Oper} {u : Out} {id i : Nat} {R : List Oper} {draw : Bool} {s0 : AS} {ops : List Oper} {us : List Out} {k : List Fr} {s : AS} {c' : Cf} {ob : List Prop} (hs : Step P N R.toArray s o u) (h : Gd P N Q c') (st : Nat × Nat := (99999, 0)) (hn : jH s u := by first | exact wR rfl | exact iy) (hr : run P N st 999 (.ap o u id i R draw s0 ops us k s) [] = some (c', ob) := by exact rfl) (ho : AllP ob := by exact cT) :
  Gd P N Q (.ops id i R draw s0 (o::ops) us k s):=⟨u,hs,hn,(cI hr ho h).1⟩
theorem gt {w : Want} {rt : List Nat} {o : Oper} {u : Out} {id i : Nat} {R : List Oper} {draw : Bool} {s0 : AS} {ops : List Oper} {us : List Out} {k : List Fr} {s : AS} {c' : Cf} {ob : List Prop} (hs : Step P N R.toArray s o u) (h : Gd P N Q c') (st : Nat × Nat := (99999, 0)) (hn : jH s u := by first | exact wR rfl | exact iy) (hr : run P N st 999 (.ap o u id i R draw s0 ops us k s) [] = some (c', ob) := by exact rfl) (ho : AllP ob := by exact cT) :
  Gd P N Q (.st w rt o id i R draw s0 ops us k s):=fun _=>⟨u,hs,hn,(cI hr ho h).1⟩
theorem gu {G : Prop} {b : Bool} {w : Want} {rt : List Nat} {o : Oper} {u : Out} {id i : Nat} {R : List Oper} {draw : Bool} {s0 : AS} {ops : List Oper} {us : List Out} {k : List Fr} {s : AS} {c' : Cf} {ob : List Prop} (hs : Step P N R.toArray s o u) (h : Gd P N Q c') (st : Nat × Nat := (99999, 0)) (hn : jH s u := by first | exact wR rfl | exact iy) (hr : run P N st 999 (.ap o u id i R draw s0 ops us k s) [] = some (c', ob) := by exact rfl) (ho : AllP ob := by exact cT) :
  Gd P N Q (.sg G b w rt o id i R draw s0 ops us k s):=fun _=>⟨u,hs,hn,(cI hr ho h).1⟩
theorem ga {op : BinOp} {K : IntKind} {a b n : Int} {o : Oper} {rt : List Nat} {id i : Nat} {R : List Oper} {draw : Bool} {s0 : AS} {ops : List Oper} {us : List Out} {k : List Fr} {s : AS} {c' : Cf} {ob : List Prop} (he : K.wrap (fN op a b) = n) (h : Gd P N Q c') (st : Nat × Nat := (99999, 0)) (hr : run P N st 999 (.ap o ⟨some (.v (.int K n)), [], rt, []⟩ id i R draw s0 ops us k s) [] = some (c', ob) := by exact rfl) (ho : AllP ob := by exact cT) :
  Gd P N Q (.st (.ar op K a b) rt o id i R draw s0 ops us k s):=fun hst=>⟨⟨some (.v (.int K n)),[],rt,[]⟩,hst _ (⟨_,he,rfl⟩),iy,(cI hr ho h).1⟩
theorem oF {op : BinOp} {K : IntKind} {a b n : Int} {G : Prop} {b0 : Bool} {o : Oper} {rt : List Nat} {id i : Nat} {R : List Oper} {draw : Bool} {s0 : AS} {ops : List Oper} {us : List Out} {k : List Fr} {s : AS} {c' : Cf} {ob : List Prop} (he : G -> K.wrap (fN op a b) = n) (h : Gd P N Q c') (st : Nat × Nat := (99999, 0)) (hr : run P N st 999 (.ap o ⟨some (.opt b0 (.v (.int K n))), [], rt, []⟩ id i R draw s0 ops us k s) [] = some (c', ob) := by exact rfl) (ho : AllP ob := by exact cT) :
  Gd P N Q (.sg G b0 (.ar op K a b) rt o id i R draw s0 ops us k s):=fun hst=>⟨⟨some (.opt b0 (.v (.int K n))),[],rt,[]⟩,hst _ (fun hG=>⟨_,(he hG),rfl⟩),iy,(cI hr ho h).1⟩
theorem gv {K : IntKind} {n m : Int} {o : Oper} {rt : List Nat} {id i : Nat} {R : List Oper} {draw : Bool} {s0 : AS} {ops : List Oper} {us : List Out} {k : List Fr} {s : AS} {c' : Cf} {ob : List Prop} (he : K.wrap n = m) (h : Gd P N Q c') (st : Nat × Nat := (99999, 0)) (hr : run P N st 999 (.ap o ⟨some (.v (.int K m)), [], rt, []⟩ id i R draw s0 ops us k s) [] = some (c', ob) := by exact rfl) (ho : AllP ob := by exact cT) :
  Gd P N Q (.st (.cv K n) rt o id i R draw s0 ops us k s):=fun hst=>⟨⟨some (.v (.int K m)),[],rt,[]⟩,hst _ (⟨_,he,rfl⟩),iy,(cI hr ho h).1⟩
theorem Tv {K : IntKind} {n m : Int} {G : Prop} {b0 : Bool} {o : Oper} {rt : List Nat} {id i : Nat} {R : List Oper} {draw : Bool} {s0 : AS} {ops : List Oper} {us : List Out} {k : List Fr} {s : AS} {c' : Cf} {ob : List Prop} (he : G -> K.wrap n = m) (h : Gd P N Q c') (st : Nat × Nat := (99999, 0)) (hr : run P N st 999 (.ap o ⟨some (.opt b0 (.v (.int K m))), [], rt, []⟩ id i R draw s0 ops us k s) [] = some (c', ob) := by exact rfl) (ho : AllP ob := by exact cT) :
  Gd P N Q (.sg G b0 (.cv K n) rt o id i R draw s0 ops us k s):=fun hst=>⟨⟨some (.opt b0 (.v (.int K m))),[],rt,[]⟩,hst _ (fun hG=>⟨_,(he hG),rfl⟩),iy,(cI hr ho h).1⟩
theorem gl {α : Type} {f : α -> AV} {l : List α} {es : List AV} {o : Oper} {rt : List Nat} {id i : Nat} {R : List Oper} {draw : Bool} {s0 : AS} {ops : List Oper} {us : List Out} {k : List Fr} {s : AS} {c' : Cf} {ob : List Prop} (h : Gd P N Q c') (st : Nat × Nat := (99999, 0)) (he : es = l.map f := by exact rfl) (hr : run P N st 999 (.ap o ⟨some (.v (.int .i64 (l.length : Nat))), [], rt, []⟩ id i R draw s0 ops us k s) [] = some (c', ob) := by exact rfl) (ho : AllP ob := by exact cT) :
  Gd P N Q (.st (.ln es) rt o id i R draw s0 ops us k s):=fun hst=>⟨⟨some (.v (.int .i64 (l.length:Nat))),[],rt,[]⟩,hst _ (⟨_,(by rw[he,XA]),rfl⟩),iy,(cI hr ho h).1⟩
theorem cQ {α : Type} {f : α -> AV} {l : List α} {es : List AV} {G : Prop} {b0 : Bool} {o : Oper} {rt : List Nat} {id i : Nat} {R : List Oper} {draw : Bool} {s0 : AS} {ops : List Oper} {us : List Out} {k : List Fr} {s : AS} {c' : Cf} {ob : List Prop} (h : Gd P N Q c') (st : Nat × Nat := (99999, 0)) (he : G -> es = l.map f := by intro h; exact rfl) (hr : run P N st 999 (.ap o ⟨some (.opt b0 (.v (.int .i64 (l.length : Nat)))), [], rt, []⟩ id i R draw s0 ops us k s) [] = some (c', ob) := by exact rfl) (ho : AllP ob := by exact cT) :
  Gd P N Q (.sg G b0 (.ln es) rt o id i R draw s0 ops us k s):=fun hst=>⟨⟨some (.opt b0 (.v (.int .i64 (l.length:Nat)))),[],rt,[]⟩,hst _ (fun hG=>⟨_,(by rw[(he hG),XA]),rfl⟩),iy,(cI hr ho h).1⟩
theorem ge {n : Nat} {es : List AV} {o : Oper} {rt : List Nat} {id i : Nat} {R : List Oper} {draw : Bool} {s0 : AS} {ops : List Oper} {us : List Out} {k : List Fr} {s : AS} {c' : Cf} {ob : List Prop} (he : es.length = n) (h : Gd P N Q c') (st : Nat × Nat := (99999, 0)) (hr : run P N st 999 (.ap o ⟨some (.v (.int .i64 n)), [], rt, []⟩ id i R draw s0 ops us k s) [] = some (c', ob) := by exact rfl) (ho : AllP ob := by exact cT) :
  Gd P N Q (.st (.ln es) rt o id i R draw s0 ops us k s):=fun hst=>⟨⟨some (.v (.int .i64 n)),[],rt,[]⟩,hst _ (⟨_,he,rfl⟩),iy,(cI hr ho h).1⟩
theorem gi {es : List AV} {e : AV} {z : Int} {o : Oper} {rt : List Nat} {id i : Nat} {R : List Oper} {draw : Bool} {s0 : AS} {ops : List Oper} {us : List Out} {k : List Fr} {s : AS} {c' : Cf} {ob : List Prop} (he : es[z.toNat]? = some e) (h : Gd P N Q c') (st : Nat × Nat := (99999, 0)) (h0 : 0 <= z := by omega) (hr : run P N st 999 (.ap o ⟨some (.iptr e.cells), [], rt, []⟩ id i R draw s0 ops us k s) [] = some (c', ob) := by exact rfl) (ho : AllP ob := by exact cT) :
  Gd P N Q (.st (.ix es z) rt o id i R draw s0 ops us k s):=fun hst=>⟨⟨some (.iptr e.cells),[],rt,[]⟩,hst _ (⟨h0,_,he,rfl⟩),iy,(cI hr ho h).1⟩
theorem oO {es : List AV} {e : AV} {z : Int} {G : Prop} {b0 : Bool} {o : Oper} {rt : List Nat} {id i : Nat} {R : List Oper} {draw : Bool} {s0 : AS} {ops : List Oper} {us : List Out} {k : List Fr} {s : AS} {c' : Cf} {ob : List Prop} (he : G -> es[z.toNat]? = some e) (h : Gd P N Q c') (st : Nat × Nat := (99999, 0)) (h0 : G -> 0 <= z := by intro h; omega) (hr : run P N st 999 (.ap o ⟨some (.opt b0 (.iptr e.cells)), [], rt, []⟩ id i R draw s0 ops us k s) [] = some (c', ob) := by exact rfl) (ho : AllP ob := by exact cT) :
  Gd P N Q (.sg G b0 (.ix es z) rt o id i R draw s0 ops us k s):=fun hst=>⟨⟨some (.opt b0 (.iptr e.cells)),[],rt,[]⟩,hst _ (fun hG=>⟨(h0 hG),_,(he hG),rfl⟩),iy,(cI hr ho h).1⟩
theorem gc {f : FuncId} {xs : List AV} {r : AV} {o : Oper} {rt : List Nat} {id i : Nat} {R : List Oper} {draw : Bool} {s0 : AS} {ops : List Oper} {us : List Out} {k : List Fr} {s : AS} {c' : Cf} {ob : List Prop} (hc : gO P f xs r) (h : Gd P N Q c') (st : Nat × Nat := (99999, 0)) (hnm : r.nm = [] := by exact rfl) (hr : run P N st 999 (.ap o ⟨some (r), [], rt, []⟩ id i R draw s0 ops us k s) [] = some (c', ob) := by exact rfl) (ho : AllP ob := by exact cT) :
  Gd P N Q (.st (.cl f xs) rt o id i R draw s0 ops us k s):=fun hst=>⟨⟨some (r),[],rt,[]⟩,hst _ (⟨hc,hnm⟩),iy,(cI hr ho h).1⟩
theorem b7 {f : FuncId} {xs : List AV} {r : AV} {G : Prop} {b0 : Bool} {o : Oper} {rt : List Nat} {id i : Nat} {R : List Oper} {draw : Bool} {s0 : AS} {ops : List Oper} {us : List Out} {k : List Fr} {s : AS} {c' : Cf} {ob : List Prop} (hc : G -> gO P f xs r) (h : Gd P N Q c') (st : Nat × Nat := (99999, 0)) (hnm : G -> r.nm = [] := by intro h; exact rfl) (hr : run P N st 999 (.ap o ⟨some (.opt b0 (r)), [], rt, []⟩ id i R draw s0 ops us k s) [] = some (c', ob) := by exact rfl) (ho : AllP ob := by exact cT) :
  Gd P N Q (.sg G b0 (.cl f xs) rt o id i R draw s0 ops us k s):=fun hst=>⟨⟨some (.opt b0 (r)),[],rt,[]⟩,hst _ (fun hG=>⟨(hc hG),(hnm hG)⟩),iy,(cI hr ho h).1⟩
theorem gD {id i : Nat} {R : List Oper} {s0 : AS} {us : List Out} {k : List Fr} {s : AS} {c' : Cf} {ob : List Prop} (h : Gd P N Q c') (st : Nat × Nat := (99999, 0)) (hc : chk R us s0 = true := by kernel_rfl) (hr : run P N st 999 (.ex .normal k s) [] = some (c', ob) := by exact rfl) (ho : AllP ob := by exact cT) :
  Gd P N Q (.ops id i R true s0 [] us k s):=by
 simp only[Gd,gk];exact⟨fun _=>hc,(cI hr ho h).1⟩
theorem gF{f:FuncId}{fn:Func}{c:Code}{args:List AV}{H:Hp}{r:AV}{H':Hp}{sl:bO}{c':Cf}{ob:List Prop}(hf:P.funcs[f]?=some fn)(hH:∀k z,lk H k=some z->1000<=k)
  (h : Gd P fn.ntmps (lY P fn.results.toList r H') c') (st : Nat × Nat := (99999, 0)) (hb : fn.body = some c := by exact rfl) (hn : (fn.name == "runtime.NumGoroutine") = false := by exact rfl)
  (hs:uv 0 args=some sl:=by exact rfl) (hr:run P fn.ntmps st 999 (.code c [] ⟨sl,H⟩) []=some (c',ob):=by exact rfl) (ho:AllP ob:=by exact cT):Con P f args H r H':=Ir hf hb hn (by simp) rfl hH (x8 hs▸(cI hr ho h).1)
theorem aj{f:FuncId}{fn:Func}{c:Code}{args:List AV}{r:AV}{sl:bO}{c':Cf}{ob:List Prop}(hf:P.funcs[f]?=some fn)
  (h : Gd P fn.ntmps (lY P fn.results.toList r []) c') (st : Nat × Nat := (99999, 0)) (hb : fn.body = some c := by exact rfl) (hn : (fn.name == "runtime.NumGoroutine") = false := by exact rfl)
  (hs:uv 0 args=some sl:=by exact rfl) (hr:run P fn.ntmps st 999 (.code c [] ⟨sl,[]⟩) []=some (c',ob):=by exact rfl) (ho:AllP ob:=by exact cT):gO P f args r:=Wy hf hb hn (by simp) rfl (x8 hs▸(cI hr ho h).1)
theorem NZ{c:Code}{k:List Fr}{s:AS}{sl:bO}{hp:Hp}{C:(AS->Prop)->Cf}{ob:(AS->Prop)->List Prop}(ks kh:List Nat)(f:bO)(g:Hp)(F:Prop)(M:Nat)(hF:F)
  (h:F->∀K:AS->Prop,(∀(s1:AS),F->M<M->Wk s1 ⟨f++sl,g++hp⟩->K s1)->Gd P N Q (C K)) (st:Nat×Nat:=(99999,0)) (hs:pk s.sl ks=some sl:=by exact rfl) (hh:pk s.hp kh=some hp:=by exact rfl)
  (h1:SlW s.sl (f):=by exact aZ) (h2:HpW s.hp (g):=by repeat(first |exact HpW.nil |refine HpW.cons rfl (.refl _) ?_)) (hr:∀K,run P N st 999 (.code c (.lp K::k) ⟨f++sl,g++hp⟩) []=some (C K,ob K):=by intros;exact rfl) (ho:∀K,AllP (ob K):=by intros;exact cT):Gd P N Q (.code (.loop c) k s):=by
 refine rv (fun n s =>  M=n/\F/\s=⟨f++sl,g++hp⟩) (Wk.p h1 h2 hs hh) ⟨rfl,hF,rfl⟩ ?_;rintro n s ⟨rfl,hF,rfl⟩ K hK;exact jr (cI (hr K) (ho K) (h hF K (fun s1 h1 h2 h3=>hK s1 _ _ h3 ⟨rfl,h1,rfl⟩ h2))).1 (fun e s he=>by cases e <;> exact he)
theorem BK{c y:Code}{k k1 k2:List Fr}{s:AS}{sl:bO}{hp:Hp}{c1:(AS->Prop)->Cf}{ob1:(AS->Prop)->List Prop}{c2:Cf}{ob2:List Prop}(ks kh:List Nat)(f:bO)(g:Hp)(F:Prop)(h1:∀K:AS->Prop,(∀(s1:AS),F->Wk s1 ⟨f++sl,g++hp⟩->K s1)->Gd P N Q (c1 K))
  (h2:F->Gd P N Q (c2)) (n:Nat:=0) (st1:Nat×Nat:=(99999,0)) (st2:Nat×Nat:=(99999,0)) (hk:lD n k=some (k1,y,k2):=by exact rfl) (hs:pk s.sl ks=some sl:=by exact rfl) (hh:pk s.hp kh=some hp:=by exact rfl) (hr1:∀K,run P N st1 999 (.code c (k1 ++ .lp K::k2) s) []=some (c1 K,ob1 K):=by intros;exact rfl) (ho1:∀K,AllP (ob1 K):=by intros;exact cT) (hr2:run P N st2 999 (.code y k2 ⟨f++sl,g++hp⟩) []=some (c2,ob2):=by intros;exact rfl) (ho2:AllP (ob2):=by intros;exact cT):Gd P N Q (.code c k s):=by
 rw[un hk];exact jr (cI (hr1 (fun s=>bQ P N y (cE P N Q k2) s)) (ho1 _) (h1 (fun s=>bQ P N y (cE P N Q k2) s) (fun s1 hF hw=>rD hw (cI (hr2) (ho2) (h2 hF)).1))).1 (fun e s=>kX (fun s h=>h) k1 e s)
theorem aW{P':Type}{c:Code}{k:List Fr}{s:AS}{sl:bO}{hp:Hp}{C:P'->(AS->Prop)->Cf}{ob:P'->(AS->Prop)->List Prop}(ks kh:List Nat)(f:P'->bO)(g:P'->Hp)(F:P'->Prop)(M:P'->Nat)(p0:P')(hF:F p0)
  (h:∀(p:P'),F p->∀K:AS->Prop,(∀(s1:AS),∀(p2:P'),F p2->M p2<M p->Wk s1 ⟨f p2++sl,g p2++hp⟩->K s1)->Gd P N Q (C p K)) (st:Nat×Nat:=(99999,0)) (hs:pk s.sl ks=some sl:=by exact rfl) (hh:pk s.hp kh=some hp:=by exact rfl)
  (h1:SlW s.sl (f p0):=by exact aZ) (h2:HpW s.hp (g p0):=by repeat(first |exact HpW.nil |refine HpW.cons rfl (.refl _) ?_)) (hr:∀(p:P'),∀K,run P N st 999 (.code c (.lp K::k) ⟨f p++sl,g p++hp⟩) []=some (C p K,ob p K):=by intros;exact rfl) (ho:∀(p:P'),∀K,AllP (ob p K):=by intros;exact cT):Gd P N Q (.code (.loop c) k s):=by
 refine rv (fun n s=>∃(p:P'),M p=n/\F p/\s=⟨f p++sl,g p++hp⟩) (Wk.p h1 h2 hs hh) ⟨p0,rfl,hF,rfl⟩ ?_;rintro n s ⟨p,rfl,hF,rfl⟩ K hK;exact jr (cI (hr p K) (ho p K) (h p hF K (fun s1 p2 h1 h2 h3=>hK s1 _ _ h3 ⟨p2,rfl,h1,rfl⟩ h2))).1 (fun e s he=>by cases e <;> exact he)
theorem Av{P':Type}{c y:Code}{k k1 k2:List Fr}{s:AS}{sl:bO}{hp:Hp}{c1:(AS->Prop)->Cf}{ob1:(AS->Prop)->List Prop}{c2:P'->Cf}{ob2:P'->List Prop}(ks kh:List Nat)(f:P'->bO)(g:P'->Hp)(F:P'->Prop)(h1:∀K:AS->Prop,(∀(s1:AS),∀(p:P'),F p->Wk s1 ⟨f p++sl,g p++hp⟩->K s1)->Gd P N Q (c1 K))
  (h2:∀(p:P'),F p->Gd P N Q (c2 p)) (n:Nat:=0) (st1:Nat×Nat:=(99999,0)) (st2:Nat×Nat:=(99999,0)) (hk:lD n k=some (k1,y,k2):=by exact rfl) (hs:pk s.sl ks=some sl:=by exact rfl) (hh:pk s.hp kh=some hp:=by exact rfl) (hr1:∀K,run P N st1 999 (.code c (k1 ++ .lp K::k2) s) []=some (c1 K,ob1 K):=by intros;exact rfl) (ho1:∀K,AllP (ob1 K):=by intros;exact cT) (hr2:∀(p:P'),run P N st2 999 (.code y k2 ⟨f p++sl,g p++hp⟩) []=some (c2 p,ob2 p):=by intros;exact rfl) (ho2:∀(p:P'),AllP (ob2 p):=by intros;exact cT):Gd P N Q (.code c k s):=by
 rw[un hk];exact jr (cI (hr1 (fun s=>bQ P N y (cE P N Q k2) s)) (ho1 _) (h1 (fun s=>bQ P N y (cE P N Q k2) s) (fun s1 p hF hw=>rD hw (cI (hr2 p) (ho2 p) (h2 p hF)).1))).1 (fun e s=>kX (fun s h=>h) k1 e s)
theorem gz{P' Q':Type}{c:Code}{k:List Fr}{s:AS}{sl:bO}{hp:Hp}{C:P'->Q'->(AS->Prop)->Cf}{ob:P'->Q'->(AS->Prop)->List Prop}(ks kh:List Nat)(f:P'->Q'->bO)(g:P'->Q'->Hp)(F:P'->Q'->Prop)(M:P'->Q'->Nat)(p0:P')(q0:Q')(hF:F p0 q0)
  (h:∀(p:P')(q:Q'),F p q->∀K:AS->Prop,(∀(s1:AS),∀(p2:P')(q2:Q'),F p2 q2->M p2 q2<M p q->Wk s1 ⟨f p2 q2++sl,g p2 q2++hp⟩->K s1)->Gd P N Q (C p q K)) (st:Nat×Nat:=(99999,0)) (hs:pk s.sl ks=some sl:=by exact rfl) (hh:pk s.hp kh=some hp:=by exact rfl)
  (h1:SlW s.sl (f p0 q0):=by exact aZ) (h2:HpW s.hp (g p0 q0):=by repeat(first |exact HpW.nil |refine HpW.cons rfl (.refl _) ?_)) (hr:∀(p:P')(q:Q'),∀K,run P N st 999 (.code c (.lp K::k) ⟨f p q++sl,g p q++hp⟩) []=some (C p q K,ob p q K):=by intros;exact rfl) (ho:∀(p:P')(q:Q'),∀K,AllP (ob p q K):=by intros;exact cT):Gd P N Q (.code (.loop c) k s):=by
 refine rv (fun n s=>∃(p:P')(q:Q'),M p q=n/\F p q/\s=⟨f p q++sl,g p q++hp⟩) (Wk.p h1 h2 hs hh) ⟨p0,q0,rfl,hF,rfl⟩ ?_;rintro n s ⟨p,q,rfl,hF,rfl⟩ K hK;exact jr (cI (hr p q K) (ho p q K) (h p q hF K (fun s1 p2 q2 h1 h2 h3=>hK s1 _ _ h3 ⟨p2,q2,rfl,h1,rfl⟩ h2))).1 (fun e s he=>by cases e <;> exact he)
theorem yc{P' Q':Type}{c y:Code}{k k1 k2:List Fr}{s:AS}{sl:bO}{hp:Hp}{c1:(AS->Prop)->Cf}{ob1:(AS->Prop)->List Prop}{c2:P'->Q'->Cf}{ob2:P'->Q'->List Prop}(ks kh:List Nat)(f:P'->Q'->bO)(g:P'->Q'->Hp)(F:P'->Q'->Prop)(h1:∀K:AS->Prop,(∀(s1:AS),∀(p:P')(q:Q'),F p q->Wk s1 ⟨f p q++sl,g p q++hp⟩->K s1)->Gd P N Q (c1 K))
  (h2:∀(p:P')(q:Q'),F p q->Gd P N Q (c2 p q)) (n:Nat:=0) (st1:Nat×Nat:=(99999,0)) (st2:Nat×Nat:=(99999,0)) (hk:lD n k=some (k1,y,k2):=by exact rfl) (hs:pk s.sl ks=some sl:=by exact rfl) (hh:pk s.hp kh=some hp:=by exact rfl) (hr1:∀K,run P N st1 999 (.code c (k1 ++ .lp K::k2) s) []=some (c1 K,ob1 K):=by intros;exact rfl) (ho1:∀K,AllP (ob1 K):=by intros;exact cT) (hr2:∀(p:P')(q:Q'),run P N st2 999 (.code y k2 ⟨f p q++sl,g p q++hp⟩) []=some (c2 p q,ob2 p q):=by intros;exact rfl) (ho2:∀(p:P')(q:Q'),AllP (ob2 p q):=by intros;exact cT):Gd P N Q (.code c k s):=by
 rw[un hk];exact jr (cI (hr1 (fun s=>bQ P N y (cE P N Q k2) s)) (ho1 _) (h1 (fun s=>bQ P N y (cE P N Q k2) s) (fun s1 p q hF hw=>rD hw (cI (hr2 p q) (ho2 p q) (h2 p q hF)).1))).1 (fun e s=>kX (fun s h=>h) k1 e s)
theorem iQ{P' Q' R':Type}{c:Code}{k:List Fr}{s:AS}{sl:bO}{hp:Hp}{C:P'->Q'->R'->(AS->Prop)->Cf}{ob:P'->Q'->R'->(AS->Prop)->List Prop}(ks kh:List Nat)(f:P'->Q'->R'->bO)(g:P'->Q'->R'->Hp)(F:P'->Q'->R'->Prop)(M:P'->Q'->R'->Nat)(p0:P')(q0:Q')(r0:R')(hF:F p0 q0 r0)
  (h:∀(p:P')(q:Q')(r:R'),F p q r->∀K:AS->Prop,(∀(s1:AS),∀(p2:P')(q2:Q')(r2:R'),F p2 q2 r2->M p2 q2 r2<M p q r->Wk s1 ⟨f p2 q2 r2++sl,g p2 q2 r2++hp⟩->K s1)->Gd P N Q (C p q r K)) (st:Nat×Nat:=(99999,0)) (hs:pk s.sl ks=some sl:=by exact rfl) (hh:pk s.hp kh=some hp:=by exact rfl)
  (h1:SlW s.sl (f p0 q0 r0):=by exact aZ) (h2:HpW s.hp (g p0 q0 r0):=by repeat(first |exact HpW.nil |refine HpW.cons rfl (.refl _) ?_)) (hr:∀(p:P')(q:Q')(r:R'),∀K,run P N st 999 (.code c (.lp K::k) ⟨f p q r++sl,g p q r++hp⟩) []=some (C p q r K,ob p q r K):=by intros;exact rfl) (ho:∀(p:P')(q:Q')(r:R'),∀K,AllP (ob p q r K):=by intros;exact cT):Gd P N Q (.code (.loop c) k s):=by
 refine rv (fun n s=>∃(p:P')(q:Q')(r:R'),M p q r=n/\F p q r/\s=⟨f p q r++sl,g p q r++hp⟩) (Wk.p h1 h2 hs hh) ⟨p0,q0,r0,rfl,hF,rfl⟩ ?_;rintro n s ⟨p,q,r,rfl,hF,rfl⟩ K hK;exact jr (cI (hr p q r K) (ho p q r K) (h p q r hF K (fun s1 p2 q2 r2 h1 h2 h3=>hK s1 _ _ h3 ⟨p2,q2,r2,rfl,h1,rfl⟩ h2))).1 (fun e s he=>by cases e <;> exact he)
theorem WJ{P' Q' R' T':Type}{c:Code}{k:List Fr}{s:AS}{sl:bO}{hp:Hp}{C:P'->Q'->R'->T'->(AS->Prop)->Cf}{ob:P'->Q'->R'->T'->(AS->Prop)->List Prop}(ks kh:List Nat)(f:P'->Q'->R'->T'->bO)(g:P'->Q'->R'->T'->Hp)(F:P'->Q'->R'->T'->Prop)(M:P'->Q'->R'->T'->Nat)(p0:P')(q0:Q')(r0:R')(t0:T')(hF:F p0 q0 r0 t0)
  (h:∀(p:P')(q:Q')(r:R')(t:T'),F p q r t->∀K:AS->Prop,(∀(s1:AS),∀(p2:P')(q2:Q')(r2:R')(t2:T'),F p2 q2 r2 t2->M p2 q2 r2 t2<M p q r t->Wk s1 ⟨f p2 q2 r2 t2++sl,g p2 q2 r2 t2++hp⟩->K s1)->Gd P N Q (C p q r t K)) (st:Nat×Nat:=(99999,0)) (hs:pk s.sl ks=some sl:=by exact rfl) (hh:pk s.hp kh=some hp:=by exact rfl)
  (h1:SlW s.sl (f p0 q0 r0 t0):=by exact aZ) (h2:HpW s.hp (g p0 q0 r0 t0):=by repeat(first |exact HpW.nil |refine HpW.cons rfl (.refl _) ?_)) (hr:∀(p:P')(q:Q')(r:R')(t:T'),∀K,run P N st 999 (.code c (.lp K::k) ⟨f p q r t++sl,g p q r t++hp⟩) []=some (C p q r t K,ob p q r t K):=by intros;exact rfl) (ho:∀(p:P')(q:Q')(r:R')(t:T'),∀K,AllP (ob p q r t K):=by intros;exact cT):Gd P N Q (.code (.loop c) k s):=by
 refine rv (fun n s=>∃(p:P')(q:Q')(r:R')(t:T'),M p q r t=n/\F p q r t/\s=⟨f p q r t++sl,g p q r t++hp⟩) (Wk.p h1 h2 hs hh) ⟨p0,q0,r0,t0,rfl,hF,rfl⟩ ?_;rintro n s ⟨p,q,r,t,rfl,hF,rfl⟩ K hK;exact jr (cI (hr p q r t K) (ho p q r t K) (h p q r t hF K (fun s1 p2 q2 r2 t2 h1 h2 h3=>hK s1 _ _ h3 ⟨p2,q2,r2,t2,rfl,h1,rfl⟩ h2))).1 (fun e s he=>by cases e <;> exact he)
theorem JZ{P' Q' R' T':Type}{c y:Code}{k k1 k2:List Fr}{s:AS}{sl:bO}{hp:Hp}{c1:(AS->Prop)->Cf}{ob1:(AS->Prop)->List Prop}{c2:P'->Q'->R'->T'->Cf}{ob2:P'->Q'->R'->T'->List Prop}(ks kh:List Nat)(f:P'->Q'->R'->T'->bO)(g:P'->Q'->R'->T'->Hp)(F:P'->Q'->R'->T'->Prop)(h1:∀K:AS->Prop,(∀(s1:AS),∀(p:P')(q:Q')(r:R')(t:T'),F p q r t->Wk s1 ⟨f p q r t++sl,g p q r t++hp⟩->K s1)->Gd P N Q (c1 K))
  (h2:∀(p:P')(q:Q')(r:R')(t:T'),F p q r t->Gd P N Q (c2 p q r t)) (n:Nat:=0) (st1:Nat×Nat:=(99999,0)) (st2:Nat×Nat:=(99999,0)) (hk:lD n k=some (k1,y,k2):=by exact rfl) (hs:pk s.sl ks=some sl:=by exact rfl) (hh:pk s.hp kh=some hp:=by exact rfl) (hr1:∀K,run P N st1 999 (.code c (k1 ++ .lp K::k2) s) []=some (c1 K,ob1 K):=by intros;exact rfl) (ho1:∀K,AllP (ob1 K):=by intros;exact cT) (hr2:∀(p:P')(q:Q')(r:R')(t:T'),run P N st2 999 (.code y k2 ⟨f p q r t++sl,g p q r t++hp⟩) []=some (c2 p q r t,ob2 p q r t):=by intros;exact rfl) (ho2:∀(p:P')(q:Q')(r:R')(t:T'),AllP (ob2 p q r t):=by intros;exact cT):Gd P N Q (.code c k s):=by
 rw[un hk];exact jr (cI (hr1 (fun s=>bQ P N y (cE P N Q k2) s)) (ho1 _) (h1 (fun s=>bQ P N y (cE P N Q k2) s) (fun s1 p q r t hF hw=>rD hw (cI (hr2 p q r t) (ho2 p q r t) (h2 p q r t hF)).1))).1 (fun e s=>kX (fun s h=>h) k1 e s)
theorem GC{P' Q' R' T' U':Type}{c:Code}{k:List Fr}{s:AS}{sl:bO}{hp:Hp}{C:P'->Q'->R'->T'->U'->(AS->Prop)->Cf}{ob:P'->Q'->R'->T'->U'->(AS->Prop)->List Prop}(ks kh:List Nat)(f:P'->Q'->R'->T'->U'->bO)(g:P'->Q'->R'->T'->U'->Hp)(F:P'->Q'->R'->T'->U'->Prop)(M:P'->Q'->R'->T'->U'->Nat)(p0:P')(q0:Q')(r0:R')(t0:T')(u0:U')(hF:F p0 q0 r0 t0 u0)
  (h:∀(p:P')(q:Q')(r:R')(t:T')(u:U'),F p q r t u->∀K:AS->Prop,(∀(s1:AS),∀(p2:P')(q2:Q')(r2:R')(t2:T')(u2:U'),F p2 q2 r2 t2 u2->M p2 q2 r2 t2 u2<M p q r t u->Wk s1 ⟨f p2 q2 r2 t2 u2++sl,g p2 q2 r2 t2 u2++hp⟩->K s1)->Gd P N Q (C p q r t u K)) (st:Nat×Nat:=(99999,0)) (hs:pk s.sl ks=some sl:=by exact rfl) (hh:pk s.hp kh=some hp:=by exact rfl)
  (h1:SlW s.sl (f p0 q0 r0 t0 u0):=by exact aZ) (h2:HpW s.hp (g p0 q0 r0 t0 u0):=by repeat(first |exact HpW.nil |refine HpW.cons rfl (.refl _) ?_)) (hr:∀(p:P')(q:Q')(r:R')(t:T')(u:U'),∀K,run P N st 999 (.code c (.lp K::k) ⟨f p q r t u++sl,g p q r t u++hp⟩) []=some (C p q r t u K,ob p q r t u K):=by intros;exact rfl) (ho:∀(p:P')(q:Q')(r:R')(t:T')(u:U'),∀K,AllP (ob p q r t u K):=by intros;exact cT):Gd P N Q (.code (.loop c) k s):=by
 refine rv (fun n s=>∃(p:P')(q:Q')(r:R')(t:T')(u:U'),M p q r t u=n/\F p q r t u/\s=⟨f p q r t u++sl,g p q r t u++hp⟩) (Wk.p h1 h2 hs hh) ⟨p0,q0,r0,t0,u0,rfl,hF,rfl⟩ ?_;rintro n s ⟨p,q,r,t,u,rfl,hF,rfl⟩ K hK;exact jr (cI (hr p q r t u K) (ho p q r t u K) (h p q r t u hF K (fun s1 p2 q2 r2 t2 u2 h1 h2 h3=>hK s1 _ _ h3 ⟨p2,q2,r2,t2,u2,rfl,h1,rfl⟩ h2))).1 (fun e s he=>by cases e <;> exact he)
end Go.Lw
namespace Go.Lw
open Go.Proofs
instance:Inhabited (Tys prog):=⟨⟨_,(.nd (.nd (.nd (.nd (.nd (.nd .lf T3 .lf) T4 (.nd .lf T5 .lf)) T9 (.nd (.nd .lf T22 .lf) T23 (.nd .lf T24 .lf))) T26 (.nd (.nd (.nd .lf T32 .lf) T35 (.nd .lf T37 .lf)) T38 (.nd (.nd .lf T39 .lf) T41 (.nd .lf T43 .lf)))) T45 (.nd (.nd (.nd (.nd .lf T47 .lf) T49 (.nd .lf T53 .lf)) T54 (.nd (.nd .lf T56 .lf) T60 (.nd .lf T62 .lf))) T66 (.nd (.nd (.nd .lf T67 .lf) T69 (.nd .lf T75 .lf)) T77 (.nd (.nd .lf T85 .lf) T88 .lf)))) T92 (.nd (.nd (.nd (.nd (.nd .lf T127 .lf) T133 (.nd .lf T136 .lf)) T142 (.nd (.nd .lf T152 .lf) T171 (.nd .lf T173 .lf))) T175 (.nd (.nd (.nd .lf T181 .lf) T183 (.nd .lf T185 .lf)) T219 (.nd (.nd .lf T237 .lf) T239 .lf))) T254 (.nd (.nd (.nd (.nd .lf T262 .lf) T274 (.nd .lf T309 .lf)) T318 (.nd (.nd .lf T323 .lf) T328 (.nd .lf T331 .lf))) T337 (.nd (.nd (.nd .lf T340 .lf) T348 (.nd .lf T350 .lf)) T380 (.nd (.nd .lf T395 .lf) T401 .lf))))),Vh⟩⟩
section
variable{P:Program}{W:World}{H:Type}{enc:TypeId×Value->H}
abbrev I0:Nat->Prop:=fun _=>False
abbrev Gw(W:World):Nat->Array Value->Prop:=Im I0 [] dl W
abbrev mY(W:World)(cs:List Value)(xs:List AV):Prop:=dx (Gw W) (Sz W) dl cs xs
theorem TT{b:Nat}{c:Array Value}{t:TypeId}{fr:Nat×Nat}(h:W.heap[b]?=some (.cells c t fr)):Gw W b c :=
 ⟨fun h=>h,fun⟨k,x,h,_⟩=>by(cases h),t,fr,h⟩
def dw(P:Program)(W:World)(enc:TypeId×Value->H)(t:TypeId){α:Type}(f:α->AV)(p:α->Prop):Prop :=
  ∀(sp:Nat->Bool)(fuel:Nat)(cs:List Value)(x:DataW H×List MemPlace),DataW.trod enc P W 0 sp true fuel t cs=some x->(∀n∈x.1.weights P t,n<=reachBytes)->∃a,p a/\mY W cs (f a).cells
theorem sQ{v:Value}{x:AV}(h:Rep (Gw W) (Sz W) dl v x)(h1:x.one=true):mY W [v] [x]:=by
 refine⟨rfl,fun j y hy=>?_,fun j u y hu hy=>?_⟩
 ·match j,hy with
  |0,hy=>cases hy;exact h1
 ·match j,hu,hy with
  |0,hu,hy=>cases hu;cases hy;exact h
theorem P4{t:TypeId}(ht:P.underlying t=some .bool):dw P W enc t (fun b:Bool=>AV.v (.bool b)) (fun _=>True):=by
 intro sp fuel cs x h hwt;obtain⟨b,rfl,_⟩:=DataW.trod_bool ht h;exact⟨b,trivial,sQ (.v _) rfl⟩
theorem FX{t:TypeId}{k:IntKind}(ht:P.underlying t=some (.int k)):dw P W enc t (fun n:Int=>AV.v (.int k n)) (fun n=>(Lit.int k n).wf=true):=by
 intro sp fuel cs x h hwt;obtain⟨n,rfl,_,hw⟩:=DataW.trod_int ht h;exact⟨n,hw,sQ (.v _) rfl⟩
theorem RV{t:TypeId}(ht:P.underlying t=some .string):dw P W enc t (fun s:ByteArray=>AV.v (.string s)) (fun s=>s.size<=281474976710656):=by
 intro sp fuel cs x h hwt;obtain⟨s,rfl,hx,hs⟩:=DataW.trod_string ht h;have h1:=hwt s.data.toList.length (by rw[hx];simp[DataW.weights]);have h2:s.data.toList.length=s.size:=rfl;exact⟨s,by rw[h2]at h1;exact XW h1 (by decide),sQ (.v _) rfl⟩
theorem dw.map{α β:Type}{t:TypeId}{f:α->AV}{p:α->Prop}(h:dw P W enc t f p)(g:α->β)(f':β->AV)(p':β->Prop)(hg:∀a,p a->p' (g a)/\f' (g a)=f a):dw P W enc t f' p':=by
 intro sp fuel cs x hx hwt;obtain⟨a,ha,hc⟩:=h sp fuel cs x hx hwt;obtain⟨h1,h2⟩:=hg a ha;exact⟨g a,h1,by rw[h2];exact hc⟩
theorem VJ{cs:List Value}{off n m:Nat}{xs ys:List AV}(h1:mY W ((cs.drop off).take n) xs)(hx:xs.length=n)(h2:mY W ((cs.drop (off+n)).take m) ys) :
  mY W ((cs.drop off).take (n+m)) (xs++ys):=by
 have e:(cs.drop off).take (n+m)=(cs.drop off).take n++(cs.drop (off+n)).take m:=by
  rw[List.take_add,drop_drop]
 have hl:((cs.drop off).take n).length=n:=by rw[h1.1,hx]
 rw[e];refine⟨by simp only[XZ,h1.1,h2.1],fun j y hy=>?_,fun j u y hu hy=>?_⟩
 ·rcases XH j xs.length with g |g
  ·rw[XU g]at hy;exact h1.2.1 j y hy
  ·rw[XT g]at hy;exact h2.2.1 _ y hy
 ·rcases XH j xs.length with g |g
  ·rw[XU g]at hy;rw[XU oz]at hu;exact h1.2.2 j u y hu hy
  ·rw[XT g]at hy;rw[XT oz,hl]at hu;exact h2.2.2 (j-n) u y hu (by rw[<- hx];exact hy)
inductive FlOk(P:Program)(W:World)(enc:TypeId×Value->H):List Field->Nat->{α:Type}->(α->List AV)->(α->Prop)->Prop
  |nil (off:Nat):FlOk P W enc [] off (fun _:Unit=>[]) (fun _=>True)
  |cons {fl:Field} {fls:List Field} {off n:Nat} {α β:Type} {f:α->AV} {p:α->Prop} {g:β->List AV} {q:β->Prop} (ho:fl.offset=off) (hn:P.cellsOf fl.type=n) (hf:dw P W enc fl.type f p)
      (hln:∀a,(f a).cells.length=n) (hs:FlOk P W enc fls (off+n) g q):FlOk P W enc (fl::fls) off (fun z:α×β=>(f z.1).cells++g z.2) (fun z=>p z.1/\q z.2)
theorem FlOk.rep{fls:List Field}{off:Nat}{α:Type}{g:α->List AV}{q:α->Prop}(h:FlOk P W enc fls off g q){cs:List Value}{sp:Nat->Bool}{fuel:Nat}
  (hr:∀fl∈fls,∃x,DataW.trod enc P W 0 sp true fuel fl.type ((cs.drop fl.offset).take (P.cellsOf fl.type))=some x/\∀n∈x.1.weights P fl.type,n<=reachBytes):∃a m,q a/\mY W ((cs.drop off).take m) (g a)/\m=(g a).length:=by
 induction h with
 |nil off=>exact⟨(),0,trivial,⟨by simp,fun j x hx=>by simp at hx,fun j u x hu hx=>by simp at hx⟩,rfl⟩
 | @cons fl fls off n α β f p g q ho hn hf hln hs ih =>
  obtain⟨x,hx,hwx⟩:=hr fl (X7 ..);rw[ho,hn]at hx;obtain⟨a,ha,hc⟩:=hf _ _ _ _ hx hwx;obtain⟨b,m,hb,hcb,hm⟩:=ih (fun fl' h'=>hr fl' (X8 _ h'));exact⟨(a,b),n+m,⟨ha,hb⟩,VJ hc (hln a) hcb,by simp only[XZ,hln a,hm]⟩
theorem QD{t:TypeId}{fs:Array Field}{α:Type}{g:α->List AV}{q:α->Prop}(ht:P.underlying t=some (.struct fs))(hf:FlOk P W enc fs.toList 0 g q)(hn:∀a,(g a).length=P.cellsOf t) :
  dw P W enc t (fun a=>.agg (g a)) q:=by
 intro sp fuel cs x h hwt;obtain⟨xs,n,rfl,hxe,hl,hxl,hel⟩:=DataW.trod_struct ht h
 obtain⟨a,m,ha,hc,hm⟩:=hf.rep (cs:=cs) (sp:=sp) (fuel:=n) (fun fl hfl=>by
  obtain⟨i,hi⟩:=Yd hfl;have hi':fs[i]?=some fl:=by simpa using hi
  have h1:=hel i fl hi';have h2:i<xs.length:=by rw[hxl];exact(Array.getElem?_eq_some_iff.1 hi').1
  refine⟨xs[i],by rw[h1,XC h2],fun k hk=>hwt k ?_⟩;rw[hxe];simp only[DataW.weights,ht];exact DataW.weights_mem_each (j:=i) (by simpa using⟨fl,hi',rfl⟩) (by rw[XE,XC h2];rfl) k hk)
 refine⟨a,ha,?_⟩;rw[hm,hn a,<- hl,Yh,XP]at hc;exact hc
theorem oX{t:TypeId}{n:Nat}{fs:Array Field}{α:Type}{g:α->List AV}{q:α->Prop}(ht:P.underlying t=some (.struct fs))(hc:P.cellsOf t=n)(hf:FlOk P W enc fs.toList 0 g q)(hn:∀a,(g a).length=n) :
  dw P W enc t (fun a=>.agg (g a)) q:=QD ht hf (fun a=>(hn a).trans hc.symm)
theorem Iz{α:Type}{q:Nat->α->Prop}:∀(n:Nat),(∀i,i<n->∃a,q i a)->∃l:List α,l.length=n/\∀i a,l[i]?=some a->q i a
 |0,_=>⟨[],rfl,fun i a h=>by simp at h⟩
 |n+1,h=>by
  obtain⟨l,h1,h2⟩:=Iz n (fun i hi=>h i oz);obtain⟨a,ha⟩:=h n oz;refine⟨l++[a],by simp[h1],fun i b hb=>?_⟩;rcases XH i l.length with g |g
  ·rw[XU g]at hb;exact h2 i b hb
  ·rw[XT g]at hb
   have hi:i-l.length=0:=by
    rcases Nat.eq_zero_or_pos (i-l.length)with g |g
    ·exact g
    ·rw[XN (by simp only[XK,XM];omega)]at hb;cases hb
   rw[hi]at hb;cases hb;have:i=n:=by omega
   rw[this];exact ha
theorem Tp{a:Addr}{v:Value}(h:W.cell? a=some v):∃b off,a=⟨b,off,none⟩:=by
 obtain⟨b,off,s⟩:=a;unfold World.cell? at h;split at h
 ·cases s with
  |none=>exact⟨b,off,rfl⟩
  |some s=>simp at h
 ·cases h
theorem EI{b off:Nat}{v:Value}(h:W.cell? ⟨b,off,none⟩=some v):∃c t fr,W.heap[b]?=some (.cells c t fr)/\c[off]?=some v:=by
 unfold World.cell? at h;split at h
 ·rename_i c t fr hb;exact⟨c,t,fr,hb,by simpa using h⟩
 ·cases h
theorem I2{e:TypeId}:∀{l:List (DataW H)}{d:DataW H},d∈l->∀n∈d.weights P e,n∈DataW.weightsAll P e l
 |x::l,d,hd,n,hn=>by
  simp only[DataW.weightsAll,mem_append];rcases List.mem_cons.1 hd with rfl |hd
  ·exact .inl hn
  ·exact .inr (I2 hd n hn)
theorem ql{t e:TypeId}{n:Nat}{α:Type}{f:α->AV}{p:α->Prop}(ht:P.underlying t=some (.slice e))(hc:P.cellsOf e=n)(hn:0<n)(hby:Nat.blt 0 (P.bytesOf e)=true)(hel:dw P W enc e f p)(hln:∀a,(f a).cells.length=n) :
  dw P W enc t (fun l:List α=>.lst n (l.map f)) (fun l=>(∀a∈l,p a)/\l.length<=281474976710656):=by
 intro sp fuel cs x h hwt;rcases DataW.trod_slice ht h with⟨rfl,_⟩ |⟨a,len,cap,elems,rest,m,_,rfl,hxe,_,hl,hm,hlen,hE,_,_⟩
 ·exact⟨[],⟨fun a ha=>by(cases ha),XJ _⟩,sQ (.lst0 _ _ _) rfl⟩
 ·obtain⟨l,hll,hq⟩:=Iz (q:=fun i a'=>p a'/\∃cs',W.cells? 0 (a.add (i*n)) n=some cs'/\mY W cs' (f a').cells) len (fun i hi=>by
   have h1:=hE i hi;rw[hc,XC oz,Option.bind_eq_some_iff]at h1;obtain⟨cs',h2,h3⟩:=h1
   obtain⟨a',ha,hc'⟩:=hel _ _ _ _ h3 (fun k hk=>hwt k (by
    rw[hxe];simp only[DataW.weights,ht];exact X8 _ (List.mem_append_left _ (I2 (List.mem_map.2 ⟨_,List.getElem_mem (by omega:i<elems.length),rfl⟩) k hk))))
   exact⟨a',ha,cs',h2,hc'⟩)
  have hcm:len<=281474976710656:=by
   have h1:=hwt ((elems.length+rest.length)*P.bytesOf e) (by
    rw[hxe];simp only[DataW.weights,ht,XA];exact X7 ..)
   rw[Nat.blt_eq]at hby;have h2:elems.length+rest.length<=(elems.length+rest.length)*P.bytesOf e:=Nat.le_mul_of_pos_right _ hby;have h3:reachBytes<=281474976710656:=by decide
   omega
  refine⟨l,⟨fun a' ha=>?_,by omega⟩,sQ ?_ rfl⟩
  ·obtain⟨i,hi⟩:=Yd ha;exact(hq i a' hi).1
  ·by_cases h0:len=0
   ·subst h0;have:l=[]:=List.eq_nil_of_length_eq_zero hll;subst this;exact .lst0 _ _ _
   ·-- the block
    have hget:∀(i j:Nat)(e' c':AV),(l.map f)[i]?=some e'->e'.cells[j]?=some c'->∃v,W.cell? ((a.add (i*n)).add j)=some v/\Rep (Gw W) (Sz W) dl v c':=by
     intro i j e' c' he hc';rw[XE,XB]at he;obtain⟨a',ha,rfl⟩:=he;obtain⟨_,cs',h2,h3⟩:=hq i a' ha;obtain⟨_,h4,h5⟩:=World.cells?_some h2;have hj:j<n:=by rw[<- hln a'];exact(List.getElem?_eq_some_iff.1 hc').1
     have h6:=h5 j hj;rw[XC oz]at h6;exact⟨_,h6,h3.2.2 j _ c' (XC oz) hc'⟩
    obtain⟨a0,ha0⟩:∃a0,l[0]?=some a0:=⟨l[0]'oz,XC oz⟩
    obtain⟨c0,hc0⟩:∃c0,(f a0).cells[0]?=some c0:=⟨(f a0).cells[0]'(by rw[hln];omega),XC (by rw[hln];omega)⟩
    obtain⟨v0,hv0,_⟩:=hget 0 0 _ _ (by rw[XE,ha0];rfl) hc0;have e0:(a.add (0*n)).add 0=a:=by simp[Addr.add]
    rw[e0]at hv0;obtain⟨b,off,rfl⟩:=Tp hv0;obtain⟨c,t',fr,hb,_⟩:=EI hv0;have hll':(l.map f).length=len:=by rw[XA,hll]
    have hcell:∀(i j:Nat)(e' c':AV),(l.map f)[i]?=some e'->e'.cells[j]?=some c'->∃v,c[off+i*n+j]?=some v/\Rep (Gw W) (Sz W) dl v c':=by
     intro i j e' c' he hc';obtain⟨v,hv,hr⟩:=hget i j e' c' he hc';rw[iV,iV]at hv;obtain⟨c2,t2,Bc,hb2,hv2⟩:=EI hv;rw[hb]at hb2;cases hb2;exact⟨v,hv2,hr⟩
    have := Rep.lst (g := Gw W) (S := Sz W) (m := dl) (b := b) (off := off) (cap := cap) (sz := n) (es := l.map f) (cs := c) (fun i j => c.getD (off + i * n + j) undef) (TT hb) oz (by rw [hll']; exact hcm)
     (fun i e' he=>by
      rw[XE,XB]at he;obtain⟨a',_,rfl⟩:=he;exact hln a')
     (fun i j e' c' he hc'=>by
      rw[XE,XB]at he;obtain⟨a',ha,rfl⟩:=he;obtain⟨_,cs',_,h3⟩:=hq i a' ha;exact h3.2.1 j c' hc')
     (fun i j e' c' he hc'=>by
      obtain⟨v,hv,_⟩:=hcell i j e' c' he hc';rw[XI,hv];rfl)
     (fun i j e' c' he hc'=>by
      obtain⟨v,hv,hr⟩:=hcell i j e' c' he hc';rw[XI,hv];exact hr)
    rwa [hll']at this
theorem UC{t:TypeId}{fs:Array Field}{α:Type}{g:α->List AV}{q:α->Prop}{v:Value}{d:DataW H}{ps:List MemPlace}{sp:Nat->Bool}{b0:Nat}(ht:P.underlying t=some (.struct fs))
  (ho:dw P W enc t (fun a=>.agg (g a)) q) (hval:Value.okWide P W .any b0 t v) (hd:DataW.Trod enc P W 0 sp true t v d ps) (hwt:∀n∈d.weights P t,n<=reachBytes):∃a,q a/\Rep (Gw W) (Sz W) dl v (.agg (g a)):=by
 unfold Value.okWide at hval;rw[ht]at hval;obtain⟨cs,rfl,_,_⟩:=hval;obtain⟨fuel,hf⟩:=hd;obtain⟨a,ha,hc⟩:=ho _ _ _ _ hf hwt;exact⟨a,ha,.agg (by have:=hc.1;simpa[Value.cells,AV.cells]using this) (fun j c h=>hc.2.1 j c h) (fun j u c hu h=>hc.2.2 j u c (by simpa[Value.cells]using hu) h)⟩
theorem Tg{t:TypeId}{α:Type}{f:α->AV}{q:α->Prop}{v:Value}{d:DataW H}{ps:List MemPlace}{sp:Nat->Bool}(ho:dw P W enc t f q)(h1:∀a,(f a).cells=[f a])(hv:v.cells=#[v])
  (hd:DataW.Trod enc P W 0 sp true t v d ps) (hwt:∀n∈d.weights P t,n<=reachBytes):∃a,q a/\Rep (Gw W) (Sz W) dl v (f a):=by
 obtain⟨fuel,hf⟩:=hd;rw[hv]at hf;obtain⟨a,ha,hc⟩:=ho _ _ _ _ hf hwt;rw[h1]at hc;exact⟨a,ha,hc.2.2 0 v _ rfl rfl⟩
theorem gO.calls{f:FuncId}{args:List AV}{b:Bool}(h:gO P f args (.v (.bool b))){vs:Array Value}(hn:vs.size=args.length)
  (hr:∀(j:Nat) v x,vs[j]?=some v->args[j]?=some x->Rep (Gw W) (Sz W) dl v x) :
  Calls P f vs W fun e W'=>e=.returned (.bool b)/\RowKit.Below W.heap.size W W':=by
 have h0:=h.ret I0 dl W vs (fun b h=>h.elim) ⟨fun k x h=>by(cases h),fun k k' x x' b h=>by(cases h),fun k x b h=>by(cases h)⟩ hn hr;refine h0.mono (fun e W' ⟨v,m',he,hf,_,_,_,hv⟩=>?_);cases hv;refine⟨he,hf.os,hf.tape,hf.output,hf.size,fun k hk=>hf.keep k hk ?_⟩;rintro⟨k',x,h9,_⟩;cases h9
open Go.ChangeShapes in
theorem Ms{f:Func}{s:ChangeSpec}{apart fresh handsOn again:Bool}{W':World}{args:Array Value}{v:Value}{ds gs:List (DataW H)}{before:List MemPlace}
  (hW:DataW.Whole enc P f.params.toList s.vars apart W args.toList ds gs before) (hvs:s.vars=[]) (hgs:gs=[])
  (hres:∀(b:Nat)(sp:Nat->Bool)(hd:Bool),DataW.TrodAll enc P W' b sp hd f.resultTypes.toList (v.resultList f.resultTypes.size) (s.fn H (ds++gs)).results [])
  (hargs:∀sp:Nat->Bool,(∀p∈before,sp p.block=true)->DataW.TrodAll enc P W' 0 sp true f.params.toList args.toList (s.fn H (ds++gs)).args before)
  (hv0:(s.fn H (ds++gs)).vars=[]) (hb:RowKit.Below W.heap.size W W')
  (hok:∀(j:Nat)(t:TypeId)(r:Value),f.resultTypes[j]?=some t->(v.resultList f.resultTypes.size)[j]?=some r->Value.okWide P W' .any 0 t r) :
  s.post enc P f apart fresh handsOn again W args v W':=by
 have hlt:=fun p hp=>hW.lt p hp
 have hold:∀p∈before,(fun b=>decide (b<W.heap.size)) p.block=true:=fun p hp=>by simpa using hlt p hp
 have hvars:∀sp:Nat->Bool,DataW.TrodVars enc P W' sp s.vars (s.fn H (ds++gs)).vars []:=fun sp=>by rw[hvs,hv0];rfl
 refine⟨ds,gs,before,[],before,[],hW,hres _ _ _,hargs _ hold,hvars _,World.keptBut_mono (fun p hp=>⟨hp,Or.inr (by simpa using hp)⟩) (hb.frame (· ∈ before)),fun _=>?_⟩;obtain⟨_,_,_,_,_,hz,hn⟩:=hW;refine⟨hok,_,_,([]++before)++[],⟨[]++before,[],trodAll_append (hargs _ (fun _ _=>rfl)) (hres _ _ _),hvars _,rfl,?_,?_⟩,?_⟩
 ·intro b off hp;have hp':MemPlace.cell b off ∈ before:=by simpa using hp
  rw[hb.frozen (hlt _ hp')];exact hz b off hp'
 ·intro ha;simpa using hn ha
 ·intro p hp _;simpa using hp
end
theorem lO{l:List Nat}{i x:Nat}(h:i<l.length):val ((l.set i x).take (i+1))=val (l.take i)+4294967296^i*x:=by
 rw[HV (x:=x) (by simp[h]),List.take_set_of_le (XD _)]
theorem f7{l:List Nat}{i x:Nat}(h:Ws l)(hx:x<4294967296):Ws (l.set i x):=by
 intro y hy;rcases List.mem_or_eq_of_mem_set hy with h1 |h1
 ·exact h y h1
 ·omega
theorem lA(n:Nat):Ws (List.replicate n 0):=fun x hx=>by rw[(List.mem_replicate.1 hx).2];omega
theorem ss:Ws []:=fun _ h=>nomatch h
theorem fT{l:List Nat}(h:Ws l)(n:Nat):Ws (l.take n):=fun x hx=>h x (List.mem_of_mem_take hx)
theorem rN{x:Nat}(h:x<4294967296):Ws [x]:=fun y hy=>by rw[List.mem_singleton.1 hy];exact h
structure Wh where
  neg:Bool
  mag:List Nat
namespace Wh
def valid(w:Wh):Bool:=if w.mag=[]then !w.neg else w.mag.getLast? != some 0
def m(w:Wh):List Nat:=if w.valid then w.mag else[]
def n(w:Wh):Bool:=w.valid&&w.neg
def z(w:Wh):Int:=if w.n then -(val w.m:Int)else val w.m
def av(w:Wh):AV:=.agg [bl w.neg,ws w.mag]
def ok(w:Wh):Prop:=Ws w.mag/\w.mag.length<=a8
end Wh
def sgn(b:Bool)(n:Nat):Int:=if b then -(n:Int)else n
def ofInt(z:Int):Wh:=⟨decide (z<0),ofNat z.natAbs⟩
def zA(z:Int):AV:=(ofInt z).av
theorem Wh.nz(w:Wh):Nz w.m:=by
 unfold Wh.m Wh.valid;intro x hx
 by_cases h:w.mag=[]
 ·rw[h]at hx;split at hx <;> simp at hx
 ·rw[Yk h]at hx;split at hx
  ·next h'=>rw[hx]at h';simpa using h'
  ·simp at hx
theorem Wh.ws{w:Wh}(h:w.ok):Ws w.m:=by
 unfold Wh.m;split
 ·exact h.1
 ·exact ss
theorem Wh.m_le{w:Wh}:w.m.length<=w.mag.length:=by
 unfold Wh.m;split <;> simp
theorem Wh.ofNat_m{w:Wh}(h:w.ok):ofNat (val w.m)=w.m:=pZ (Wh.ws h) w.nz
theorem Wh.n_val{w:Wh}(hn:w.n=true):val w.m≠0:=by
 have h1:w.m≠[]:=by
  intro h0;unfold Wh.n at hn;rw[XF]at hn;unfold Wh.m at h0;rw[Yl hn.1]at h0;have:=hn.1;unfold Wh.valid at this;rw[Yl h0,hn.2]at this;cases this
 have:=nW w.nz h1;omega
theorem Wh.n_eq{w:Wh}:w.n=decide (w.z<0):=by
 unfold Wh.z;cases h:w.n with
 |true=>have:=Wh.n_val h;simp;omega
 |false=>simp
theorem Wh.abs{w:Wh}:w.z.natAbs=val w.m:=by
 unfold Wh.z;split <;> omega
theorem Wh.z_eq{w:Wh}:w.z=sgn w.n (val w.m):=rfl
theorem JK(z:Int):(ofInt z).valid=true:=by
 unfold ofInt Wh.valid;dsimp only;split
 ·next h =>
  have h1:=cg z.natAbs;rw[h]at h1;have:z=0:=by simp[val]at h1;omega
  subst this;rfl
 ·next h =>
  have:=qT z.natAbs;cases hl:(ofNat z.natAbs).getLast? with
  |none=>rfl
  |some x=>have:=this x hl;simp[this]
theorem Lg(z:Int):(ofInt z).m=ofNat z.natAbs:=by unfold Wh.m;rw[Yl (JK z)];rfl
theorem KP(z:Int):(ofInt z).n=decide (z<0):=by unfold Wh.n;rw[JK z];rfl
theorem dU(z:Int):(ofInt z).z=z:=by
 unfold Wh.z;rw[KP,Lg,cg];split
 ·next h=>simp at h;omega
 ·next h=>simp at h;omega
def Lz(k:Nat)(z:Int):Prop:=z.natAbs<4294967296^k
theorem Lz.len{k:Nat}{z:Int}(h:Lz k z):(ofNat z.natAbs).length<=k:=fj h
theorem Wh.lz{w:Wh}(h:w.ok):Lz w.mag.length w.z:=by
 unfold Lz;rw[Wh.abs];have h1:=b9 w.m (Wh.ws h);exact XS h1 (Nat.pow_le_pow_right oz Wh.m_le)
theorem Lz.mono{k l:Nat}{z:Int}(h:Lz k z)(hk:k<=l):Lz l z:=XS h (Nat.pow_le_pow_right oz hk)
theorem Lz.add{k l:Nat}{x y:Int}(h:Lz k x)(h':Lz l y):Lz (max k l+1) (x+y):=by
 have h1:=h.mono (Nat.le_max_left k l);have h2:=h'.mono (Nat.le_max_right k l);unfold Lz at *;rw[Nat.pow_succ];have:=Int.natAbs_add_le x y;omega
theorem Lz.neg{k:Nat}{x:Int}(h:Lz k x):Lz k (-x):=by unfold Lz at *;omega
theorem Lz.sub{k l:Nat}{x y:Int}(h:Lz k x)(h':Lz l y):Lz (max k l+1) (x-y):=Int.sub_eq_add_neg▸h.add h'.neg
theorem Lz.mul{k l:Nat}{x y:Int}(h:Lz k x)(h':Lz l y):Lz (k+l) (x*y):=by
 unfold Lz at *;rw[Int.natAbs_mul,Yb];exact Nat.mul_lt_mul'' h h'
theorem Lz.of_le{k:Nat}{x y:Int}(h:Lz k x)(h':y.natAbs<=x.natAbs):Lz k y:=XX h' h
theorem tK{a b:List Nat}(ha:Ws a)(hb:Nz b)(h:a.length<b.length):val a<val b:=by
 have h1:=b9 a ha;have hb0:b≠[]:=by intro h0;rw[h0]at h;simp at h
 have h2:∃c x,b=c++[x]:=⟨b.dropLast,b.getLast hb0,(List.dropLast_concat_getLast hb0).symm⟩
 obtain⟨c,x,rfl⟩:=h2;have hx:x≠0:=hb x (by simp);rw[qF];simp at h;have h3:4294967296^a.length<=4294967296^c.length:=Nat.pow_le_pow_right oz oz;have h4:4294967296^c.length*1<=4294967296^c.length*val [x]:=XL _ (by simp[val];omega);omega
theorem Gu{a b:List Nat}{i:Nat}(ha:Ws a)(hx:ah a i<ah b i):val (a.take (i+1))<val (b.take (i+1)):=by
 rw[dj,dj];have h1:=b9 (a.take i) (fT ha i);have h2:4294967296^(a.take i).length<=4294967296^i:=Nat.pow_le_pow_right oz (by simp;omega);have h3:4294967296^i*(ah a i+1)<=4294967296^i*ah b i:=XL _ hx;rw[Nat.mul_add,Nat.mul_one]at h3;omega
theorem tJ(l:List Nat)(i:Nat):val l=val (l.take i)+4294967296^(min i l.length)*val (l.drop i):=by
 conv=>lhs;rw[<- List.take_append_drop i l]
 rw[qF,XO]
theorem Es{a b:List Nat}{i:Nat}(ha:Ws a)(hl:a.length=b.length)(hi:i<a.length)(he:a.drop (i+1)=b.drop (i+1))(hx:ah a i<ah b i):val a<val b:=by
 rw[tJ a (i+1),tJ b (i+1),he,hl];have:=Gu ha hx;omega
theorem yb{o c P x y u w:Nat}(h:o+c*P=x+y) :
  (o+P*((c+(u+w))%4294967296))+((c+(u+w))/4294967296)*(P*4294967296)=(x+P*u)+(y+P*w):=by
 have:=Nat.div_add_mod (c+(u+w)) 4294967296;generalize(c+(u+w))%4294967296=r at *;generalize(c+(u+w))/4294967296=q at *;grind
theorem DA{a b out:List Nat}{c n:Nat}(ha:Ws a)(hb:Ws b)(hn:n=max a.length b.length+1)(ho:out.length=n)
  (h:val (out.take n)+c*4294967296^n=val (a.take n)+val (b.take n)):val out=val a+val b:=by
 rw[eT oz,eT oz,eT oz]at h;have h1:=b9 a ha;have h2:=b9 b hb;have h3:4294967296^a.length<=4294967296^max a.length b.length:=Nat.pow_le_pow_right oz oz;have h4:4294967296^b.length<=4294967296^max a.length b.length:=Nat.pow_le_pow_right oz oz;subst hn;rw[Nat.pow_succ]at h;cases c with
 |zero=>omega
 |succ c =>
  rw[Nat.succ_mul]at h;omega
theorem Gp{o c P x y u w:Nat}(hu:u<4294967296)(hw:w<4294967296)(hc:c<=1)(h:o+y=x+c*P) :
  let d:=if w+c<=u then u-w-c else u+18446744073709551616-w-c
  (o+P*(d%4294967296))+(y+P*w)=(x+P*u)+(d/2^63)*(P*4294967296):=by
 intro d
 have h0:d%4294967296+w+c=u+(d/2^63)*4294967296:=by
  show d%4294967296+w+c=_
  by_cases h1:w+c<=u
  ·rw[show d=u-w-c from Yl h1];omega
  ·rw[show d=u+18446744073709551616-w-c from Yk h1];omega
 generalize d/2^63=q at *;generalize d%4294967296=r at *;grind
theorem QL{a b out:List Nat}{c:Nat}(ha:Ws out)(ho:out.length=a.length)(hle:val b<=val a)(hlb:b.length<=a.length)
  (h:val (out.take a.length)+val (b.take a.length)=val (a.take a.length)+c*4294967296^a.length):val out=val a-val b:=by
 rw[eT oz,eT oz,eT oz]at h;have h1:=b9 out ha;rw[ho]at h1;cases c with
 |zero=>omega
 |succ c=>rw[Nat.succ_mul]at h;omega
theorem tM{x y:Nat}(hx:x<18446744073709551616)(hy:y<18446744073709551616):n8 .or .u64 (x:Int) (y:Int)=((x ||| y:Nat):Int):=by
 show IntKind.u64.wrap (((BitVec.ofInt 64 (x:Int)) ||| (BitVec.ofInt 64 (y:Int))).toNat:Int)=_;simp only[BitVec.toNat_or,BitVec.ofInt_natCast,BitVec.toNat_ofNat];rw[Nat.mod_eq_of_lt oz,Nat.mod_eq_of_lt oz];exact u64_in (Nat.or_lt_two_pow (n:=64) hx hy)
theorem yC{x y:Nat}(hx:x<4294967296)(hy:y<4294967296):n8 .or .u32 (x:Int) (y:Int)=((x ||| y:Nat):Int):=by
 show IntKind.u32.wrap (((BitVec.ofInt 32 (x:Int)) ||| (BitVec.ofInt 32 (y:Int))).toNat:Int)=_;simp only[BitVec.toNat_or,BitVec.ofInt_natCast,BitVec.toNat_ofNat];rw[Nat.mod_eq_of_lt oz,Nat.mod_eq_of_lt oz];exact u32_in (Nat.or_lt_two_pow (n:=32) hx hy)
theorem Ii{x y:Nat}(hx:x<4294967296)(hy:y<4294967296):n8 .and .u32 (x:Int) (y:Int)=((x &&& y:Nat):Int):=by
 show IntKind.u32.wrap (((BitVec.ofInt 32 (x:Int)) &&& (BitVec.ofInt 32 (y:Int))).toNat:Int)=_;simp only[BitVec.toNat_and,BitVec.ofInt_natCast,BitVec.toNat_ofNat];rw[Nat.mod_eq_of_lt oz,Nat.mod_eq_of_lt oz];exact u32_in (XX Nat.and_le_left hx)
theorem sP{q y n:Nat}(hy:y<2^n):q*2^n ||| y=q*2^n+y:=by
 rw[Nat.mul_comm,Nat.two_pow_add_eq_or_of_lt hy]
theorem zQ{q y n:Nat}(hy:y<2^n):y ||| q*2^n=y+q*2^n:=by
 rw[Nat.or_comm,sP hy,Nat.add_comm]
theorem q9{x n:Nat}(hn:n<=64)(h:x*2^n<18446744073709551616):IntKind.u64.wrap ((x:Int)*2^(min (n:Int).toNat IntKind.u64.bits))=((x*2^n:Nat):Int):=by
 have:min (n:Int).toNat IntKind.u64.bits=n:=by simp[IntKind.bits];omega
 rw[this,show(x:Int)*2^n=((x*2^n:Nat):Int) by simp,u64_in h]
theorem DU{x n:Nat}(hn:n<=32):IntKind.u32.wrap ((x:Int)*2^(min (n:Int).toNat IntKind.u32.bits))=((x*2^n%4294967296:Nat):Int):=by
 have:min (n:Int).toNat IntKind.u32.bits=n:=by simp[IntKind.bits];omega
 rw[this,show(x:Int)*2^n=((x*2^n:Nat):Int) by simp,dK]
theorem qB(x n:Nat)(hn:n<=32):(x:Int).fdiv (2^(min (n:Int).toNat IntKind.u32.bits))=((x/2^n:Nat):Int):=by
 have:min (n:Int).toNat IntKind.u32.bits=n:=by simp[IntKind.bits];omega
 rw[this,Int.fdiv_eq_ediv_of_nonneg _ (Int.le_of_lt (Int.pow_pos (by decide)))];simp
theorem Ih{x y:Nat}(hx:x<18446744073709551616):IntKind.u64.wrap ((x:Int).tdiv y)=((x/y:Nat):Int):=by
 rw[<- Int.ofNat_tdiv,u64_in (XX (Nat.div_le_self _ _) hx)]
theorem Ef{x y:Nat}:(x:Int).tmod y=((x%y:Nat):Int):=(Int.ofNat_tmod _ _).symm
theorem zE:∀{l:List Nat}{i x:Nat},i<l.length->val (l.set i x)+4294967296^i*ah l i=val l+4294967296^i*x
 |a::l,0,x,_=>by simp[val,ah];omega
 |a::l,i+1,x,h=>by
  have ih:=zE (l:=l) (i:=i) (x:=x) (by simpa using h);simp only[List.set_cons_succ,val];have hw:ah (a::l) (i+1)=ah l i:=by simp[ah]
  rw[hw,Nat.pow_succ];grind
theorem Iu{l:List Nat}{i n x:Nat}(h:i<l.length)(hn:i<n):val ((l.set i x).take n)+4294967296^i*ah l i=val (l.take n)+4294967296^i*x:=by
 rw[List.take_set];have h1:ah (l.take n) i=ah l i:=by simp[ah,hn]
 rw[<- h1];exact zE (by simp;omega)
theorem G9{o o' c V P u y w S:Nat}(ho:o'+P*w=o+P*(S%4294967296))(hS:S=c+(u*y+w))(h:o+c*P=V) :
  o'+(S/4294967296)*(P*4294967296)=V+P*(u*y):=by
 have:=Nat.div_add_mod S 4294967296;generalize S%4294967296=r at *;generalize S/4294967296=q at *;subst hS;grind
theorem wN{x y:Nat}(hx:x<4294967296)(hy:y<4294967296):x*y<=18446744065119617025:=by
 have:=Nat.mul_le_mul (show x<=4294967295 by omega) (show y<=4294967295 by omega);omega
theorem Vo{l:List Nat}{i:Nat}(h:i<l.length):l.drop i=ah l i::l.drop (i+1):=by
 rw[List.drop_eq_getElem_cons h];congr 1;have:=iY h;rw[XC h]at this;exact Option.some.inj this
theorem pj{l:List Nat}{i:Nat}(h:i<l.length):val (l.drop i)=ah l i+4294967296*val (l.drop (i+1)):=by
 rw[Vo h];rfl
theorem Dv{l:List Nat}{i x:Nat}(h:i<l.length):val ((l.set i x).drop i)=x+4294967296*val (l.drop (i+1)):=by
 rw[pj (by simpa using h)];have h1:ah (l.set i x) i=x:=by simp[ah,h]
 have h2:(l.set i x).drop (i+1)=l.drop (i+1):=by rw[List.drop_set_of_lt oz]
 rw[h1,h2]
theorem az.own1{s:AS}{k d sz off len:Nat}{es es':List AV}(h:lk s.hp k=some (.row sz es))(hd:Nat.blt d 1000=true)(he:es=es') :
  az s (d7 [.ms k sz off len]) (.ms d sz off len) [(d,some (.row sz es'))]:=by
 subst he;rw[Nat.blt_eq]at hd;intro ext m w v hh hext hx
 have hown:∀(k':Nat)(z:Blk),lk [(d,some (Blk.row sz es))] k'=some z->k'=d/\z=.row sz es:=by
  intro k' z hz;rw[aT]at hz;split at hz
  ·rename_i h1;cases hz;exact⟨h1,rfl⟩
  ·cases hz
 have him:=eU (ext:=ext) (Frame.refl (a9 s.hp m) w) (hp':=[(d,some (.row sz es))]) (m':=fun x=>if x=d then m k else none) (by
  intro k' z b hz hb;obtain⟨rfl,rfl⟩:=hown k' z hz;have hb':(if k'=k' then m k else none)=some b:=hb;rw[Yl rfl]at hb';exact .inl ⟨k,_,h,hb'⟩)
 refine⟨fun x=>if x=d then m k else none,⟨?_,?_,?_⟩,?_,?_,?_⟩
 ·intro k' z hz;obtain⟨rfl,rfl⟩:=hown k' z hz;rw[Yl rfl];have h1:BlkRep (Im ext s.hp m w) (Sz w) m w (m k) (.row sz es):=hh.blk k _ h
  revert h1
  generalize hmk:m k=o
  suffices h2:∀o,BlkRep (Im ext s.hp m w) (Sz w) m w o (.row sz es)->BlkRep (Im ext [(k',some (.row sz es))] (fun x=>if x=k' then m k else none) w) (Sz w) (fun x=>if x=k' then m k else none) w o (.row sz es) by
   rw[hmk]at h2;exact h2 o
  clear hmk o;intro o h1;cases h1 with
  |none=>exact .none _
  |row hw hn hl hs h1 hr=>exact .row hw hn hl hs h1 (fun i j e u x he hx hu=>(hr i j e u x he hx hu).mono him (fun _ _ h=>h) (fun _ _ _ h=>h))
 ·intro k1 k2 z z' b h1 h2 _ _;rw[(hown _ _ h1).1,(hown _ _ h2).1]
 ·intro k' z b hz hb;obtain⟨rfl,rfl⟩:=hown k' z hz;have hb':(if k'=k' then m k else none)=some b:=hb;rw[Yl rfl]at hb';exact hh.sep k _ b h hb'
 ·intro k' z b hz hb;obtain⟨rfl,rfl⟩:=hown k' z hz;have hb':(if k'=k' then m k else none)=some b:=hb;rw[Yl rfl]at hb';exact⟨k,_,h,hb'⟩
 ·intro k' z hk hz;obtain⟨rfl,rfl⟩:=hown k' z hz;omega
 ·cases hx with
  |ms0 a=>exact .ms0 a _ _ _
  |ms hm hc hS=>exact .ms (by simp;exact hm) hc hS
theorem bD{k:Nat}{x:Option Blk}{z:Blk}(h:lk [(1000,x)] k=some z):1000<=k:=by
 rw[aT]at h;split at h
 ·omega
 ·cases h
end Go.Lw
