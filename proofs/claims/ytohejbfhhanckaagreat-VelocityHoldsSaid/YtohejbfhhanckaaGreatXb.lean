/- VelocityHolds: for any linkage, assembly and velocities the law returns true and leaves its arguments as they were. No other condition. Part 2 of 7: what the later parts need -/
import Derived.Test.YtohejbfhhanckaaGreatXa
import Derived.KernelRfl
import Derived.Laws.StructEq
import Derived.Test.YtohejbfhhanckaaGreatChecked
import Derived.Eval
import Derived.RangeFuncIn
set_option linter.unusedVariables false
namespace Go.Lw
variable {P : Program} {N : Nat} {s : AS}
theorem Sub.refl (x : AV) : Sub x x := fun _ _ _ _ h => h
inductive SlW (sl : Slots) : Slots -> Prop
  | nil : SlW sl []
  | cons {t : Nat} {x y : AV} {l : Slots} (h : lk sl t = some y) (hs : Sub y x) (hl : SlW sl l) : SlW sl ((t,some x) :: l)
theorem SlW.get {sl l : Slots} (h : SlW sl l) {t : Nat} {x : AV} (hx : lk l t = some x) : ∃ y, lk sl t = some y /\ Sub y x := by
 induction h with
 | nil => cases hx
 | @cons t' x' y l h1 h2 _ ih =>
  rw [lk_cons] at hx
  split at hx
  ·cases hx; subst_vars; exact ⟨y,h1,h2⟩
  ·exact ih hx
theorem SlW.same {sl l : Slots} {t : Nat} {x : AV} (h : lk sl t = some x) (hl : SlW sl l) : SlW sl ((t,some x) :: l) := .cons h (.refl x) hl
def CellsSub (e e' : AV) : Prop := e.cells.length = e'.cells.length /\ ∀ (j : Nat) (x y : AV),e.cells[j]? = some x -> e'.cells[j]? = some y -> y.one = true /\ Sub x y
inductive BlkSub : Blk -> Blk -> Prop
  | refl (x : Blk) : BlkSub x x
  | row {sz : Nat} {es es' : List AV} (hn : es.length = es'.length) (h : ∀ (i : Nat) (e e' : AV),es[i]? = some e -> es'[i]? = some e' -> CellsSub e e') : BlkSub (.row sz es) (.row sz es')
  | box {cs cs' : List AV} (hn : cs.length = cs'.length) (h1 : ∀ (j : Nat) (x : AV), cs'[j]? = some x -> x.one = true)
      (h : ∀ (j : Nat) (x y : AV),cs[j]? = some x -> cs'[j]? = some y -> Sub x y) : BlkSub (.box cs) (.box cs')
  | vecRow {vs : List Value} (hl : vs.length <= maxL) : BlkSub (.vec vs) (.row 1 (vs.map .v))
inductive HpW (hp : Hp) : Hp -> Prop
  | nil : HpW hp []
  | cons {k : Nat} {x y : Blk} {l : Hp} (h : lk hp k = some y) (hs : BlkSub y x) (hl : HpW hp l) : HpW hp ((k,some x) :: l)
theorem HpW.same {hp l : Hp} {k : Nat} {x : Blk} (h : lk hp k = some x) (hl : HpW hp l) : HpW hp ((k,some x) :: l) := .cons h (.refl x) hl
theorem HpW.get {hp l : Hp} (h : HpW hp l) {k : Nat} {x : Blk} (hx : lk l k = some x) : ∃ y, lk hp k = some y /\ BlkSub y x := by
 induction h with
 | nil => cases hx
 | @cons t' x' y l h1 h2 _ ih =>
  rw [lk_cons] at hx
  split at hx
  ·cases hx; subst_vars; exact ⟨y,h1,h2⟩
  ·exact ih hx
theorem get_of_length {α β : Type} {l : List α} {l' : List β} (hn : l.length = l'.length) {j : Nat} {x : α} (hx : l[j]? = some x) : ∃ y, l'[j]? = some y := by
 have hj : j < l.length := by
  rcases Nat.lt_or_ge j l.length with h | h
  ·exact h
  ·rw [List.getElem?_eq_none h] at hx; cases hx
 exact ⟨_,List.getElem?_eq_getElem (by omega)⟩
theorem BlkSub.rep {g : Nat -> Array Value -> Prop} {S : Nat -> Nat -> Prop} {m : Nat -> Option Nat} {w : World} {o : Option Nat} {x y : Blk} (h : BlkSub x y) (hr : BlkRep g S m w o x) : BlkRep g S m w o y := by
 cases h with
 | refl => exact hr
 | @row sz es es' hn h =>
  cases hr with
  | none =>
   have : es' = [] := List.eq_nil_of_length_eq_zero hn.symm
   subst this; exact .none _
  | row hw hn' hl hs h1 hrr =>
   refine .row hw (by rw [<- hn]; exact hn') (by omega) ?_ ?_ ?_
   ·intro i e' he'
    obtain ⟨e,he⟩ := get_of_length hn.symm he'
    rw [<- (h i e e' he he').1]; exact hs i e he
   ·intro i j e' x' he' hx'
    obtain ⟨e,he⟩ := get_of_length hn.symm he'
    obtain ⟨x,hx⟩ := get_of_length (h i e e' he he').1.symm hx'
    exact ((h i e e' he he').2 j x x' hx hx').1
   ·intro i j e' u x' he' hx' hu
    obtain ⟨e,he⟩ := get_of_length hn.symm he'
    obtain ⟨x,hx⟩ := get_of_length (h i e e' he he').1.symm hx'
    exact ((h i e e' he he').2 j x x' hx hx').2 _ _ _ _ (hrr i j e u x he hx hu)
 | box hn h1 h =>
  cases hr with
  | box hw hn' h1' hrr =>
   refine .box hw (by omega) h1 (fun j u y hu hy => ?_)
   obtain ⟨z,hz⟩ := get_of_length hn.symm hy
   exact h j z y hz hy _ _ _ _ (hrr j u z hu hz)
 | @vecRow vs hl =>
  cases hr with
  | @vec _ _ c t hw hc h1 =>
   have hcl : c.size = vs.length:=by rw [<- hc]; simp
   refine .row hw (by simp; omega) (by simpa using hl) ?_ ?_ ?_
   ·intro i e he
    obtain ⟨v,hv,rfl⟩ := List.mem_map.1 (List.mem_of_getElem? he); rfl
   ·intro i j e x he hx
    obtain ⟨v,hv,rfl⟩ := List.mem_map.1 (List.mem_of_getElem? he)
    cases j with
    | zero => cases hx; exact h1 v hv
    | succ j => cases hx
   ·intro i j e u x he hx hu
    rw [List.getElem?_map,Option.map_eq_some_iff] at he
    obtain ⟨v,hv,rfl⟩ := he
    cases j with
    | zero =>
     cases hx
     have : c[i]? = some v:=by rw [<- Array.getElem?_toList,hc]; exact hv
     have hu' : c[i]? = some u:=by simpa using hu
     rw [this] at hu'
     cases hu'; exact .v _
    | succ j => cases hx
theorem RelM.weak {C : Ctx} {m : Nat -> Option Nat} {a : Act} {w : World} (h : RelM C s m a w) {s' : AS} (h1 : ∀ t x, s'.get t = some x -> ∃ y, s.get t = some y /\ Sub y x)
  (h2 : ∀ k x,lk s'.hp k = some x -> ∃ y,lk s.hp k = some y /\ BlkSub y x) : RelM C s' m a w := by
 have hf := Frame.refl (Own s.hp m) w
 have hal : ∀ k' z b, lk s'.hp k' = some z -> m k' = some b -> Own s.hp m b \/ w.heap.size <= b := fun k' z b hz hb => by
  obtain ⟨y,hy,_⟩ := h2 k' z hz
  exact .inl ⟨k',y,hy,hb⟩
 have hu := h.update hf (hp' := s'.hp) (fun _ _ _ _ _ _ hb => hb) hal (fun k' z _ hz => by obtain ⟨y,hy,_⟩ := h2 k' z hz; exact ⟨⟨y,hy⟩,rfl⟩) ⟨?_,?_,?_⟩
 ·refine ⟨?_, hu.heap, hu.frame, hu.new, hu.keep, hu.defers, hu.nt⟩
  intro t x hx
  obtain ⟨y,hy,hs⟩ := h1 t x hx
  obtain ⟨g1,g2⟩ := hu.slots t y hy
  exact ⟨g1,hs _ _ _ _ g2⟩
 ·intro k' z hz
  obtain ⟨y,hy,hs⟩ := h2 k' z hz
  exact hs.rep (BlkRep.mono (w := w) (im_mono hf hal) hf.sz (fun _ _ _ h => h) rfl (fun _ _ => rfl) (h.heap.blk k' y hy))
 ·intro k1 k2 z1 z2 b g1 g2
  obtain ⟨y1,hy1,_⟩ := h2 k1 z1 g1
  obtain ⟨y2,hy2,_⟩ := h2 k2 z2 g2
  exact h.heap.inj k1 k2 y1 y2 b hy1 hy2
 ·intro k' z b hz hb
  obtain ⟨y,hy,_⟩ := h2 k' z hz
  exact h.heap.sep k' y b hy hb
theorem Wk.of {sl : Slots} {hp : Hp} (h1 : SlW s.sl sl) (h2 : HpW s.hp hp) : Wk s ⟨sl, hp⟩ :=
 fun C m a w hr => ⟨m,hr.weak (fun t x hx => h1.get hx) (fun k x hx => h2.get hx)⟩
mutual
def AV.fz (k sz : Nat) (es : List AV) : AV -> AV
  | .ms k' sz' off len => match Nat.beq k' k && Nat.beq sz' sz && Nat.ble (off + len) es.length with
    | true => .lst sz ((es.drop off).take len)
    | false => .ms k' sz' off len
  | .agg cs => .agg (AV.fzs k sz es cs)
  | .tup cs => .tup (AV.fzs k sz es cs)
  | .fn f cs => .fn f (AV.fzs k sz es cs)
  | .opt b x => .opt b (AV.fz k sz es x)
  | .v x => .v x
  | .lst sz l => .lst sz l
  | .iptr l => .iptr l
  | .ptr k off => .ptr k off
  | .eptr k sz i off => .eptr k sz i off
  | .yl k => .yl k
  | .cl f cs ds => .cl f cs ds
def AV.fzs (k sz : Nat) (es : List AV) : List AV -> List AV
  | [] => []
  | x :: l => AV.fz k sz es x :: AV.fzs k sz es l
end
theorem AV.fzs_eq (k sz : Nat) (es : List AV) : ∀ l, AV.fzs k sz es l = l.map (AV.fz k sz es)
 | [] => rfl
 | x :: l => by simp only [AV.fzs,List.map_cons,AV.fzs_eq k sz es l]
theorem AV.fz_one (k sz : Nat) (es : List AV) (x : AV) (h : x.one = true) : (x.fz k sz es).one = true := by
 cases x <;> simp only [AV.fz] <;> first | exact h | (split <;> rfl)
theorem rep_fz {g : Nat -> Array Value -> Prop} {S : Nat -> Nat -> Prop} {k sz : Nat} {es : List AV} {m : Nat -> Option Nat} {v : Value} {x : AV} (h : Rep g S m v x)
  (hb : ∀ b, m k = some b -> ∃ c : Array Value, g b c /\ es.length * sz <= c.size /\ es.length <= maxL /\ (∀ (i : Nat) (e : AV), es[i]? = some e -> e.cells.length = sz) /\
   (∀ (i j : Nat) (e x : AV),es[i]? = some e -> e.cells[j]? = some x -> x.one = true) /\
   ∀ (i j : Nat) (e : AV) (u : Value) (x : AV),es[i]? = some e -> e.cells[j]? = some x -> c[i * sz + j]? = some u -> Rep g S noKeys u x) : Rep g S m v (x.fz k sz es) := by
 induction h with
 | v x => exact .v x
 | lst0 a cap sz' => exact .lst0 a cap sz'
 | lst u hb' hc hl hs h1 hu hr _ => exact .lst u hb' hc hl hs h1 hu hr
 | iptr u hb' h1 hu hr _ => exact .iptr u hb' h1 hu hr
 | ptr h => exact .ptr h
 | eptr h => exact .eptr h
 | yl h => exact .yl h
 | opt h h' ih => exact .opt (fun hbb => ih hbb hb) h'
 | agg hn h1 hr ih =>
  simp only [AV.fz,AV.fzs_eq]
  refine .agg (by simpa using hn) ?_ ?_
  ·intro j c hc
   simp only [List.getElem?_map,Option.map_eq_some_iff] at hc
   obtain ⟨y,hy,rfl⟩ := hc
   exact AV.fz_one _ _ _ _ (h1 j y hy)
  ·intro j u c hu hc
   simp only [List.getElem?_map,Option.map_eq_some_iff] at hc
   obtain ⟨y,hy,rfl⟩ := hc
   exact ih j u y hu hy hb
 | tup hn hr ih =>
  simp only [AV.fz,AV.fzs_eq]
  refine .tup (by simpa using hn) ?_
  intro j u c hu hc
  simp only [List.getElem?_map,Option.map_eq_some_iff] at hc
  obtain ⟨y,hy,rfl⟩ := hc
  exact ih j u y hu hy hb
 | fn hn hr ih =>
  simp only [AV.fz,AV.fzs_eq]
  refine .fn (by simpa using hn) ?_
  intro j u c hu hc
  simp only [List.getElem?_map,Option.map_eq_some_iff] at hc
  obtain ⟨y,hy,rfl⟩ := hc
  exact ih j u y hu hy hb
 | cl hn hr hn' hr' _ _ => exact .cl hn hr hn' hr'
 | ms0 a k' sz' off =>
  simp only [AV.fz]
  split
  ·simp; exact .lst0 _ _ _
  ·exact .ms0 _ _ _ _
 | @ms mm k' sz' off len cap b hm hc hS =>
  simp only [AV.fz]
  split
  ·rename_i hcond
   simp only [Bool.and_eq_true,Nat.ble_eq] at hcond
   obtain ⟨⟨h1,h2⟩,h3⟩ := hcond
   obtain rfl := Nat.eq_of_beq_eq_true h1
   obtain rfl := Nat.eq_of_beq_eq_true h2
   obtain ⟨c,hgc,hsz,hml,hs,ho,hr⟩ := hb b hm
   have hlen : ((es.drop off).take len).length = len:=by simp; omega
   have hget : ∀ (i : Nat) (e : AV), ((es.drop off).take len)[i]? = some e -> es[off + i]? = some e := by
    intro i e he
    rw [List.getElem?_take] at he
    split at he
    ·rwa [List.getElem?_drop] at he
    ·cases he
   have hcell : ∀ (i j : Nat) (e x : AV), es[i]? = some e -> e.cells[j]? = some x -> ∃ u, c[i * sz' + j]? = some u := by
    intro i j e x he hx
    have hi : i < es.length := by
     rcases Nat.lt_or_ge i es.length with h | h
     ·exact h
     ·rw [List.getElem?_eq_none h] at he; cases he
    have hj : j < e.cells.length := by
     rcases Nat.lt_or_ge j e.cells.length with h | h
     ·exact h
     ·rw [List.getElem?_eq_none h] at hx; cases hx
    rw [hs i e he] at hj
    have := mul_lt_bound (sz := sz') hi
    exact ⟨_,Array.getElem?_eq_getElem (by omega)⟩
   have := Rep.lst (g := g) (S := S) (m := mm) (b := b) (off := off * sz') (cap := cap) (sz := sz') (es := (es.drop off).take len) (cs := c)
    (fun i j => c.getD ((off + i) * sz' + j) undef) hgc (by omega) (by omega) (fun i e he => hs _ e (hget i e he)) (fun i j e x he hx => ho _ j e x (hget i e he) hx)
    (fun i j e x he hx => by
     obtain ⟨u,hu⟩ := hcell _ j e x (hget i e he) hx
     rw [Array.getD_eq_getD_getElem?,hu,<- Nat.add_mul,hu]; rfl)
    (fun i j e x he hx => by
     obtain ⟨u,hu⟩ := hcell _ j e x (hget i e he) hx
     rw [Array.getD_eq_getD_getElem?,hu]
     exact hr _ j e u x (hget i e he) hx hu)
   rwa [hlen] at this
  ·exact .ms hm hc hS
def mapSl (f : AV -> AV) : Slots -> Slots
  | [] => []
  | (t,x) :: l => (t,match x with | some x => some (f x) | none => none) :: mapSl f l
theorem lk_mapSl (f : AV -> AV) : ∀ (l : Slots) (t : Nat), lk (mapSl f l) t = (lk l t).map f
 | [],t => rfl
 | (t', x) :: l, t => by
  simp only [mapSl,lk_cons,lk_mapSl f l t]
  split
  ·cases x <;> rfl
  ·rfl
def Blk.map (f : AV -> AV) : Blk -> Blk
  | .box cs => .box (cs.map f)
  | .row sz es => .row sz es
  | .loop d st pe sl => .loop d st pe (mapSl f sl)
  | .vec vs => .vec vs
theorem BlkRep.mapLoop {g g' : Nat -> Array Value -> Prop} {S S' : Nat -> Nat -> Prop} {m m' : Nat -> Option Nat} {w : World} {o : Option Nat} {d : LpD} {st : LoopState} {pe : Option Code} {sl : Slots} (f : AV -> AV)
  (h : BlkRep g S m w o (.loop d st pe sl)) (hf : ∀ t x v,lk sl t = some x -> Rep g S m v x -> Rep g' S' m' v (f x)) : BlkRep g' S' m' w o (.loop d st pe (mapSl f sl)) := by
 cases h with
 | loop h h1 h2 h3 h4 h5 hn hr =>
  refine .loop h h1 h2 h3 h4 h5 hn (fun t x hx => ?_)
  rw [lk_mapSl,Option.map_eq_some_iff] at hx
  obtain ⟨y,hy,rfl⟩ := hx
  exact ⟨(hr t y hy).1,hf t y _ hy (hr t y hy).2⟩
def mapHp (f : AV -> AV) (k : Nat) : Hp -> Hp
  | [] => []
  | (k',x) :: l => (k',match Nat.beq k' k with | true => none | false => match x with | some x => some (x.map f) | none => none) :: mapHp f k l
theorem lk_mapHp (f : AV -> AV) (k : Nat) : ∀ (l : Hp) (t : Nat), lk (mapHp f k l) t = if t = k then none else (lk l t).map (Blk.map f)
 | [],t => by simp [mapHp,lk]
 | (k', x) :: l, t => by
  simp only [mapHp,lk_cons,lk_mapHp f k l t]
  by_cases h1 : t = k'
  ·subst h1
   rw [if_pos rfl,if_pos rfl]
   cases hb : Nat.beq t k with
   | true => rw [if_pos (Nat.eq_of_beq_eq_true hb)]
   | false => rw [if_neg (Nat.ne_of_beq_eq_false hb)]; cases x <;> rfl
  ·rw [if_neg h1,if_neg h1]
theorem Wk.freeze {k sz : Nat} {es : List AV} (hk : s.blk k = some (.row sz es)) : Wk s ⟨mapSl (AV.fz k sz es) s.sl, mapHp (AV.fz k sz es) k s.hp⟩ := by
 intro C m a w hr
 refine ⟨m,?_⟩
 have hfew : ∀ k' z, lk ((k, none) :: s.hp) k' = some z -> lk s.hp k' = some z := by
  intro k' z hz
  rw [lk_cons] at hz
  split at hz
  ·cases hz
  ·exact hz
 have hr1 := hr.fewer hfew
 have hb : ∀ b, m k = some b -> ∃ c : Array Value, Im C.ext ((k, none) :: s.hp) m w b c /\ es.length * sz <= c.size /\ es.length <= maxL /\ (∀ (i : Nat) (e : AV), es[i]? = some e -> e.cells.length = sz) /\
   (∀ (i j : Nat) (e x : AV),es[i]? = some e -> e.cells[j]? = some x -> x.one = true) /\
   ∀ (i j : Nat) (e : AV) (u : Value) (x : AV),es[i]? = some e -> e.cells[j]? = some x -> c[i * sz + j]? = some u -> Rep (Im C.ext ((k,none) :: s.hp) m w) (Sz w) noKeys u x := by
  intro b hm
  obtain ⟨c,t,hw,hn,hl,hs,ho,hrr⟩ := blk_row hr.heap hk hm
  have him := im_mono (ext := C.ext) (Frame.refl (Own s.hp m) w) (hp' := (k,none) :: s.hp) (m' := m) (fun k' z b' hz hb' => .inl ⟨k',z,hfew k' z hz,hb'⟩)
  refine ⟨c,⟨(hr.heap.sep k _ b hk hm).1,?_,t,(0,0),hw⟩,hn,hl,hs,ho,fun i j e u x he hx hu => (hrr i j e u x he hx hu).mono him (fun _ _ h => h) (fun _ _ _ h => h)⟩
  rintro ⟨k',z,hz,hb'⟩
  have := hr.heap.inj k k' _ z b hk (hfew k' z hz) hm hb'
  subst this
  rw [lk_cons,if_pos rfl] at hz; cases hz
 have hown : ∀ k' z, lk (mapHp (AV.fz k sz es) k s.hp) k' = some z -> ∃ y, lk ((k, none) :: s.hp) k' = some y /\ z = y.map (AV.fz k sz es) := by
  intro k' z hz
  rw [lk_mapHp] at hz
  split at hz
  ·cases hz
  ·rename_i hne
   simp only [Option.map_eq_some_iff] at hz
   obtain ⟨y,hy,rfl⟩ := hz
   exact ⟨y,by rw [lk_cons,if_neg hne]; exact hy,rfl⟩
 have hown' : ∀ k' y, lk ((k, none) :: s.hp) k' = some y -> lk (mapHp (AV.fz k sz es) k s.hp) k' = some (y.map (AV.fz k sz es)) := by
  intro k' y hy
  rw [lk_cons] at hy
  split at hy
  ·cases hy
  ·rename_i hne
   rw [lk_mapHp,if_neg hne,hy]; rfl
 have e1 : Own (mapHp (AV.fz k sz es) k s.hp) m = Own ((k, none) :: s.hp) m := by
  funext b
  apply propext
  constructor
  ·rintro ⟨k',z,hz,hb⟩; obtain ⟨y,hy,_⟩ := hown k' z hz; exact ⟨k',y,hy,hb⟩
  ·rintro ⟨k',y,hy,hb⟩; exact ⟨k',_,hown' k' y hy,hb⟩
 have e2 : Im C.ext (mapHp (AV.fz k sz es) k s.hp) m w = Im C.ext ((k,none) :: s.hp) m w:=by funext b cs; simp only [Im,e1]
 refine ⟨?_,⟨?_,?_,?_⟩,hr1.frame,?_,?_,hr1.defers,hr1.nt⟩
 ·intro t x hx
  simp only [AS.get,lk_mapSl,Option.map_eq_some_iff] at hx
  obtain ⟨y,hy,rfl⟩ := hx
  obtain ⟨g1,g2⟩ := hr1.slots t y hy
  refine ⟨g1,?_⟩
  show Rep (Im C.ext (mapHp (AV.fz k sz es) k s.hp) m w) _ _ _ _
  rw [e2]
  exact rep_fz g2 hb
 ·intro k' z hz
  obtain ⟨y,hy,rfl⟩ := hown k' z hz
  rw [e2]
  have := hr1.heap.blk k' y hy
  cases y with
  | row sz' es' => exact this
  | vec vs =>
   simp only [Blk.map]
   generalize m k' = o at this
   cases this with
   | vec hw hc h1 => exact .vec hw hc h1
  | loop => exact this.mapLoop _ (fun _ _ _ _ h => rep_fz h hb)
  | box cs =>
   simp only [Blk.map]
   generalize m k' = o at this
   cases this with
   | box hw hn h1 hrr =>
    refine .box hw (by simpa using hn) ?_ ?_
    ·intro j x hx
     simp only [List.getElem?_map,Option.map_eq_some_iff] at hx
     obtain ⟨y,hy,rfl⟩ := hx
     exact AV.fz_one _ _ _ _ (h1 j y hy)
    ·intro j u x hu hx
     simp only [List.getElem?_map,Option.map_eq_some_iff] at hx
     obtain ⟨y,hy,rfl⟩ := hx
     exact rep_fz (hrr j u y hu hy) hb
 ·intro k1 k2 z1 z2 b g1 g2
  obtain ⟨y1,hy1,_⟩ := hown k1 z1 g1
  obtain ⟨y2,hy2,_⟩ := hown k2 z2 g2
  exact hr1.heap.inj k1 k2 y1 y2 b hy1 hy2
 ·intro k' z b hz hb
  obtain ⟨y,hy,_⟩ := hown k' z hz
  exact hr1.heap.sep k' y b hy hb
 ·intro k' z b hz hb
  obtain ⟨y,hy,_⟩ := hown k' z hz
  exact hr1.new k' y b hy hb
 ·intro k' z h1000 hz
  obtain ⟨y,hy,_⟩ := hown k' z hz
  exact hr1.keep k' y h1000 hy
mutual
def AV.rn (k d : Nat) : AV -> AV
  | .ms k' sz off len => match Nat.beq k' k with
    | true => .ms d sz off len
    | false => .ms k' sz off len
  | .ptr k' off => match Nat.beq k' k with
    | true => .ptr d off
    | false => .ptr k' off
  | .eptr k' sz i off => match Nat.beq k' k with
    | true => .eptr d sz i off
    | false => .eptr k' sz i off
  | .agg cs => .agg (AV.rns k d cs)
  | .tup cs => .tup (AV.rns k d cs)
  | .fn f cs => .fn f (AV.rns k d cs)
  | .opt b x => .opt b (AV.rn k d x)
  | .yl k' => match Nat.beq k' k with
    | true => .yl d
    | false => .yl k'
  | .cl f cs ds => .cl f cs ds
  | .v x => .v x
  | .lst sz l => .lst sz l
  | .iptr l => .iptr l
def AV.rns (k d : Nat) : List AV -> List AV
  | [] => []
  | x :: l => AV.rn k d x :: AV.rns k d l
end
theorem AV.rns_eq (k d : Nat) : ∀ l, AV.rns k d l = l.map (AV.rn k d)
 | [] => rfl
 | x :: l => by simp only [AV.rns,List.map_cons,AV.rns_eq k d l]
theorem AV.rn_one (k d : Nat) (x : AV) (h : x.one = true) : (x.rn k d).one = true := by
 cases x <;> simp only [AV.rn] <;> first | exact h | (split <;> rfl)
theorem rep_rn {g : Nat -> Array Value -> Prop} {S : Nat -> Nat -> Prop} {k d : Nat} {m m' : Nat -> Option Nat} {v : Value} {x : AV} (h : Rep g S m v x) (hd : ¬ x.Names d)
  (h1 : m' d = m k) (h2 : ∀ k',k' ≠ d -> m' k' = m k') : Rep g S m' v (x.rn k d) := by
 induction h with
 | v x => exact .v x
 | lst0 a cap sz' => exact .lst0 a cap sz'
 | lst u hb hc hl hs ho hu hr _ => exact .lst u hb hc hl hs ho hu hr
 | iptr u hb ho hu hr _ => exact .iptr u hb ho hu hr
 | @ptr _ k' off b hm =>
  simp only [AV.rn]
  split
  ·rename_i hk; obtain rfl := Nat.eq_of_beq_eq_true hk; exact .ptr (h1.trans hm)
  ·exact .ptr ((h2 _ (fun e => hd (e ▸ .ptr _ _))).trans hm)
 | @eptr _ k' sz i off b hm =>
  simp only [AV.rn]
  split
  ·rename_i hk; obtain rfl := Nat.eq_of_beq_eq_true hk; exact .eptr (h1.trans hm)
  ·exact .eptr ((h2 _ (fun e => hd (e ▸ .eptr _ _ _ _))).trans hm)
 | ms0 a k' sz' off =>
  simp only [AV.rn]
  split <;> exact .ms0 _ _ _ _
 | cl hn hr hn' hr' _ _ => exact .cl hn hr hn' hr'
 | @yl _ k' b hm =>
  simp only [AV.rn]
  split
  ·rename_i hk; obtain rfl := Nat.eq_of_beq_eq_true hk; exact .yl (h1.trans hm)
  ·exact .yl ((h2 _ (fun e => hd (e ▸ .yl _))).trans hm)
 | @ms _ k' sz' off len cap b hm hc hS =>
  simp only [AV.rn]
  split
  ·rename_i hk; obtain rfl := Nat.eq_of_beq_eq_true hk; exact .ms (h1.trans hm) hc hS
  ·exact .ms ((h2 _ (fun e => hd (e ▸ .ms _ _ _ _))).trans hm) hc hS
 | opt h h' ih => exact .opt (fun hb => ih hb (fun hn => hd (.opt hn)) h1 h2) h'
 | agg hn h1' hr ih =>
  simp only [AV.rn,AV.rns_eq]
  refine .agg (by simpa using hn) ?_ ?_
  ·intro j c hc
   simp only [List.getElem?_map,Option.map_eq_some_iff] at hc
   obtain ⟨y,hy,rfl⟩ := hc
   exact AV.rn_one _ _ _ (h1' j y hy)
  ·intro j u c hu hc
   simp only [List.getElem?_map,Option.map_eq_some_iff] at hc
   obtain ⟨y,hy,rfl⟩ := hc
   exact ih j u y hu hy (fun hn => hd (.agg (List.mem_of_getElem? hy) hn)) h1 h2
 | tup hn hr ih =>
  simp only [AV.rn,AV.rns_eq]
  refine .tup (by simpa using hn) ?_
  intro j u c hu hc
  simp only [List.getElem?_map,Option.map_eq_some_iff] at hc
  obtain ⟨y,hy,rfl⟩ := hc
  exact ih j u y hu hy (fun hn => hd (.tup (List.mem_of_getElem? hy) hn)) h1 h2
 | fn hn hr ih =>
  simp only [AV.rn,AV.rns_eq]
  refine .fn (by simpa using hn) ?_
  intro j u c hu hc
  simp only [List.getElem?_map,Option.map_eq_some_iff] at hc
  obtain ⟨y,hy,rfl⟩ := hc
  exact ih j u y hu hy (fun hn => hd (.fn (List.mem_of_getElem? hy) hn)) h1 h2
def renHp (k d : Nat) (y : Blk) (hp : Hp) : Hp := (d,some (y.map (AV.rn k d))) :: mapHp (AV.rn k d) k hp
theorem lk_renHp {k d : Nat} {y : Blk} {hp : Hp} {k' : Nat} {z : Blk} (h : lk (renHp k d y hp) k' = some z) :
  ∃ y',lk ((d,some y) :: (k,none) :: hp) k' = some y' /\ z = y'.map (AV.rn k d) := by
 unfold renHp at h
 rw [lk_cons] at h ⊢
 split at h
 ·rename_i he; rw [if_pos he]; cases h; exact ⟨y,rfl,rfl⟩
 ·rename_i he
  rw [if_neg he,lk_cons]
  rw [lk_mapHp] at h
  split at h
  ·cases h
  ·rename_i hk
   rw [if_neg hk]
   simp only [Option.map_eq_some_iff] at h
   obtain ⟨y',hy',rfl⟩ := h
   exact ⟨y',hy',rfl⟩
theorem Wk.rekey {k d : Nat} {y : Blk} (hk : s.blk k = some y) (hd : s.freshB d = true) : Wk s ⟨mapSl (AV.rn k d) s.sl, renHp k d y s.hp⟩ := by
 intro C m a w hr
 have hfr := AS.fresh_of hd
 have hr1 := hr.rekey hk hfr
 refine ⟨fun k' => if k' = d then m k else m k',?_⟩
 have hown' : ∀ k' y', lk ((d, some y) :: (k, none) :: s.hp) k' = some y' -> lk (renHp k d y s.hp) k' = some (y'.map (AV.rn k d)) := by
  intro k' y' h
  unfold renHp
  rw [lk_cons] at h ⊢
  split at h
  ·rename_i he; rw [if_pos he]; cases h; rfl
  ·rename_i he
   rw [if_neg he,lk_mapHp]
   rw [lk_cons] at h
   split at h
   ·cases h
   ·rename_i hk'; rw [if_neg hk',h]; rfl
 have e1 : Own (renHp k d y s.hp) (fun k' => if k' = d then m k else m k') = Own ((d, some y) :: (k, none) :: s.hp) (fun k' => if k' = d then m k else m k') := by
  funext b
  apply propext
  constructor
  ·rintro ⟨k',z,hz,hb⟩; obtain ⟨y',hy',_⟩ := lk_renHp hz; exact ⟨k',y',hy',hb⟩
  ·rintro ⟨k',y',hy',hb⟩; exact ⟨k',_,hown' k' y' hy',hb⟩
 have e2 : Im C.ext (renHp k d y s.hp) (fun k' => if k' = d then m k else m k') w = Im C.ext ((d, some y) :: (k, none) :: s.hp) (fun k' => if k' = d then m k else m k') w := by
  funext b cs; simp only [Im,e1]
 have him := im_mono (ext := C.ext) (Frame.refl (Own s.hp m) w) (hp' := (d, some y) :: (k, none) :: s.hp) (m' := fun k' => if k' = d then m k else m k') (by
  intro k' z b hz hb
  rw [lk_cons] at hz
  split at hz
  ·rename_i he; rw [if_pos he] at hb; exact .inl ⟨k,y,hk,hb⟩
  ·rename_i he; rw [if_neg he] at hb
   rw [lk_cons] at hz
   split at hz
   ·cases hz
   ·exact .inl ⟨k',z,hz,hb⟩)
 have hrn : ∀ v x, ¬ AV.Names x d -> Rep (Im C.ext s.hp m w) (Sz w) m v x -> Rep (Im C.ext ((d, some y) :: (k, none) :: s.hp) (fun k' => if k' = d then m k else m k') w) (Sz w) (fun k' => if k' = d then m k else m k') v (x.rn k d) := by
  intro v x hx h
  exact rep_rn (h.mono him (fun _ _ h => h) (fun _ _ _ h => h)) hx (if_pos rfl) (fun k' hne => if_neg hne)
 refine ⟨?_,⟨?_,?_,?_⟩,hr1.frame,?_,?_,hr1.defers,hr1.nt⟩
 ·intro t x hx
  simp only [AS.get,lk_mapSl,Option.map_eq_some_iff] at hx
  obtain ⟨z,hz,rfl⟩ := hx
  obtain ⟨g1,g2⟩ := hr.slots t z hz
  refine ⟨g1,?_⟩
  show Rep (Im C.ext (renHp k d y s.hp) _ w) _ _ _ _
  rw [e2]
  exact hrn _ _ (hfr.2.2.1 t z hz) g2
 ·intro k' z hz
  obtain ⟨y',hy',rfl⟩ := lk_renHp hz
  rw [e2]
  have hold : ∃ k0, lk s.hp k0 = some y' /\ (if k' = d then m k else m k') = m k0 := by
   rw [lk_cons] at hy'
   split at hy'
   ·rename_i he; cases hy'; exact ⟨k,hk,if_pos he⟩
   ·rename_i he
    rw [lk_cons] at hy'
    split at hy'
    ·cases hy'
    ·exact ⟨k',hy',if_neg he⟩
  obtain ⟨k0,hk0,hm0⟩ := hold
  rw [hm0]
  have hb := hr.heap.blk k0 y' hk0
  have hnd := hfr.2.2.2 k0 y' hk0
  cases y' with
  | row sz es => exact BlkRep.mono (w := w) him (fun _ _ h => h) (fun _ _ h => h.elim) rfl (fun _ _ => rfl) hb
  | vec vs => exact BlkRep.mono (w := w) him (fun _ _ h => h) (fun _ _ h => h.elim) rfl (fun _ _ => rfl) hb
  | loop => exact hb.mapLoop _ (fun t x v hx h => hrn v x (fun hn => hnd ⟨t,x,mem_of_lk hx,hn⟩) h)
  | box cs =>
   simp only [Blk.map]
   generalize m k0 = o at hb
   cases hb with
   | box hw hn h1 hrr =>
    refine .box hw (by simpa using hn) ?_ ?_
    ·intro j x hx
     simp only [List.getElem?_map,Option.map_eq_some_iff] at hx
     obtain ⟨z,hz,rfl⟩ := hx
     exact AV.rn_one _ _ _ (h1 j z hz)
    ·intro j u x hu hx
     simp only [List.getElem?_map,Option.map_eq_some_iff] at hx
     obtain ⟨z,hz,rfl⟩ := hx
     exact hrn u z (fun hn => hnd ⟨z,List.mem_of_getElem? hz,hn⟩) (hrr j u z hu hz)
 ·intro k1 k2 z1 z2 b g1 g2
  obtain ⟨y1,hy1,_⟩ := lk_renHp g1
  obtain ⟨y2,hy2,_⟩ := lk_renHp g2
  exact hr1.heap.inj k1 k2 y1 y2 b hy1 hy2
 ·intro k' z b hz hb
  obtain ⟨y',hy',_⟩ := lk_renHp hz
  exact hr1.heap.sep k' y' b hy' hb
 ·intro k' z b hz hb
  obtain ⟨y',hy',_⟩ := lk_renHp hz
  exact hr1.new k' y' b hy' hb
 ·intro k' z h1000 hz
  obtain ⟨y',hy',_⟩ := lk_renHp hz
  exact hr1.keep k' y' h1000 hy'
theorem Wk.virt (d sz : Nat) (hd : s.freshB d = true) : Wk s ⟨s.sl, (d, some (.row sz [])) :: s.hp⟩ :=
 fun C m a w hr => ⟨_,hr.virt sz (AS.fresh_of hd)⟩
theorem Sub.nilMs (a : Option Addr) (d sz : Nat) : Sub (.v (.slice a 0 0)) (.ms d sz 0 0) := fun g S m v h => by cases h; exact .ms0 _ _ _ _
theorem Sub.trans {x y z : AV} (h : Sub x y) (h' : Sub y z) : Sub x z := fun g S m v hr => h' g S m v (h g S m v hr)
theorem Fin.keep {x : AV} {H' : Hp} (h : ∀ k z, lk H' k = some z -> lk s.hp k = some z) : Fin s x x H' := by
 intro ext m w v hh hext hx
 have him := im_mono (ext := ext) (Frame.refl (Own s.hp m) w) (hp' := H') (m' := m) (fun k' z b hz hb => .inl ⟨k',z,h k' z hz,hb⟩)
 refine ⟨m,⟨?_,?_,?_⟩,fun k z b hz hb => ⟨k,z,h k z hz,hb⟩,fun k z _ hz => ⟨⟨z,h k z hz⟩,rfl⟩,hx.mono him (fun _ _ h => h) (fun _ _ _ h => h)⟩
 ·intro k z hz
  exact BlkRep.mono (w := w) him (fun _ _ h => h) (fun _ _ _ h => h) rfl (fun _ _ => rfl) (hh.blk k z (h k z hz))
 ·intro k k' z z' b h1 h2; exact hh.inj k k' z z' b (h _ _ h1) (h _ _ h2)
 ·intro k z b hz hb; exact hh.sep k z b (h k z hz) hb
theorem Fin.sub {x r r' : AV} {H' : Hp} (h : Fin s x r H') (hs : Sub r r') : Fin s x r' H' := by
 intro ext m w v hh hext hx
 obtain ⟨m',h1,h2,h3,h4⟩ := h ext m w v hh hext hx
 exact ⟨m',h1,h2,h3,hs _ _ _ _ h4⟩
theorem Fin.pure {x : AV} : Fin s x x [] := .keep (fun k z h => by cases h)
end Go.Lw
namespace Go.Lw
abbrev B : Nat := 4294967296
def val : List Nat -> Nat
  | [] => 0
  | x :: l => x + 4294967296 * val l
def Ws (l : List Nat) : Prop := ∀ x ∈ l,x < 4294967296
def ofNatF : Nat -> Nat -> List Nat
  | 0,_ => []
  | f + 1, n => match n with
    | 0 => []
    | n + 1 => ((n + 1) % 4294967296) :: ofNatF f ((n + 1) / 4294967296)
def ofNat (n : Nat) : List Nat := ofNatF (n.log2 / 32 + 1) n
def Nz (l : List Nat) : Prop := ∀ x,l.getLast? = some x -> x ≠ 0
theorem val_append (a b : List Nat) : val (a ++ b) = val a + 4294967296 ^ a.length * val b := by
 induction a with
 | nil => simp [val]
 | cons x a ih => simp only [List.cons_append,val,ih,List.length_cons,Nat.pow_succ]; grind
theorem val_lt (l : List Nat) (h : Ws l) : val l < 4294967296 ^ l.length := by
 induction l with
 | nil => simp [val]
 | cons x l ih =>
  have h1 := h x (by simp)
  have h2 := ih (fun y hy => h y (by simp [hy]))
  simp only [val,List.length_cons,Nat.pow_succ]
  omega
theorem val_zeros (n : Nat) : val (List.replicate n 0) = 0 := by
 induction n with
 | zero => rfl
 | succ n ih => simp [List.replicate_succ,val,ih]
theorem ofNatF_zero (f : Nat) : ofNatF f 0 = []:=by cases f <;> rfl
theorem ofNatF_succ (f n : Nat) (h : n ≠ 0) : ofNatF (f + 1) n = (n % 4294967296) :: ofNatF f (n / 4294967296) := by
 cases n with
 | zero => exact absurd rfl h
 | succ n => rfl
theorem val_ofNatF : ∀ (f n : Nat), n < 4294967296 ^ f -> val (ofNatF f n) = n := by
 intro f
 induction f with
 | zero => intro n h; simp at h; subst h; rfl
 | succ f ih =>
  intro n h
  by_cases h0 : n = 0
  ·subst h0; rfl
  ·rw [ofNatF_succ f n h0]
   simp only [val]
   rw [ih _ (by rw [Nat.pow_succ] at h; exact Nat.div_lt_of_lt_mul (by rw [Nat.mul_comm]; exact h))]
   omega
theorem ws_ofNatF : ∀ (f n : Nat), Ws (ofNatF f n) := by
 intro f
 induction f with
 | zero => intro n x h; simp [ofNatF] at h
 | succ f ih =>
  intro n
  by_cases h0 : n = 0
  ·subst h0; intro x h; simp [ofNatF] at h
  ·rw [ofNatF_succ f n h0]
   intro x h
   rcases List.mem_cons.1 h with rfl | h
   ·omega
   ·exact ih _ x h
theorem nz_ofNatF : ∀ (f n : Nat), n < 4294967296 ^ f -> Nz (ofNatF f n) := by
 intro f
 induction f with
 | zero => intro n h x hx; simp [ofNatF] at hx
 | succ f ih =>
  intro n h
  by_cases h0 : n = 0
  ·subst h0; intro x hx; simp [ofNatF] at hx
  ·rw [ofNatF_succ f n h0]
   have hd : n / 4294967296 < 4294967296 ^ f:=by rw [Nat.pow_succ] at h; exact Nat.div_lt_of_lt_mul (by rw [Nat.mul_comm]; exact h)
   intro x hx
   by_cases h1 : n / 4294967296 = 0
   ·rw [h1, ofNatF_zero] at hx
    simp at hx
    omega
   ·have h2 := ih _ hd x
    cases hq : ofNatF f (n / 4294967296) with
    | nil =>
     have := val_ofNatF f _ hd
     rw [hq] at this
     simp [val] at this
     omega
    | cons y ys =>
     rw [hq] at hx h2
     rw [List.getLast?_cons_cons] at hx
     exact h2 hx
theorem lt_pow_log (n : Nat) : n < 4294967296 ^ (n.log2 / 32 + 1) := by
 have h1 : n < 2 ^ (n.log2 + 1) := Nat.lt_log2_self
 have h2 : (4294967296 : Nat) = 2 ^ 32:=by decide
 rw [h2,<- Nat.pow_mul]
 exact Nat.lt_of_lt_of_le h1 (Nat.pow_le_pow_right (by decide) (by omega))
theorem val_ofNat (n : Nat) : val (ofNat n) = n := val_ofNatF _ _ (lt_pow_log n)
theorem ws_ofNat (n : Nat) : Ws (ofNat n) := ws_ofNatF _ _
theorem nz_ofNat (n : Nat) : Nz (ofNat n) := nz_ofNatF _ _ (lt_pow_log n)
theorem nz_tail {x : Nat} {l : List Nat} (h : Nz (x :: l)) : Nz l := by
 intro y hy
 cases l with
 | nil => simp at hy
 | cons z l => exact h y (by rw [List.getLast?_cons_cons]; exact hy)
theorem val_inj : ∀ (a b : List Nat), Ws a -> Ws b -> Nz a -> Nz b -> val a = val b -> a = b := by
 have key : ∀ (l : List Nat), Nz l -> val l = 0 -> l = [] := by
  intro l
  induction l with
  | nil => intro _ _; rfl
  | cons x l ih =>
   intro hn hv
   simp only [val] at hv
   have := ih (nz_tail hn) (by omega)
   subst this
   exact absurd (by omega : x = 0) (hn x rfl)
 intro a
 induction a with
 | nil => intro b _ _ _ hb hv; exact (key b hb hv.symm).symm
 | cons x a ih =>
  intro b ha hb hna hnb hv
  cases b with
  | nil => exact key _ hna hv
  | cons y b =>
   have h1 := ha x (by simp)
   have h2 := hb y (by simp)
   simp only [val] at hv
   have := ih b (fun z hz => ha z (by simp [hz])) (fun z hz => hb z (by simp [hz])) (nz_tail hna) (nz_tail hnb) (by omega)
   subst this
   rw [show x = y by omega]
theorem ofNat_val {l : List Nat} (h : Ws l) (hn : Nz l) : ofNat (val l) = l :=
 val_inj _ _ (ws_ofNat _) h (nz_ofNat _) hn (val_ofNat _)
theorem ofNat_eq {l : List Nat} {n : Nat} (h : Ws l) (hn : Nz l) (hv : val l = n) : l = ofNat n:=by subst hv; exact (ofNat_val h hn).symm
theorem ofNat_zero : ofNat 0 = [] := rfl
theorem val_pos {l : List Nat} (hn : Nz l) (h : l ≠ []) : 0 < val l := by
 rcases Nat.eq_zero_or_pos (val l) with h0 | h0
 ·exfalso
  induction l with
  | nil => exact h rfl
  | cons x l ih =>
   simp only [val] at h0
   by_cases hl : l = []
   ·subst hl; exact hn x rfl (by omega)
   ·exact ih (nz_tail hn) hl (by omega)
 ·exact h0
theorem ofNat_length_le {n k : Nat} (h : n < 4294967296 ^ k) : (ofNat n).length <= k := by
 have hv := val_ofNat n
 rcases Nat.lt_or_ge k (ofNat n).length with hlt | hge
 ·exfalso
  have hne : ofNat n ≠ []:=by intro e; rw [e] at hlt; simp at hlt
  have hsplit : ofNat n = (ofNat n).dropLast ++ [(ofNat n).getLast hne] := (List.dropLast_concat_getLast hne).symm
  have hlast : (ofNat n).getLast hne ≠ 0 := nz_ofNat n _ (List.getLast?_eq_some_getLast hne)
  have hval : val (ofNat n) = val (ofNat n).dropLast + 4294967296 ^ (ofNat n).dropLast.length * (ofNat n).getLast hne := by
   conv => lhs; rw [hsplit]
   rw [val_append]; simp [val]
  have hlen : (ofNat n).dropLast.length = (ofNat n).length - 1 := List.length_dropLast
  have h1 : 4294967296 ^ k <= 4294967296 ^ (ofNat n).dropLast.length := Nat.pow_le_pow_right (by decide) (by omega)
  have h2 : 4294967296 ^ (ofNat n).dropLast.length * 1 <= 4294967296 ^ (ofNat n).dropLast.length * (ofNat n).getLast hne := Nat.mul_le_mul_left _ (by omega)
  omega
 ·exact hge
theorem val_take_succ {l : List Nat} {i x : Nat} (h : l[i]? = some x) : val (l.take (i + 1)) = val (l.take i) + 4294967296 ^ i * x := by
 have hi : i < l.length := by
  rcases Nat.lt_or_ge i l.length with h' | h'
  ·exact h'
  ·rw [List.getElem?_eq_none h'] at h; cases h
 rw [List.take_add_one,h,val_append]
 simp [val,List.length_take]
 rw [Nat.min_eq_left (by omega)]
theorem val_take_ge {l : List Nat} {i : Nat} (h : l.length <= i) : val (l.take i) = val l:=by rw [List.take_of_length_le h]
end Go.Lw
namespace Go.Lw
variable {P : Program} {N : Nat} {R : Array Oper} {s : AS}
def newOkB (s : AS) (u : Out) : Bool := u.upd.all fun p => u.rd.contains p.1 || s.freshB p.1
theorem newOk_of {u : Out} (h : newOkB s u = true) : NewOk s u := by
 intro k hk
 obtain ⟨p,hp,rfl⟩ := List.mem_map.1 hk
 have := List.all_eq_true.1 h p hp
 simp only [Bool.or_eq_true] at this
 rcases this with h | h
 ·exact .inl (by simpa using h)
 ·exact .inr (AS.fresh_of h)
theorem con_of0 {f : FuncId} {fn : Func} {c : Code} {rs : List ResultVar} {args : List AV} {r : AV} (hf : P.funcs[f]? = some fn) (hb : fn.body = some c)
  (hn : (fn.name == "runtime.NumGoroutine") = false) (hrs : fn.results = rs.toArray) (hN : fn.ntmps = N)
  (h : AWP P N c (EndQ P rs r []) ⟨initSl 0 args,[]⟩) : FnC P f args r :=
 con_of hf hb hn hrs hN (fun k z h => by cases h) h
theorem fin_eq1 {x r : AV} (h : x = r) : Fin s (resT [x]) r [] := h ▸ Fin.pure
theorem fin_sub1 {x r : AV} (h : Sub x r) : Fin s (resT [x]) r [] := Fin.pure.sub h
theorem fin_eq2 {x y r : AV} (h : AV.tup [x,y] = r) : Fin s (resT [x,y]) r [] := h ▸ Fin.pure
theorem fin_eq3 {x y z r : AV} (h : AV.tup [x,y,z] = r) : Fin s (resT [x,y,z]) r [] := h ▸ Fin.pure
theorem fin_sub {x r : AV} (h : Sub x r) : Fin s x r [] := Fin.pure.sub h
theorem s_shrW {d : Nat} {x y : Operand} {k k' : IntKind} {a b c : Int} {S T t : TypeId} {pos : String} {after : Array Edge}
  (hx : Ev s x (.v (.int k a))) (hy : Ev s y (.v (.int k' b))) (hb : 0 <= b) (hc : a.fdiv (2 ^ (min b.toNat k.bits)) = c) (hN : Nat.blt d N = true) :
  Step P N R s ⟨some d,.binOp .shr S x y T,t,pos,after,none⟩ ⟨some (.v (.int k c)),[],rtOf x ++ rtOf y,[]⟩ := hc ▸ s_shr hx hy hb hN
theorem s_shlW {d : Nat} {x y : Operand} {k k' : IntKind} {a b c : Int} {S T t : TypeId} {pos : String} {after : Array Edge}
  (hx : Ev s x (.v (.int k a))) (hy : Ev s y (.v (.int k' b))) (hb : 0 <= b) (hc : k.wrap (a * 2 ^ (min b.toNat k.bits)) = c) (hN : Nat.blt d N = true) :
  Step P N R s ⟨some d,.binOp .shl S x y T,t,pos,after,none⟩ ⟨some (.v (.int k c)),[],rtOf x ++ rtOf y,[]⟩ := hc ▸ s_shl hx hy hb hN
theorem s_quoW {d : Nat} {x y : Operand} {k : IntKind} {a b c : Int} {S T t : TypeId} {pos : String} {after : Array Edge}
  (hx : Ev s x (.v (.int k a))) (hy : Ev s y (.v (.int k b))) (hb : b ≠ 0) (hc : k.wrap (a.tdiv b) = c) (hN : Nat.blt d N = true) :
  Step P N R s ⟨some d,.binOp .quo S x y T,t,pos,after,none⟩ ⟨some (.v (.int k c)),[],rtOf x ++ rtOf y,[]⟩ := hc ▸ s_quo hx hy hb hN
theorem s_remW {d : Nat} {x y : Operand} {k : IntKind} {a b c : Int} {S T t : TypeId} {pos : String} {after : Array Edge}
  (hx : Ev s x (.v (.int k a))) (hy : Ev s y (.v (.int k b))) (hb : b ≠ 0) (hc : a.tmod b = c) (hN : Nat.blt d N = true) :
  Step P N R s ⟨some d,.binOp .rem S x y T,t,pos,after,none⟩ ⟨some (.v (.int k c)),[],rtOf x ++ rtOf y,[]⟩ := hc ▸ s_rem hx hy hb hN
theorem s_bitsW {d : Nat} {op : BinOp} {x y : Operand} {k : IntKind} {a b c : Int} {S T t : TypeId} {pos : String} {after : Array Edge}
  (hx : Ev s x (.v (.int k a))) (hy : Ev s y (.v (.int k b))) (hop : (match op with | .and | .or | .xor | .andNot => true | _ => false) = true) (hc : ibits op k a b = c) (hN : Nat.blt d N = true) :
  Step P N R s ⟨some d,.binOp op S x y T,t,pos,after,none⟩ ⟨some (.v (.int k c)),[],rtOf x ++ rtOf y,[]⟩ := hc ▸ s_bits hx hy hop hN
theorem s_stElem {x y : Operand} {k sz i : Nat} {es : List AV} {e v : AV} {T t : TypeId} {ti : TI} {pos : String} {after : Array Edge}
  (hx : Ev s x (.eptr k sz i 0)) (hk : s.blk k = some (.row sz es)) (he : es[i]? = some e) (hel : e.cells.length = sz) (hy : Ev s y v) (hv : v.ok = true) (hnm : v.nm = []) (hT : tinfo P T = some ti)
  (hsz : Nat.beq v.cells.length ti.size = true) (hs : Nat.beq ti.size sz = true) :
  Step P N R s ⟨none,.store T x y,t,pos,after,none⟩ ⟨none,[(k,some (.row sz (es.set i v)))],rtOf x ++ rtOf y,[k]⟩ := by
 have h1 := Nat.eq_of_beq_eq_true hsz
 have h2 := Nat.eq_of_beq_eq_true hs
 refine s_stEptr hx hk he hy hv hnm hT hsz (by rw [Nat.ble_eq]; omega) ?_
 unfold over
 rw [List.take_zero,List.nil_append,List.drop_eq_nil_of_le (by omega),List.append_nil]
theorem Sub.int {k : IntKind} {a b : Int} (h : a = b) : Sub (.v (.int k a)) (.v (.int k b)) := h ▸ .refl _
theorem BlkSub.of {x y : Blk} (h : x = y) : BlkSub x y := h ▸ .refl _
theorem Sub.of {x y : AV} (h : x = y) : Sub x y := h ▸ .refl _
theorem getx {α : Type} {l : List α} {i : Nat} (h : i < l.length) : ∃ x,l[i]? = some x := ⟨_,List.getElem?_eq_getElem h⟩
theorem getmap {α : Type} {f : α -> AV} {l : List α} {i : Nat} {x : α} (h : l[i]? = some x) : (l.map f)[i]? = some (f x):=by simp [h]
theorem awp_len {c : Code} {Q : Exit -> AS -> Prop} {t sz : Nat} {es : List AV} (ht : s.get t = some (.lst sz es)) (h : es.length <= maxL -> AWP P N c Q s) : AWP P N c Q s := by
 refine awp_fact (p := es.length <= maxL) ?_ h
 intro C m a w hr
 obtain ⟨_,h2⟩ := hr.slots t _ ht
 generalize a.tmps.getD t undef = u at h2
 cases h2 with
 | lst0 => exact Nat.zero_le _
 | lst u hb hc hl => exact hl
theorem u64_add {x y : Nat} (h : x + y < 18446744073709551616) : IntKind.u64.wrap (iarith .add (x : Int) (y : Int)) = ((x + y : Nat) : Int) := by
 show IntKind.u64.wrap ((x : Int) + y) = _
 rw [IntWalk.u64_in _ (by omega)]; simp
theorem u64_mul {x y : Nat} (h : x * y < 18446744073709551616) : IntKind.u64.wrap (iarith .mul (x : Int) (y : Int)) = ((x * y : Nat) : Int) := by
 show IntKind.u64.wrap ((x : Int) * y) = _
 rw [<- Int.natCast_mul,IntWalk.u64_in _ (by omega)]
theorem u64_sub {x y : Nat} (hx : x < 18446744073709551616) (hy : y < 18446744073709551616) :
  IntKind.u64.wrap (iarith .sub (x : Int) (y : Int)) = ((if y <= x then x - y else x + 18446744073709551616 - y : Nat) : Int) := by
 show IntKind.u64.wrap ((x : Int) - y) = _
 simp only [IntKind.wrap,IntKind.signed,IntKind.bits,Bool.false_and,if_false,Bool.false_eq_true]
 split <;> omega
theorem u32_wrap (x : Nat) : IntKind.u32.wrap (x : Int) = ((x % 4294967296 : Nat) : Int) := by
 simp only [IntKind.wrap,IntKind.signed,IntKind.bits,Bool.false_and,if_false,Bool.false_eq_true]
 omega
theorem u64_in {x : Nat} (h : x < 18446744073709551616) : IntKind.u64.wrap (x : Int) = (x : Int) := IntWalk.u64_in _ (by omega)
theorem u32_in {x : Nat} (h : x < 4294967296) : IntKind.u32.wrap (x : Int) = (x : Int) := IntWalk.u32_in _ (by omega)
theorem i64_in {x : Int} (h : -9223372036854775808 <= x /\ x <= 9223372036854775807) : IntKind.i64.wrap x = x := IntWalk.i64_in _ h
theorem u64_shr (x n : Nat) (hn : n <= 64) : (x : Int).fdiv (2 ^ (min (n : Int).toNat IntKind.u64.bits)) = ((x / 2 ^ n : Nat) : Int) := by
 have : min (n : Int).toNat IntKind.u64.bits = n:=by simp [IntKind.bits]; omega
 rw [this,Int.fdiv_eq_ediv_of_nonneg _ (Int.le_of_lt (Int.pow_pos (by decide)))]
 simp
theorem i64_sub1 {x : Nat} (h : 0 < x) (hx : x <= maxL) : IntKind.i64.wrap (iarith .sub (x : Int) 1) = ((x - 1 : Nat) : Int) := by
 show IntKind.i64.wrap ((x : Int) - 1) = _
 unfold maxL at hx
 rw [IntWalk.i64_in _ (by omega)]; omega
theorem i64_add1 {x : Nat} (hx : x <= maxL) : IntKind.i64.wrap (iarith .add (x : Int) 1) = ((x + 1 : Nat) : Int) := by
 show IntKind.i64.wrap ((x : Int) + 1) = _
 unfold maxL at hx
 rw [IntWalk.i64_in _ (by omega)]; omega
theorem i64_addN {x y : Nat} (hx : x <= maxL) (hy : y <= maxL) : IntKind.i64.wrap (iarith .add (x : Int) (y : Int)) = ((x + y : Nat) : Int) := by
 show IntKind.i64.wrap ((x : Int) + y) = _
 unfold maxL at hx hy
 rw [IntWalk.i64_in _ (by omega)]; omega
abbrev big : Nat := 1099511627776
def i64 (n : Int) : AV := .v (.int .i64 n)
def u32 (n : Nat) : AV := .v (.int .u32 n)
def u64 (n : Nat) : AV := .v (.int .u64 n)
def bl (b : Bool) : AV := .v (.bool b)
def ws (l : List Nat) : AV := .lst 1 (l.map u32)
def wordW (m : List Nat) (i : Nat) : Nat := m.getD i 0
theorem wordW_lt {m : List Nat} (h : Ws m) (i : Nat) : wordW m i < 4294967296 := by
 unfold wordW
 rw [List.getD_eq_getElem?_getD]
 cases hi : m[i]? with
 | none => simp
 | some x => exact h x (List.mem_of_getElem? hi)
theorem word_get {m : List Nat} {i : Nat} (h : i < m.length) : m[i]? = some (wordW m i) := by
 rw [List.getElem?_eq_getElem h,wordW,List.getD_eq_getElem?_getD,List.getElem?_eq_getElem h]; rfl
theorem word_out {m : List Nat} {i : Nat} (h : m.length <= i) : wordW m i = 0 := by
 rw [wordW,List.getD_eq_getElem?_getD,List.getElem?_eq_none h]; rfl
theorem getw {m : List Nat} {i : Nat} (h : i < m.length) : (m.map u32)[i]? = some (u32 (wordW m i)) := getmap (word_get h)
theorem val_take_word {l : List Nat} {i : Nat} : val (l.take (i + 1)) = val (l.take i) + 4294967296 ^ i * wordW l i := by
 rcases Nat.lt_or_ge i l.length with h | h
 ·exact val_take_succ (word_get h)
 ·rw [word_out h,val_take_ge h,val_take_ge (by omega)]; simp
theorem awp_lenM {c : Code} {Q : Exit -> AS -> Prop} {α : Type} {f : α -> AV} {l : List α} {t sz : Nat} (ht : s.get t = some (.lst sz (l.map f))) (h : l.length <= maxL -> AWP P N c Q s) : AWP P N c Q s :=
 awp_len ht (fun hl => h (by simpa using hl))
theorem fz_ms {k sz off len : Nat} {es : List AV} (h : off + len <= es.length) : AV.fz k sz es (.ms k sz off len) = .lst sz ((es.drop off).take len) := by
 have h1 : Nat.ble (off + len) es.length = true := Nat.ble_eq_true_of_le h
 have h2 : ∀ n,Nat.beq n n = true := fun n => Nat.beq_refl n
 simp only [AV.fz,h1,h2,Bool.and_self]
theorem fz_all {k sz len : Nat} {es : List AV} (h : len = es.length) : AV.fz k sz es (.ms k sz 0 len) = .lst sz es := by
 subst h
 rw [fz_ms (by omega),List.drop_zero,List.take_length]
theorem getz {m : List Nat} {i : Int} {n : Nat} (h : i = n) (hn : n < m.length) : (m.map u32)[i.toNat]? = some (u32 (wordW m n)) := by
 subst h; exact getw hn
theorem getzx {α : Type} {f : α -> AV} {l : List α} {i : Int} {n : Nat} {x : α} (h : i = n) (hx : l[n]? = some x) : (l.map f)[i.toNat]? = some (f x) := by
 subst h; exact getmap hx
theorem s_idxMsN {d : Nat} {x ix : Operand} {kk : IntKind} {i : Int} {k sz off len n : Nat} {T E t : TypeId} {ti te : TI} {pos : String} {after : Array Edge}
  (hx : Ev s x (.ms k sz off len)) (hi : Ev s ix (.v (.int kk i))) (hT : tinfo P T = some ti) (hk : ti.k = .slice E) (hE : tinfo P E = some te) (hsz : te.size = sz)
  (h0 : i = (n : Int)) (he : n < len) (hN : Nat.blt d N = true) :
  Step P N R s ⟨some d,.indexAddr T x ix,t,pos,after,none⟩ ⟨some (.eptr k sz (off + n) 0),[],rtOf x ++ rtOf ix,[]⟩ := by
 subst h0
 have := s_idxMs (R := R) (t := t) (pos := pos) (after := after) hx hi hT hk hE hsz (by omega) (by omega) hN
 rwa [Int.toNat_natCast] at this
theorem getElem_of_word {a b : List Nat} {i : Nat} (ha : i < a.length) (hb : i < b.length) (h : wordW a i = wordW b i) : a[i] = b[i] := by
 have h1 := word_get ha
 have h2 := word_get hb
 rw [List.getElem?_eq_getElem ha] at h1
 rw [List.getElem?_eq_getElem hb] at h2
 rw [Option.some.inj h1,Option.some.inj h2,h]
theorem i64_addI {x y : Int} (h : -9223372036854775808 <= x + y /\ x + y <= 9223372036854775807) : IntKind.i64.wrap (iarith .add x y) = x + y := i64_in h
theorem i64_subI {x y : Int} (h : -9223372036854775808 <= x - y /\ x - y <= 9223372036854775807) : IntKind.i64.wrap (iarith .sub x y) = x - y := i64_in h
theorem i64_mulI {x y : Int} (h : -9223372036854775808 <= x * y /\ x * y <= 9223372036854775807) : IntKind.i64.wrap (iarith .mul x y) = x * y := i64_in h
theorem s_idxMs0 {d : Nat} {x ix : Operand} {kk : IntKind} {i : Int} {k sz len n : Nat} {T E t : TypeId} {ti te : TI} {pos : String} {after : Array Edge}
  (hx : Ev s x (.ms k sz 0 len)) (hi : Ev s ix (.v (.int kk i))) (hT : tinfo P T = some ti) (hk : ti.k = .slice E) (hE : tinfo P E = some te) (hsz : te.size = sz)
  (h0 : i = (n : Int)) (he : n < len) (hN : Nat.blt d N = true) :
  Step P N R s ⟨some d,.indexAddr T x ix,t,pos,after,none⟩ ⟨some (.eptr k sz n 0),[],rtOf x ++ rtOf ix,[]⟩ := by
 have := s_idxMsN (R := R) (t := t) (pos := pos) (after := after) hx hi hT hk hE hsz h0 he hN
 rwa [Nat.zero_add] at this
theorem o1 {x w : Bool} (h : x = w) : (x == w) = true:=by subst h; exact beq_self_eq_true x
theorem o2 {c x w : Bool} (hc : c = true) (h : x = w) : (c && x == w) = true:=by subst h; subst hc; simp
theorem o3 {c x w : Bool} (h : (c && x == w) = true) : c = true:=by cases c <;> simp_all
end Go.Lw
namespace Go.Lw
variable {P : Program} {N : Nat} {R : Array Oper} {s : AS}
mutual
theorem AV.fz_id (k sz : Nat) (es : List AV) : ∀ x : AV, ¬ x.Names k -> x.fz k sz es = x
 | .ms k' sz' off len, h => by
  have : Nat.beq k' k = false := by
   cases hb : Nat.beq k' k
   ·rfl
   ·obtain rfl := Nat.eq_of_beq_eq_true hb
    exact absurd (AV.Names.ms _ _ _ _) h
  simp only [AV.fz,this,Bool.false_and]
 | .agg cs,h => by simp only [AV.fz]; rw [AV.fzs_id k sz es cs (fun c hc hn => h (.agg hc hn))]
 | .tup cs,h => by simp only [AV.fz]; rw [AV.fzs_id k sz es cs (fun c hc hn => h (.tup hc hn))]
 | .fn f cs,h => by simp only [AV.fz]; rw [AV.fzs_id k sz es cs (fun c hc hn => h (.fn hc hn))]
 | .cl f cs ds,_ => by simp only [AV.fz]
 | .opt b x,h => by simp only [AV.fz]; rw [AV.fz_id k sz es x (fun hn => h (.opt hn))]
 | .v x,_ => by simp only [AV.fz]
 | .lst sz l,_ => by simp only [AV.fz]
 | .iptr l,_ => by simp only [AV.fz]
 | .ptr k off,_ => by simp only [AV.fz]
 | .eptr k sz i off,_ => by simp only [AV.fz]
 | .yl k,_ => by simp only [AV.fz]
theorem AV.fzs_id (k sz : Nat) (es : List AV) : ∀ l : List AV, (∀ c ∈ l, ¬ c.Names k) -> AV.fzs k sz es l = l
 | [],_ => by simp only [AV.fzs]
 | x :: l,h => by simp only [AV.fzs]; rw [AV.fz_id k sz es x (h x (by simp)),AV.fzs_id k sz es l (fun c hc => h c (by simp [hc]))]
end
theorem blk_map_id {k sz : Nat} {es : List AV} {x : Blk} (h : ¬ x.Names k) : x.map (AV.fz k sz es) = x := by
 cases x with
 | row => rfl
 | vec => rfl
 | box cs =>
  simp only [Blk.map]
  congr 1
  rw [<- AV.fzs_eq]
  exact AV.fzs_id k sz es cs (fun c hc hn => h ⟨c,hc,hn⟩)
 | loop d st pe sl =>
  simp only [Blk.map]
  congr 1
  induction sl with
  | nil => rfl
  | cons p sl ih =>
   obtain ⟨t,x⟩ := p
   simp only [mapSl]
   rw [ih (fun ⟨t',x',h1,h2⟩ => h ⟨t',x',List.mem_cons_of_mem _ h1,h2⟩)]
   cases x with
   | none => rfl
   | some x => simp only [AV.fz_id k sz es x (fun hn => h ⟨t,x,List.mem_cons_self ..,hn⟩)]
theorem step_frz {o : Oper} {d k sz n : Nat} {es : List AV} {rt rd : List Nat} (hd : o.dst = some d) (hn : n = es.length) (hdr : d ∉ rd) (hdk : d ≠ k)
  (h : Step P N R s o ⟨some (.ms d sz 0 n),[(d,some (.row sz es)),(k,none)],rt,rd⟩) : Step P N R s o ⟨some (.lst sz es),[(d,none),(k,none)],rt,rd⟩ := by
 refine ⟨fun s' hag hnew C m a w Q next hC hr hnext => ?_⟩
 have hfr : s'.Fresh d := by
  rcases hnew d (by simp) with h | h
  ·exact absurd h hdr
  ·exact h
 refine h.run s' hag hnew C m a w Q next hC hr (fun m' a' w' hr' => ?_)
 rw [hd] at hr'
 have hk : (s'.app (some d) ⟨some (.ms d sz 0 n), [(d, some (.row sz es)), (k, none)], rt, rd⟩).blk d = some (.row sz es) := by
  simp [AS.blk,AS.app,lk_cons]
 obtain ⟨m2,hr2⟩ := Wk.freeze hk C m' a' w' hr'
 refine hnext m2 a' w' ?_
 rw [hd]
 refine hr2.congr ?_ ?_
 ·intro t
  simp only [AS.get,lk_mapSl,AS.app,lk_cons]
  split
  ·subst hn
   have e1 : Nat.beq d d = true := Nat.beq_refl d
   have e2 : Nat.beq sz sz = true := Nat.beq_refl sz
   have e3 : Nat.ble (0 + es.length) es.length = true := Nat.ble_eq_true_of_le (by omega)
   simp only [Option.map_some,AV.fz,e1,e2,e3,Bool.and_self,List.drop_zero,List.take_length]
  ·cases hx : lk s'.sl t with
   | none => rfl
   | some x => simp only [Option.map_some]; rw [AV.fz_id _ _ _ _ (hfr.2.2.1 t x hx)]
 ·intro k'
  simp only [AS.blk,lk_mapHp,AS.app,List.cons_append,List.nil_append,lk_cons]
  by_cases h1 : k' = d
  ·rw [if_pos h1,if_pos h1]
  ·rw [if_neg h1, if_neg h1, if_neg h1]
   split
   ·rfl
   ·cases hx : lk s'.hp k' with
    | none => rfl
    | some x => simp only [Option.map_some]; rw [blk_map_id (hfr.2.2.2 k' x hx)]
theorem s_appendF {d k sz len : Nat} {es xs : List AV} {x y : Operand} {T E t : TypeId} {ti te : TI} {pos : String} {after : Array Edge}
  (hx : Ev s x (.ms k sz 0 len)) (hk : s.blk k = some (.row sz es)) (hlen : len = es.length) (hy : Ev s y (.lst sz xs)) (hT : tinfo P T = some ti) (hkd : ti.k = .slice E) (hE : tinfo P E = some te)
  (hsz : te.size = sz) (hz0 : (Nat.beq te.zero.length te.size && Nat.blt 0 te.size && Nat.blt 0 te.bytes) = true) (hb : (len + xs.length) * te.bytes <= 140737488355328) (hdk : Nat.beq d k = false)
  (hN : Nat.blt d N = true) :
  Step P N R s ⟨some d, .call ⟨.builtin .append, #[x, y], #[T, T]⟩, t, pos, after, none⟩
   ⟨some (.lst sz (es ++ xs)),[(d,none),(k,none)],rtOf x ++ rtOf y,[k]⟩ :=
 step_frz rfl (by rw [List.length_append,hlen]) (by simpa using Nat.ne_of_beq_eq_false hdk) (Nat.ne_of_beq_eq_false hdk) (s_append hx hk hlen hy hT hkd hE hsz hz0 hb hdk hN)
theorem exec_copy {ρ : Operand -> Value} {d : Option Tmp} {x y : Operand} {T t : TypeId} {pos : String} {after : Array Edge} {w w' : World} {v : Value}
  (h : (Builtin.copy_ #[T,T] t #[ρ x,ρ y]).run P w = .ok v w') :
  (execOp ρ ⟨d,.call ⟨.builtin .copy,#[x,y],#[T,T]⟩,t,pos,after,none⟩).run P w = .ok (.value v) w' := by
 simp [execOp,resolve,invoke,builtin,h]
set_option maxHeartbeats 1000000 in
theorem s_copy {d k sz len : Nat} {es xs : List AV} {x y : Operand} {T E t : TypeId} {ti te : TI} {pos : String} {after : Array Edge}
  (hx : Ev s x (.ms k sz 0 len)) (hk : s.blk k = some (.row sz es)) (hlen : len = es.length) (hy : Ev s y (.lst sz xs)) (hT : tinfo P T = some ti) (hkd : ti.k = .slice E) (hE : tinfo P E = some te)
  (hsz : te.size = sz) (hz1 : Nat.blt 0 te.size = true) (hb : xs.length <= len) (hN : Nat.blt d N = true) :
  Step P N R s ⟨some d, .call ⟨.builtin .copy, #[x, y], #[T, T]⟩, t, pos, after, none⟩
   ⟨some (.v (.int .i64 xs.length)),[(k,some (.row sz (xs ++ es.drop xs.length)))],rtOf x ++ rtOf y,[k]⟩ := by
 refine step_of rfl ?_
 intro s' hag hnew C m a w next hC hr hnext
 subst hsz; subst hlen
 rw [Nat.blt_eq] at hN hz1
 have hkk : lk s'.hp k = some (.row te.size es) := (hag.2 k (by simp)).trans hk
 have hd : d < C.nt:=by omega
 have hxr := (hx.agree hag (fun _ h => List.mem_append.2 (.inl h))).rep hr
 have hyr := (hy.agree hag (fun _ h => List.mem_append.2 (.inr h))).rep hr
 obtain ⟨dd2,h3,h4,-,hu⟩ := run_und hT w
 obtain rfl := tk_slice (h4.trans hkd)
 obtain ⟨ll,hll⟩ : ∃ ll,ll = es.length := ⟨_,rfl⟩
 rw [<- hll] at hxr
 have hput : ∀ (w' : World), RelM C ⟨s'.sl, (k, some (.row te.size (xs ++ es.drop xs.length))) :: s'.hp⟩ m a w' -> next (a.put (some d) (goInt xs.length)) w' := by
  intro w' hr'
  refine hnext m _ _ ?_
  have := hr'.put d (.int .i64 xs.length) (some (.v (.int .i64 xs.length))) (fun z hz => by cases hz; exact ⟨Nat.lt_of_lt_of_le hd hr'.nt,.v _⟩)
  simpa [AS.app,Act.put,goInt] using this
 have hnone : ∀ (b1 a1 : Option Addr) (c1 c2 l1 : Nat), a.eval x = .slice b1 l1 c1 -> a.eval y = .slice a1 0 c2 -> xs = [] ->
   (⟨some d,.call ⟨.builtin .copy,#[x,y],#[T,T]⟩,t,pos,after,none⟩ : Oper).upon P a next (fun _ _ _ => False) ((execOp a.eval ⟨some d,.call ⟨.builtin .copy,#[x,y],#[T,T]⟩,t,pos,after,none⟩).run P w) := by
  intro b1 a1 c1 c2 l1 e1 e2 e3
  subst e3
  have hfc : (Builtin.firstCells te.size 0 (.slice a1 0 c2)).run P w = .ok #[] w := by
   cases a1 with
   | none => rfl
   | some a1 => exact run_firstCells_some w _ _ a1 _ _ [] (by simp) (by simp)
  have hrun : (Builtin.copy_ #[T, T] t #[.slice b1 l1 c1, .slice a1 0 c2]).run P w = .ok (goInt 0) w := by
   have e0 : Nat.min 0 l1 = 0 := Nat.zero_min _
   cases b1 with
   | none => simp [Builtin.copy_,h3,run_sizeOf hE,Builtin.lenOf,e0,hfc]
   | some b1 => simp [Builtin.copy_,h3,run_sizeOf hE,Builtin.lenOf,e0,hfc,storeCells]
  rw [exec_copy (ρ := a.eval) (by rw [e1,e2]; exact hrun)]
  refine hput w ?_
  refine RelM.congr (s := s') (fun t => rfl) ?_ hr
  intro k'
  simp only [AS.blk,lk_cons]
  split
  ·subst_vars; rw [hkk]; rfl
  ·rfl
 rcases lst_cells hyr hz1 with ⟨rfl,a1,cap1,hyv⟩ | ⟨b1,off1,cap1,cs,hyv,hxl,him,hle1,hl1,hs1,ho1,hr1⟩
 ·generalize hxv : a.eval x = u at hxr
  cases hxr with
  | ms0 a0 => exact hnone _ _ _ _ _ hxv hyv rfl
  | ms hm hc hS => exact hnone _ _ _ _ _ hxv hyv rfl
 ·obtain ⟨hne1, hno1, t1, f1, hw1⟩ := him
  have hnl : (cs.extract off1 (off1 + xs.length * te.size)).toList.length = xs.length * te.size:=by simp; omega
  have hnc : ∀ (j : Nat) v, (cs.extract off1 (off1 + xs.length * te.size)).toList[j]? = some v -> w.cell? ((⟨b1, off1, none⟩ : Addr).add j) = some v := by
   intro j v hj
   rw [addr_add,cell_at hw1]
   rw [Array.getElem?_toList,Array.getElem?_extract] at hj
   split at hj
   ·exact hj
   ·cases hj
  have hn1 : ∀ u ∈ (cs.extract off1 (off1 + xs.length * te.size)).toList, u.oneCell' = true := by
   intro u hu
   obtain ⟨p,hp,rfl⟩ := List.mem_iff_getElem.1 hu
   rw [hnl] at hp
   have hi' : p / te.size < xs.length:=by rw [Nat.div_lt_iff_lt_mul hz1]; exact hp
   have he := List.getElem?_eq_getElem hi'
   have hel := hs1 _ _ he
   have hpm : p % te.size < te.size := Nat.mod_lt _ hz1
   have hx2 := List.getElem?_eq_getElem (show p % te.size < (xs[p / te.size]).cells.length by omega)
   have hpe : p / te.size * te.size + p % te.size = p:=by rw [Nat.mul_comm]; exact Nat.div_add_mod _ _
   have hcv : cs[off1 + p / te.size * te.size + p % te.size]? = some ((cs.extract off1 (off1 + xs.length * te.size)).toList[p]'(by omega)) := by
    rw [Nat.add_assoc,hpe]
    simp only [Array.getElem_toList,Array.getElem_extract]
    exact Array.getElem?_eq_getElem (by omega)
   exact (hr1 _ _ _ _ _ he hx2 hcv).one (ho1 _ _ _ _ he hx2)
  generalize hxv : a.eval x = u at hxr
  cases hxr with
  | ms0 a0 => omega
  | @ms _ _ _ _ _ cap b hm hc hS =>
   subst hll
   obtain ⟨c,t2,hw,hn,hl,hs0,ho0,hr0⟩ := blk_row hr.heap hkk hm
   have hle2 : xs.length * te.size <= es.length * te.size := Nat.mul_le_mul_right _ hb
   have hfc := run_firstCells_some (P := P) w te.size xs.length ⟨b1,off1,none⟩ xs.length cap1 _ hnl hnc
   have hst := run_storeCells (P := P) (cs.extract off1 (off1 + xs.length * te.size)).toList c w 0 0 hw (by rw [hnl]; omega) hn1
   simp only [Nat.add_zero] at hst
   have hmin : Nat.min xs.length es.length = xs.length := Nat.min_eq_left hb
   have hrun : (Builtin.copy_ #[T, T] t #[.slice (some ⟨b, 0 * te.size, none⟩) es.length cap, .slice (some ⟨b1, off1, none⟩) xs.length cap1]).run P w =
     .ok (goInt xs.length) { w with heap := w.heap.setIfInBounds b (.cells (over c.toList 0 (cs.extract off1 (off1 + xs.length * te.size)).toList).toArray t2 (0,0)) } := by
    rw [Nat.zero_mul]
    generalize (cs.extract off1 (off1 + xs.length * te.size)).toList = news at hfc hst ⊢
    simp [Builtin.copy_,h3,run_sizeOf hE,Builtin.lenOf,hmin,hfc,hst]
   rw [exec_copy (ρ := a.eval) (by rw [hxv,hyv]; exact hrun)]
   refine hput _ ?_
   have hcs : (over c.toList 0 (cs.extract off1 (off1 + xs.length * te.size)).toList).toArray.size = c.size := by
    simp only [List.size_toArray]
    rw [over_length _ _ _ (by rw [hnl]; simp; omega)]; simp
   refine hr.write (x' := .row te.size (xs ++ es.drop xs.length)) hkk hm hw hcs rfl (fun g S hg hS hw' => ?_)
   have hsplit : ∀ (i : Nat) (e : AV), (xs ++ es.drop xs.length)[i]? = some e -> (i < xs.length /\ xs[i]? = some e) \/ (xs.length <= i /\ es[i]? = some e) := by
    intro i e he
    rcases Nat.lt_or_ge i xs.length with h | h
    ·rw [List.getElem?_append_left h] at he; exact .inl ⟨h,he⟩
    ·rw [List.getElem?_append_right h,List.getElem?_drop,show xs.length + (i - xs.length) = i by omega] at he; exact .inr ⟨h,he⟩
   refine .row hw' ?_ (by simp; omega) ?_ ?_ ?_
   ·rw [hcs]
    have : (xs ++ es.drop xs.length).length = es.length:=by simp; omega
    rw [this]; exact hn
   ·intro i e he
    rcases hsplit i e he with ⟨_,h⟩ | ⟨_,h⟩
    ·exact hs1 i e h
    ·exact hs0 i e h
   ·intro i j e z he hz
    rcases hsplit i e he with ⟨_,h⟩ | ⟨_,h⟩
    ·exact ho1 i j e z h hz
    ·exact ho0 i j e z h hz
   ·intro i j e u z he hz hu
    refine Rep.mono hg hS ?_ (fun _ _ _ h => h)
    rw [List.getElem?_toArray,over_get _ _ _ (by rw [hnl]; simp; omega),if_neg (by omega),hnl] at hu
    rcases hsplit i e he with ⟨hi,h⟩ | ⟨hi,h⟩
    ·have hj : j < te.size := by
      rw [<- hs1 i e h]
      rcases Nat.lt_or_ge j e.cells.length with h | h
      ·exact h
      ·rw [List.getElem?_eq_none h] at hz; cases hz
     have := mul_lt_bound (sz := te.size) hi
     rw [if_pos (by omega),Array.getElem?_toList,Array.getElem?_extract,if_pos (by omega)] at hu
     exact hr1 i j e z u h hz (by rw [<- hu]; congr 1; omega)
    ·have h9 : xs.length * te.size <= i * te.size := Nat.mul_le_mul_right _ hi
     rw [if_neg (by omega),Array.getElem?_toList] at hu
     exact hr0 i j e u z h hz hu
theorem Sub.lst {sz : Nat} {es es' : List AV} (hn : es.length = es'.length) (h : ∀ (i : Nat) (e e' : AV), es[i]? = some e -> es'[i]? = some e' -> CellsSub e e') : Sub (.lst sz es) (.lst sz es') := by
 intro g S m v hv
 cases hv with
 | lst0 a cap =>
  have : es' = [] := List.eq_nil_of_length_eq_zero (by rw [<- hn]; rfl)
  subst this; exact .lst0 _ _ _
 | @lst _ b off cap _ _ cs u hb hc hl hs h1 hu hr =>
  have hg : ∀ (i : Nat) (e' : AV), es'[i]? = some e' -> ∃ e, es[i]? = some e /\ CellsSub e e' := by
   intro i e' he'
   obtain ⟨e,he⟩ := get_of_length hn.symm he'
   exact ⟨e,he,h i e e' he he'⟩
  have := Rep.lst (g := g) (S := S) (m := m) (b := b) (off := off) (cap := cap) (sz := sz) (es := es') u hb (by omega) (by omega)
   (fun i e' he' => by obtain ⟨e,he,hc⟩ := hg i e' he'; rw [<- hc.1]; exact hs i e he)
   (fun i j e' x' he' hx' => by
    obtain ⟨e,he,hc⟩ := hg i e' he'
    obtain ⟨x,hx⟩ := get_of_length hc.1.symm hx'
    exact (hc.2 j x x' hx hx').1)
   (fun i j e' x' he' hx' => by
    obtain ⟨e,he,hc⟩ := hg i e' he'
    obtain ⟨x,hx⟩ := get_of_length hc.1.symm hx'
    exact hu i j e x he hx)
   (fun i j e' x' he' hx' => by
    obtain ⟨e,he,hc⟩ := hg i e' he'
    obtain ⟨x,hx⟩ := get_of_length hc.1.symm hx'
    exact (hc.2 j x x' hx hx').2 _ _ _ _ (hr i j e x he hx))
  rwa [<- hn] at this
end Go.Lw
namespace Go.Lw
variable {P : Program} {N : Nat} {R : Array Oper} {s : AS}
mutual
def AV.fb (k : Nat) (xs : List AV) : AV -> AV
  | .ptr k' off => match Nat.beq k' k with
    | true => .iptr (xs.drop off)
    | false => .ptr k' off
  | .agg cs => .agg (AV.fbs k xs cs)
  | .tup cs => .tup (AV.fbs k xs cs)
  | .fn f cs => .fn f (AV.fbs k xs cs)
  | .opt b x => .opt b (AV.fb k xs x)
  | .v x => .v x
  | .lst sz l => .lst sz l
  | .iptr l => .iptr l
  | .ms k sz off len => .ms k sz off len
  | .eptr k sz i off => .eptr k sz i off
  | .yl k => .yl k
  | .cl f cs ds => .cl f cs ds
def AV.fbs (k : Nat) (xs : List AV) : List AV -> List AV
  | [] => []
  | x :: l => AV.fb k xs x :: AV.fbs k xs l
end
theorem AV.fbs_eq (k : Nat) (xs : List AV) : ∀ l, AV.fbs k xs l = l.map (AV.fb k xs)
 | [] => rfl
 | x :: l => by simp only [AV.fbs,List.map_cons,AV.fbs_eq k xs l]
theorem AV.fb_one (k : Nat) (xs : List AV) (x : AV) (h : x.one = true) : (x.fb k xs).one = true := by
 cases x <;> simp only [AV.fb] <;> first | exact h | (split <;> rfl)
theorem rep_fb {g : Nat -> Array Value -> Prop} {S : Nat -> Nat -> Prop} {k : Nat} {xs : List AV} {m : Nat -> Option Nat} {v : Value} {x : AV} (h : Rep g S m v x)
  (hb : ∀ b, m k = some b -> ∃ c : Array Value, g b c /\ c.size = xs.length /\ (∀ (j : Nat) (x : AV), xs[j]? = some x -> x.one = true) /\
   ∀ (j : Nat) (u : Value) (x : AV),c[j]? = some u -> xs[j]? = some x -> Rep g S noKeys u x) : Rep g S m v (x.fb k xs) := by
 induction h with
 | v x => exact .v x
 | lst0 a cap sz' => exact .lst0 a cap sz'
 | lst u hb' hc hl hs h1 hu hr _ => exact .lst u hb' hc hl hs h1 hu hr
 | iptr u hb' h1 hu hr _ => exact .iptr u hb' h1 hu hr
 | ms0 a k' sz' off => exact .ms0 _ _ _ _
 | ms hm hc hS => exact .ms hm hc hS
 | eptr h => exact .eptr h
 | yl h => exact .yl h
 | opt h h' ih => exact .opt (fun hbb => ih hbb hb) h'
 | agg hn h1 hr ih =>
  simp only [AV.fb,AV.fbs_eq]
  refine .agg (by simpa using hn) ?_ ?_
  ·intro j c hc
   simp only [List.getElem?_map,Option.map_eq_some_iff] at hc
   obtain ⟨y,hy,rfl⟩ := hc
   exact AV.fb_one _ _ _ (h1 j y hy)
  ·intro j u c hu hc
   simp only [List.getElem?_map,Option.map_eq_some_iff] at hc
   obtain ⟨y,hy,rfl⟩ := hc
   exact ih j u y hu hy hb
 | tup hn hr ih =>
  simp only [AV.fb,AV.fbs_eq]
  refine .tup (by simpa using hn) ?_
  intro j u c hu hc
  simp only [List.getElem?_map,Option.map_eq_some_iff] at hc
  obtain ⟨y,hy,rfl⟩ := hc
  exact ih j u y hu hy hb
 | fn hn hr ih =>
  simp only [AV.fb,AV.fbs_eq]
  refine .fn (by simpa using hn) ?_
  intro j u c hu hc
  simp only [List.getElem?_map,Option.map_eq_some_iff] at hc
  obtain ⟨y,hy,rfl⟩ := hc
  exact ih j u y hu hy hb
 | cl hn hr hn' hr' _ _ => exact .cl hn hr hn' hr'
 | @ptr mm k' off b hm =>
  simp only [AV.fb]
  split
  ·rename_i h1
   obtain rfl := Nat.eq_of_beq_eq_true h1
   obtain ⟨c,hgc,hsz,ho,hr⟩ := hb b hm
   have hcell : ∀ (j : Nat) (x : AV), (xs.drop off)[j]? = some x -> ∃ u, c[off + j]? = some u := by
    intro j x hx
    rw [List.getElem?_drop] at hx
    have hi : off + j < xs.length := by
     rcases Nat.lt_or_ge (off + j) xs.length with h | h
     ·exact h
     ·rw [List.getElem?_eq_none h] at hx; cases hx
    exact ⟨_,Array.getElem?_eq_getElem (by omega)⟩
   refine .iptr (fun j => c.getD (off + j) undef) hgc (fun j x hx => ?_) (fun j x hx => ?_) (fun j x hx => ?_)
   ·rw [List.getElem?_drop] at hx; exact ho _ x hx
   ·obtain ⟨u, hu⟩ := hcell j x hx
    rw [Array.getD_eq_getD_getElem?,hu]; rfl
   ·obtain ⟨u, hu⟩ := hcell j x hx
    rw [List.getElem?_drop] at hx
    rw [Array.getD_eq_getD_getElem?,hu]
    exact hr _ u x hu hx
  ·exact .ptr hm
theorem Wk.freezeB {k : Nat} {xs : List AV} (hk : s.blk k = some (.box xs)) (hnm : (xs.all fun x => x.nm.isEmpty) = true) : Wk s ⟨mapSl (AV.fb k xs) s.sl, mapHp (AV.fb k xs) k s.hp⟩ := by
 intro C m a w hr
 refine ⟨m,?_⟩
 have hfew : ∀ k' z, lk ((k, none) :: s.hp) k' = some z -> lk s.hp k' = some z := by
  intro k' z hz
  rw [lk_cons] at hz
  split at hz
  ·cases hz
  ·exact hz
 have hr1 := hr.fewer hfew
 have hb : ∀ b, m k = some b -> ∃ c : Array Value, Im C.ext ((k, none) :: s.hp) m w b c /\ c.size = xs.length /\ (∀ (j : Nat) (x : AV), xs[j]? = some x -> x.one = true) /\
   ∀ (j : Nat) (u : Value) (x : AV),c[j]? = some u -> xs[j]? = some x -> Rep (Im C.ext ((k,none) :: s.hp) m w) (Sz w) noKeys u x := by
  intro b hm
  obtain ⟨c,t,hw,hn,ho,hrr⟩ := blk_box hr.heap hk hm
  have him := im_mono (ext := C.ext) (Frame.refl (Own s.hp m) w) (hp' := (k,none) :: s.hp) (m' := m) (fun k' z b' hz hb' => .inl ⟨k',z,hfew k' z hz,hb'⟩)
  refine ⟨c,⟨(hr.heap.sep k _ b hk hm).1,?_,t,(0,0),hw⟩,hn,ho,fun j u x hu hx => (hrr j u x hu hx).mono him (fun _ _ h => h) (fun k' _ hn _ => ?_)⟩
  ·rintro ⟨k', z, hz, hb'⟩
   have := hr.heap.inj k k' _ z b hk (hfew k' z hz) hm hb'
   subst this
   rw [lk_cons,if_pos rfl] at hz; cases hz
  ·have h9 := List.all_eq_true.1 hnm x (List.mem_of_getElem? hx)
   have h8 := AV.Names.mem hn
   rw [List.isEmpty_iff.1 h9] at h8; cases h8
 have hown : ∀ k' z, lk (mapHp (AV.fb k xs) k s.hp) k' = some z -> ∃ y, lk ((k, none) :: s.hp) k' = some y /\ z = y.map (AV.fb k xs) := by
  intro k' z hz
  rw [lk_mapHp] at hz
  split at hz
  ·cases hz
  ·rename_i hne
   simp only [Option.map_eq_some_iff] at hz
   obtain ⟨y,hy,rfl⟩ := hz
   exact ⟨y,by rw [lk_cons,if_neg hne]; exact hy,rfl⟩
 have hown' : ∀ k' y, lk ((k, none) :: s.hp) k' = some y -> lk (mapHp (AV.fb k xs) k s.hp) k' = some (y.map (AV.fb k xs)) := by
  intro k' y hy
  rw [lk_cons] at hy
  split at hy
  ·cases hy
  ·rename_i hne
   rw [lk_mapHp,if_neg hne,hy]; rfl
 have e1 : Own (mapHp (AV.fb k xs) k s.hp) m = Own ((k, none) :: s.hp) m := by
  funext b
  apply propext
  constructor
  ·rintro ⟨k',z,hz,hb⟩; obtain ⟨y,hy,_⟩ := hown k' z hz; exact ⟨k',y,hy,hb⟩
  ·rintro ⟨k',y,hy,hb⟩; exact ⟨k',_,hown' k' y hy,hb⟩
 have e2 : Im C.ext (mapHp (AV.fb k xs) k s.hp) m w = Im C.ext ((k,none) :: s.hp) m w:=by funext b cs; simp only [Im,e1]
 refine ⟨?_,⟨?_,?_,?_⟩,hr1.frame,?_,?_,hr1.defers,hr1.nt⟩
 ·intro t x hx
  simp only [AS.get,lk_mapSl,Option.map_eq_some_iff] at hx
  obtain ⟨y,hy,rfl⟩ := hx
  obtain ⟨g1,g2⟩ := hr1.slots t y hy
  refine ⟨g1,?_⟩
  show Rep (Im C.ext (mapHp (AV.fb k xs) k s.hp) m w) _ _ _ _
  rw [e2]
  exact rep_fb g2 hb
 ·intro k' z hz
  obtain ⟨y,hy,rfl⟩ := hown k' z hz
  rw [e2]
  have := hr1.heap.blk k' y hy
  cases y with
  | row sz' es' => exact this
  | vec vs =>
   simp only [Blk.map]
   generalize m k' = o at this
   cases this with
   | vec hw hc h1 => exact .vec hw hc h1
  | loop => exact this.mapLoop _ (fun _ _ _ _ h => rep_fb h hb)
  | box cs =>
   simp only [Blk.map]
   generalize m k' = o at this
   cases this with
   | box hw hn h1 hrr =>
    refine .box hw (by simpa using hn) ?_ ?_
    ·intro j x hx
     simp only [List.getElem?_map,Option.map_eq_some_iff] at hx
     obtain ⟨y,hy,rfl⟩ := hx
     exact AV.fb_one _ _ _ (h1 j y hy)
    ·intro j u x hu hx
     simp only [List.getElem?_map,Option.map_eq_some_iff] at hx
     obtain ⟨y,hy,rfl⟩ := hx
     exact rep_fb (hrr j u y hu hy) hb
 ·intro k1 k2 z1 z2 b g1 g2
  obtain ⟨y1,hy1,_⟩ := hown k1 z1 g1
  obtain ⟨y2,hy2,_⟩ := hown k2 z2 g2
  exact hr1.heap.inj k1 k2 y1 y2 b hy1 hy2
 ·intro k' z b hz hb
  obtain ⟨y,hy,_⟩ := hown k' z hz
  exact hr1.heap.sep k' y b hy hb
 ·intro k' z b hz hb
  obtain ⟨y,hy,_⟩ := hown k' z hz
  exact hr1.new k' y b hy hb
 ·intro k' z h1000 hz
  obtain ⟨y,hy,_⟩ := hown k' z hz
  exact hr1.keep k' y h1000 hy
theorem s_assert {d : Nat} {x : Operand} {u : Value} {T S t : TypeId} {ti : TI} {k : IntKind} {pos : String} {after : Array Edge} (hx : Ev s x (.v (.iface T u)))
  (hT : tinfo P T = some ti) (hk : ti.k = .int k) (hN : Nat.blt d N = true) :
  Step P N R s ⟨some d,.typeAssert x S T true,t,pos,after,none⟩ ⟨some (.tup [.v u,.v (.bool true)]),[],rtOf x,[]⟩ :=
 step_val rfl rfl hN fun s' hag C m a w hr => by
  have h := (hx.agree hag (fun _ h => h)).rep hr
  generalize hu : a.eval x = y at h
  cases h
  obtain ⟨d2,h3,h4,-,-⟩ := run_und hT w
  obtain rfl := tk_int (h4.trans hk)
  refine ⟨.tuple #[u,.bool true],by simp [execOp,hu,Instr.typeAssert,h3],.tup rfl ?_⟩
  intro j v c hv hc
  match j,hv,hc with
  | 0,hv,hc => cases hv; cases hc; exact .v _
  | 1,hv,hc => cases hv; cases hc; exact .v _
def isI64 (P : Program) (t : TypeId) : Bool := match P.underlying t with | some (.int .i64) => true | _ => false
theorem i64_und {P : Program} {t : TypeId} (h : isI64 P t = true) : P.underlying t = some (.int .i64) := by
 unfold isI64 at h
 split at h
 ·assumption
 ·cases h
def eq2B (P : Program) (T : TypeId) : Bool := match P.underlying T with
  | some (.struct fs) => (match fs.toList with
    | [f, g] => f.name != "_" && g.name != "_" && Nat.beq f.offset 0 && Nat.beq g.offset 1 && isI64 P f.type && isI64 P g.type
    | _ => false) && !P.stoodInHeld T && !P.eqGuardType P.depth T
  | _ => false
theorem run_eq2 {P : Program} {T : TypeId} (h : eq2B P T = true) (w : World) (a b c d : Int) :
  (Op.equalIn 10000 T (.agg #[.int .i64 a,.int .i64 b]) (.agg #[.int .i64 c,.int .i64 d])).run P w = .ok (a == c && b == d) w /\ P.eqGuardType P.depth T = false := by
 unfold eq2B at h
 split at h
 ·rename_i fs hu
  rw [Bool.and_eq_true,Bool.and_eq_true] at h
  obtain ⟨⟨h,h1⟩,h2⟩ := h
  split at h
  ·rename_i f g hfs
   simp only [Bool.and_eq_true] at h
   obtain ⟨⟨⟨⟨⟨g1,g2⟩,g3⟩,g4⟩,g5⟩,g6⟩ := h
   have hF : P.fieldsOf T = fs:=by unfold Program.fieldsOf; rw [hu]
   have hs : P.stoodInHeld T = false:=by simpa using h1
   refine ⟨?_,by simpa using h2⟩
   have u5 := i64_und g5
   have u6 := i64_und g6
   have o3 := Nat.eq_of_beq_eq_true g3
   have o4 := Nat.eq_of_beq_eq_true g4
   have n1 : f.name ≠ "_" := by simpa using g1
   have n2 : g.name ≠ "_" := by simpa using g2
   rw [run_equalIn_struct w 9999 T _ _ (by rw [hF]; exact hu) hs,hF,hfs]
   have e1 : ∀ (x : Int) (y : Int), (part f.type #[.int .i64 x, .int .i64 y] f.offset).run P w = .ok (.int .i64 x) w := by
    intro x y; simp [part,isAgg,run_underlying u5,o3]
   have e2 : ∀ (x : Int) (y : Int), (part g.type #[.int .i64 x, .int .i64 y] g.offset).run P w = .ok (.int .i64 y) w := by
    intro x y; simp [part,isAgg,run_underlying u6,o4]
   have e3 : ∀ (x y : Int),(Op.equalIn 9999 f.type (.int .i64 x) (.int .i64 y)).run P w = .ok (x == y) w := fun x y => run_equalIn_int w 9998 f.type .i64 .i64 x y u5
   have e4 : ∀ (x y : Int),(Op.equalIn 9999 g.type (.int .i64 x) (.int .i64 y)).run P w = .ok (x == y) w := fun x y => run_equalIn_int w 9998 g.type .i64 .i64 x y u6
   simp only [Op.eqFields,n1,n2,ne_eq,not_false_eq_true,if_true,Sem.run_bind,e1,e2,e3,e4,Result.andThen_ok,Sem.run_ite]
   cases (a == c) <;> cases (b == d) <;> simp
  ·cases h
 ·cases h
theorem s_eq2 {d : Nat} {x y : Operand} {a b c e : Int} {S T t : TypeId} {pos : String} {after : Array Edge} (hx : Ev s x (.agg [.v (.int .i64 a), .v (.int .i64 b)])) (hy : Ev s y (.agg [.v (.int .i64 c), .v (.int .i64 e)]))
  (hS : eq2B P S = true) (hN : Nat.blt d N = true) :
  Step P N R s ⟨some d,.binOp .eql S x y T,t,pos,after,none⟩ ⟨some (.v (.bool (a == c && b == e))),[],rtOf x ++ rtOf y,[]⟩ :=
 step_val rfl rfl hN fun s' hag C m ac w hr => ⟨.bool (a == c && b == e), by
  have h := (hx.agree hag (fun _ h => List.mem_append.2 (.inl h))).rep hr
  have h' := (hy.agree hag (fun _ h => List.mem_append.2 (.inr h))).rep hr
  have pair : ∀ {v : Value} {p q : Int}, Rep (Im C.ext s'.hp m w) (Sz w) m v (.agg [.v (.int .i64 p), .v (.int .i64 q)]) -> v = .agg #[.int .i64 p, .int .i64 q] := by
   intro v p q hv
   cases hv with
   | @agg _ vs _ hn h1 hrr =>
    have i0 : 0 < vs.size:=by rw [hn]; simp
    have i1 : 1 < vs.size:=by rw [hn]; simp
    have r0 := hrr 0 vs[0] _ (by simp [i0]) rfl
    have r1 := hrr 1 vs[1] _ (by simp [i1]) rfl
    generalize hz0 : vs[0] = z0 at r0
    generalize hz1 : vs[1] = z1 at r1
    cases r0; cases r1
    congr 1
    refine Array.ext (by rw [hn]; rfl) (fun i hi _ => ?_)
    match i,hi with
    | 0,_ => exact hz0
    | 1,_ => exact hz1
    | i + 2,hi => rw [hn] at hi; simp at hi; omega
  have hu := pair h
  have hv := pair h'
  obtain ⟨r1,r2⟩ := run_eq2 hS w a b c e
  simp only [execOp,hu,hv,Sem.run_map,Sem.run_bind,run_eqGuard_agg w .eql S x y _ _ r2,Result.andThen_ok,run_eql_struct,r1,Sem.run_pure],.v _⟩
end Go.Lw
namespace Go.Lw
theorem SlW.k {sl l : Slots} {x y : AV} {t : Nat} (hl : SlW sl l) (h : lk sl t = some y := by exact rfl)
  (hs : Sub y x:=by first | exact Sub.refl _ | exact Sub.nil _ _ _ | exact Sub.nilMs _ _ _ | exact Sub.int (by omega)) : SlW sl ((t,some x) :: l) := .cons h hs hl
end Go.Lw
namespace Go.Lw
open Go.Proofs
theorem mixedP : Tryz.prog.follows .mixedOrders = true := Checked.mixed Tryz.checked
theorem T1 : tinfo Tryz.prog 1 = some ⟨1,8,[.nilFunc],.other,[]⟩:=by kernel_rfl
theorem T2 : tinfo Tryz.prog 2 = some ⟨1,8,[.int .i64 0],.int .i64,[]⟩:=by kernel_rfl
theorem T3 : tinfo Tryz.prog 3 = some ⟨1,8,[.int .i64 0],.int .i64,[]⟩:=by kernel_rfl
theorem T4 : tinfo Tryz.prog 4 = some ⟨1,1,[.bool false],.bool,[]⟩:=by kernel_rfl
theorem T5 : tinfo Tryz.prog 5 = some ⟨1,1,[.int .u8 0],.int .u8,[]⟩:=by kernel_rfl
theorem T6 : tinfo Tryz.prog 6 = some ⟨1,1,[.int .u8 0],.int .u8,[]⟩:=by kernel_rfl
theorem T7 : tinfo Tryz.prog 7 = some ⟨4,24,[.int .i64 0,.int .i64 0,.bool false,.int .u8 0],.struct,[(0,1),(1,1),(2,1),(3,1)]⟩:=by kernel_rfl
theorem T8 : tinfo Tryz.prog 8 = some ⟨4,24,[.int .i64 0,.int .i64 0,.bool false,.int .u8 0],.struct,[(0,1),(1,1),(2,1),(3,1)]⟩:=by kernel_rfl
theorem T9 : tinfo Tryz.prog 9 = some ⟨1,16,[.string ⟨#[]⟩],.string,[]⟩:=by kernel_rfl
theorem T10 : tinfo Tryz.prog 10 = some ⟨1,16,[.string ⟨#[]⟩],.string,[]⟩:=by kernel_rfl
theorem T11 : tinfo Tryz.prog 11 = some ⟨1,16,[.string ⟨#[]⟩],.string,[]⟩:=by kernel_rfl
theorem T12 : tinfo Tryz.prog 12 = some ⟨1,8,[.int .u64 0],.int .u64,[]⟩:=by kernel_rfl
theorem T13 : tinfo Tryz.prog 13 = some ⟨2,24,[.string ⟨#[]⟩,.int .u64 0],.struct,[(0,1),(1,1)]⟩:=by kernel_rfl
theorem T14 : tinfo Tryz.prog 14 = some ⟨2,24,[.string ⟨#[]⟩,.int .u64 0],.struct,[(0,1),(1,1)]⟩:=by kernel_rfl
theorem T15 : tinfo Tryz.prog 15 = some ⟨1,8,[.pointer none],.pointer 402,[]⟩:=by kernel_rfl
theorem T16 : tinfo Tryz.prog 16 = some ⟨1,8,[.pointer none],.pointer 405,[]⟩:=by kernel_rfl
theorem T17 : tinfo Tryz.prog 17 = some ⟨1,8,[.pointer none],.pointer 414,[]⟩:=by kernel_rfl
theorem T18 : tinfo Tryz.prog 18 = some ⟨1,8,[.pointer none],.struct,[(0,1)]⟩:=by kernel_rfl
theorem T19 : tinfo Tryz.prog 19 = some ⟨1,8,[.pointer none],.struct,[(0,1)]⟩:=by kernel_rfl
theorem T20 : tinfo Tryz.prog 20 = some ⟨1,16,[.nilIface],.iface 0,[]⟩:=by kernel_rfl
theorem T21 : tinfo Tryz.prog 21 = some ⟨1,4,[.int .i32 0],.int .i32,[]⟩:=by kernel_rfl
theorem T22 : tinfo Tryz.prog 22 = some ⟨1,24,[.slice none 0 0],.slice 37,[]⟩:=by kernel_rfl
theorem T23 : tinfo Tryz.prog 23 = some ⟨1,24,[.slice none 0 0],.struct,[(0,1)]⟩:=by kernel_rfl
theorem T24 : tinfo Tryz.prog 24 = some ⟨1,24,[.slice none 0 0],.struct,[(0,1)]⟩:=by kernel_rfl
theorem T25 : tinfo Tryz.prog 25 = some ⟨1,24,[.slice none 0 0],.slice 39,[]⟩:=by kernel_rfl
theorem T26 : tinfo Tryz.prog 26 = some ⟨1,24,[.slice none 0 0],.slice 3,[]⟩:=by kernel_rfl
theorem T27 : tinfo Tryz.prog 27 = some ⟨3,72,[.slice none 0 0,.slice none 0 0,.slice none 0 0],.struct,[(0,1),(1,1),(2,1)]⟩:=by kernel_rfl
theorem T28 : tinfo Tryz.prog 28 = some ⟨3,72,[.slice none 0 0,.slice none 0 0,.slice none 0 0],.struct,[(0,1),(1,1),(2,1)]⟩:=by kernel_rfl
theorem T29 : tinfo Tryz.prog 29 = some ⟨1,24,[.slice none 0 0],.slice 204,[]⟩:=by kernel_rfl
theorem T30 : tinfo Tryz.prog 30 = some ⟨3,56,[.bool false,.slice none 0 0,.slice none 0 0],.struct,[(0,1),(1,1),(2,1)]⟩:=by kernel_rfl
theorem T31 : tinfo Tryz.prog 31 = some ⟨3,56,[.bool false,.slice none 0 0,.slice none 0 0],.struct,[(0,1),(1,1),(2,1)]⟩:=by kernel_rfl
theorem T32 : tinfo Tryz.prog 32 = some ⟨7,120,[.int .i64 0,.bool false,.slice none 0 0,.slice none 0 0,.bool false,.slice none 0 0,.slice none 0 0],.struct,[(0,1),(1,3),(4,3)]⟩:=by kernel_rfl
theorem T33 : tinfo Tryz.prog 33 = some ⟨7,120,[.int .i64 0,.bool false,.slice none 0 0,.slice none 0 0,.bool false,.slice none 0 0,.slice none 0 0],.struct,[(0,1),(1,3),(4,3)]⟩:=by kernel_rfl
theorem T34 : tinfo Tryz.prog 34 = some ⟨1,8,[.nilFunc],.other,[]⟩:=by kernel_rfl
theorem T35 : tinfo Tryz.prog 35 = some ⟨1,8,[.nilFunc],.other,[]⟩:=by kernel_rfl
theorem T36 : tinfo Tryz.prog 36 = some ⟨1,24,[.slice none 0 0],.slice 31,[]⟩:=by kernel_rfl
theorem T37 : tinfo Tryz.prog 37 = some ⟨1,24,[.slice none 0 0],.slice 31,[]⟩:=by kernel_rfl
theorem T38 : tinfo Tryz.prog 38 = some ⟨4,96,[.slice none 0 0,.slice none 0 0,.slice none 0 0,.slice none 0 0],.struct,[(0,1),(1,1),(2,1),(3,1)]⟩:=by kernel_rfl
theorem T39 : tinfo Tryz.prog 39 = some ⟨4,96,[.slice none 0 0,.slice none 0 0,.slice none 0 0,.slice none 0 0],.struct,[(0,1),(1,1),(2,1),(3,1)]⟩:=by kernel_rfl
theorem T40 : tinfo Tryz.prog 40 = some ⟨2,48,[.slice none 0 0,.slice none 0 0],.struct,[(0,1),(1,1)]⟩:=by kernel_rfl
theorem T41 : tinfo Tryz.prog 41 = some ⟨2,48,[.slice none 0 0,.slice none 0 0],.struct,[(0,1),(1,1)]⟩:=by kernel_rfl
theorem T42 : tinfo Tryz.prog 42 = some ⟨1,16,[.nilIface],.iface 1,[]⟩:=by kernel_rfl
theorem T43 : tinfo Tryz.prog 43 = some ⟨1,16,[.nilIface],.iface 1,[]⟩:=by kernel_rfl
theorem T45 : tinfo Tryz.prog 45 = some ⟨1,8,[.nilFunc],.other,[]⟩:=by kernel_rfl
theorem T46 : tinfo Tryz.prog 46 = some ⟨1,8,[.nilFunc],.other,[]⟩:=by kernel_rfl
theorem T47 : tinfo Tryz.prog 47 = some ⟨1,8,[.nilFunc],.other,[]⟩:=by kernel_rfl
theorem T48 : tinfo Tryz.prog 48 = some ⟨1,8,[.nilFunc],.other,[]⟩:=by kernel_rfl
theorem T49 : tinfo Tryz.prog 49 = some ⟨1,8,[.nilFunc],.other,[]⟩:=by kernel_rfl
theorem T50 : tinfo Tryz.prog 50 = some ⟨1,8,[.nilFunc],.other,[]⟩:=by kernel_rfl
theorem T51 : tinfo Tryz.prog 51 = some ⟨1,24,[.slice none 0 0],.slice 60,[]⟩:=by kernel_rfl
theorem T52 : tinfo Tryz.prog 52 = some ⟨9,168,[.int .i64 0,.slice none 0 0,.slice none 0 0,.bool false,.slice none 0 0,.slice none 0 0,.bool false,.slice none 0 0,.slice none 0 0],.struct,[(0,1),(1,2),(3,3),(6,3)]⟩:=by kernel_rfl
theorem T53 : tinfo Tryz.prog 53 = some ⟨9,168,[.int .i64 0,.slice none 0 0,.slice none 0 0,.bool false,.slice none 0 0,.slice none 0 0,.bool false,.slice none 0 0,.slice none 0 0],.struct,[(0,1),(1,2),(3,3),(6,3)]⟩:=by kernel_rfl
theorem T54 : tinfo Tryz.prog 54 = some ⟨1,8,[.nilFunc],.other,[]⟩:=by kernel_rfl
theorem T55 : tinfo Tryz.prog 55 = some ⟨1,8,[.nilFunc],.other,[]⟩:=by kernel_rfl
theorem T56 : tinfo Tryz.prog 56 = some ⟨1,8,[.nilFunc],.other,[]⟩:=by kernel_rfl
theorem T57 : tinfo Tryz.prog 57 = some ⟨1,8,[.nilFunc],.other,[]⟩:=by kernel_rfl
theorem T58 : tinfo Tryz.prog 58 = some ⟨1,8,[.nilFunc],.other,[]⟩:=by kernel_rfl
theorem T59 : tinfo Tryz.prog 59 = some ⟨3,72,[.slice none 0 0,.slice none 0 0,.slice none 0 0],.struct,[(0,1),(1,1),(2,1)]⟩:=by kernel_rfl
theorem T60 : tinfo Tryz.prog 60 = some ⟨3,72,[.slice none 0 0,.slice none 0 0,.slice none 0 0],.struct,[(0,1),(1,1),(2,1)]⟩:=by kernel_rfl
theorem T61 : tinfo Tryz.prog 61 = some ⟨1,8,[.nilFunc],.other,[]⟩:=by kernel_rfl
theorem T62 : tinfo Tryz.prog 62 = some ⟨18,336,[.int .i64 0,.slice none 0 0,.slice none 0 0,.bool false,.slice none 0 0,.slice none 0 0,.bool false,.slice none 0 0,.slice none 0 0,.int .i64 0,.slice none 0 0,.slice none 0 0,.bool false,.slice none 0 0,.slice none 0 0,.bool false,.slice none 0 0,.slice none 0 0],.array 2 53,[]⟩:=by kernel_rfl
theorem T63 : tinfo Tryz.prog 63 = some ⟨1,8,[.nilFunc],.other,[]⟩:=by kernel_rfl
theorem T64 : tinfo Tryz.prog 64 = some ⟨1,8,[.nilFunc],.other,[]⟩:=by kernel_rfl
theorem T65 : tinfo Tryz.prog 65 = some ⟨1,8,[.nilFunc],.other,[]⟩:=by kernel_rfl
theorem T66 : tinfo Tryz.prog 66 = some ⟨1,8,[.nilFunc],.other,[]⟩:=by kernel_rfl
theorem T67 : tinfo Tryz.prog 67 = some ⟨1,8,[.nilFunc],.other,[]⟩:=by kernel_rfl
theorem T68 : tinfo Tryz.prog 68 = some ⟨1,8,[.nilFunc],.other,[]⟩:=by kernel_rfl
theorem T69 : tinfo Tryz.prog 69 = some ⟨1,8,[.nilFunc],.other,[]⟩:=by kernel_rfl
theorem T70 : tinfo Tryz.prog 70 = some ⟨1,24,[.slice none 0 0],.slice 131,[]⟩:=by kernel_rfl
theorem T71 : tinfo Tryz.prog 71 = some ⟨1,24,[.slice none 0 0],.slice 120,[]⟩:=by kernel_rfl
theorem T72 : tinfo Tryz.prog 72 = some ⟨1,24,[.slice none 0 0],.slice 143,[]⟩:=by kernel_rfl
theorem T73 : tinfo Tryz.prog 73 = some ⟨4,88,[.string ⟨#[]⟩,.slice none 0 0,.slice none 0 0,.slice none 0 0],.struct,[(0,1),(1,1),(2,1),(3,1)]⟩:=by kernel_rfl
theorem T74 : tinfo Tryz.prog 74 = some ⟨4,88,[.string ⟨#[]⟩,.slice none 0 0,.slice none 0 0,.slice none 0 0],.struct,[(0,1),(1,1),(2,1),(3,1)]⟩:=by kernel_rfl
theorem T75 : tinfo Tryz.prog 75 = some ⟨1,8,[.nilFunc],.other,[]⟩:=by kernel_rfl
theorem T77 : tinfo Tryz.prog 77 = some ⟨1,8,[.nilFunc],.other,[]⟩:=by kernel_rfl
theorem T79 : tinfo Tryz.prog 79 = some ⟨1,8,[.nilFunc],.other,[]⟩:=by kernel_rfl
theorem T80 : tinfo Tryz.prog 80 = some ⟨1,8,[.nilFunc],.other,[]⟩:=by kernel_rfl
theorem T81 : tinfo Tryz.prog 81 = some ⟨1,24,[.slice none 0 0],.slice 28,[]⟩:=by kernel_rfl
theorem T83 : tinfo Tryz.prog 83 = some ⟨1,8,[.nilFunc],.other,[]⟩:=by kernel_rfl
theorem T84 : tinfo Tryz.prog 84 = some ⟨1,8,[.nilFunc],.other,[]⟩:=by kernel_rfl
theorem T85 : tinfo Tryz.prog 85 = some ⟨4,64,[.bool false,.slice none 0 0,.slice none 0 0,.bool false],.struct,[(0,3),(3,1)]⟩:=by kernel_rfl
theorem T86 : tinfo Tryz.prog 86 = some ⟨4,64,[.bool false,.slice none 0 0,.slice none 0 0,.bool false],.struct,[(0,3),(3,1)]⟩:=by kernel_rfl
theorem T87 : tinfo Tryz.prog 87 = some ⟨1,24,[.slice none 0 0],.slice 86,[]⟩:=by kernel_rfl
theorem T88 : tinfo Tryz.prog 88 = some ⟨1,8,[.nilFunc],.other,[]⟩:=by kernel_rfl
theorem T89 : tinfo Tryz.prog 89 = some ⟨1,8,[.nilFunc],.other,[]⟩:=by kernel_rfl
theorem T90 : tinfo Tryz.prog 90 = some ⟨1,8,[.nilFunc],.other,[]⟩:=by kernel_rfl
theorem T91 : tinfo Tryz.prog 91 = some ⟨1,8,[.nilFunc],.other,[]⟩:=by kernel_rfl
theorem T92 : tinfo Tryz.prog 92 = some ⟨1,8,[.nilFunc],.other,[]⟩:=by kernel_rfl
theorem T93 : tinfo Tryz.prog 93 = some ⟨1,8,[.int .i64 0],.int .i64,[]⟩:=by kernel_rfl
theorem T94 : tinfo Tryz.prog 94 = some ⟨1,8,[.nilFunc],.other,[]⟩:=by kernel_rfl
theorem T95 : tinfo Tryz.prog 95 = some ⟨1,8,[.nilFunc],.other,[]⟩:=by kernel_rfl
theorem T97 : tinfo Tryz.prog 97 = some ⟨1,8,[.nilFunc],.other,[]⟩:=by kernel_rfl
theorem T99 : tinfo Tryz.prog 99 = some ⟨1,8,[.nilFunc],.other,[]⟩:=by kernel_rfl
theorem T101 : tinfo Tryz.prog 101 = some ⟨1,8,[.nilFunc],.other,[]⟩:=by kernel_rfl
theorem T103 : tinfo Tryz.prog 103 = some ⟨1,8,[.nilFunc],.other,[]⟩:=by kernel_rfl
theorem T104 : tinfo Tryz.prog 104 = some ⟨1,8,[.nilFunc],.other,[]⟩:=by kernel_rfl
theorem T105 : tinfo Tryz.prog 105 = some ⟨1,8,[.nilFunc],.other,[]⟩:=by kernel_rfl
theorem T106 : tinfo Tryz.prog 106 = some ⟨1,8,[.pointer none],.pointer 108,[]⟩:=by kernel_rfl
theorem T107 : tinfo Tryz.prog 107 = some ⟨2,40,[.slice none 0 0,.nilIface],.struct,[(0,1),(1,1)]⟩:=by kernel_rfl
theorem T108 : tinfo Tryz.prog 108 = some ⟨2,40,[.slice none 0 0,.nilIface],.struct,[(0,1),(1,1)]⟩:=by kernel_rfl
theorem T109 : tinfo Tryz.prog 109 = some ⟨1,8,[.nilFunc],.other,[]⟩:=by kernel_rfl
theorem T111 : tinfo Tryz.prog 111 = some ⟨1,8,[.nilFunc],.other,[]⟩:=by kernel_rfl
theorem T112 : tinfo Tryz.prog 112 = some ⟨1,8,[.nilFunc],.other,[]⟩:=by kernel_rfl
theorem T113 : tinfo Tryz.prog 113 = some ⟨1,8,[.nilFunc],.other,[]⟩:=by kernel_rfl
theorem T114 : tinfo Tryz.prog 114 = some ⟨1,8,[.nilFunc],.other,[]⟩:=by kernel_rfl
theorem T115 : tinfo Tryz.prog 115 = some ⟨1,8,[.pointer none],.pointer 117,[]⟩:=by kernel_rfl
theorem T116 : tinfo Tryz.prog 116 = some ⟨10,224,[.slice none 0 0,.nilIface,.string ⟨#[]⟩,.slice none 0 0,.slice none 0 0,.slice none 0 0,.slice none 0 0,.slice none 0 0,.slice none 0 0,.slice none 0 0],.struct,[(0,2),(2,4),(6,3),(9,1)]⟩:=by kernel_rfl
theorem T117 : tinfo Tryz.prog 117 = some ⟨10,224,[.slice none 0 0,.nilIface,.string ⟨#[]⟩,.slice none 0 0,.slice none 0 0,.slice none 0 0,.slice none 0 0,.slice none 0 0,.slice none 0 0,.slice none 0 0],.struct,[(0,2),(2,4),(6,3),(9,1)]⟩:=by kernel_rfl
theorem T118 : tinfo Tryz.prog 118 = some ⟨1,8,[.nilFunc],.other,[]⟩:=by kernel_rfl
theorem T119 : tinfo Tryz.prog 119 = some ⟨7,64,[.string ⟨#[]⟩,.int .i64 0,.int .i64 0,.int .i64 0,.int .i64 0,.int .i64 0,.int .i64 0],.struct,[(0,1),(1,1),(2,1),(3,1),(4,1),(5,1),(6,1)]⟩:=by kernel_rfl
theorem T120 : tinfo Tryz.prog 120 = some ⟨7,64,[.string ⟨#[]⟩,.int .i64 0,.int .i64 0,.int .i64 0,.int .i64 0,.int .i64 0,.int .i64 0],.struct,[(0,1),(1,1),(2,1),(3,1),(4,1),(5,1),(6,1)]⟩:=by kernel_rfl
theorem T121 : tinfo Tryz.prog 121 = some ⟨1,8,[.nilFunc],.other,[]⟩:=by kernel_rfl
theorem T122 : tinfo Tryz.prog 122 = some ⟨1,8,[.nilFunc],.other,[]⟩:=by kernel_rfl
theorem T123 : tinfo Tryz.prog 123 = some ⟨1,8,[.nilFunc],.other,[]⟩:=by kernel_rfl
theorem T124 : tinfo Tryz.prog 124 = some ⟨1,8,[.nilFunc],.other,[]⟩:=by kernel_rfl
theorem T125 : tinfo Tryz.prog 125 = some ⟨1,8,[.nilFunc],.other,[]⟩:=by kernel_rfl
theorem T126 : tinfo Tryz.prog 126 = some ⟨1,8,[.nilFunc],.other,[]⟩:=by kernel_rfl
theorem T127 : tinfo Tryz.prog 127 = some ⟨7,128,[.string ⟨#[]⟩,.bool false,.slice none 0 0,.slice none 0 0,.bool false,.slice none 0 0,.slice none 0 0],.struct,[(0,1),(1,3),(4,3)]⟩:=by kernel_rfl
theorem T128 : tinfo Tryz.prog 128 = some ⟨7,128,[.string ⟨#[]⟩,.bool false,.slice none 0 0,.slice none 0 0,.bool false,.slice none 0 0,.slice none 0 0],.struct,[(0,1),(1,3),(4,3)]⟩:=by kernel_rfl
theorem T129 : tinfo Tryz.prog 129 = some ⟨1,24,[.slice none 0 0],.slice 128,[]⟩:=by kernel_rfl
theorem T130 : tinfo Tryz.prog 130 = some ⟨2,40,[.string ⟨#[]⟩,.slice none 0 0],.struct,[(0,1),(1,1)]⟩:=by kernel_rfl
theorem T131 : tinfo Tryz.prog 131 = some ⟨2,40,[.string ⟨#[]⟩,.slice none 0 0],.struct,[(0,1),(1,1)]⟩:=by kernel_rfl
theorem T132 : tinfo Tryz.prog 132 = some ⟨1,8,[.pointer none],.pointer 140,[]⟩:=by kernel_rfl
theorem T134 : tinfo Tryz.prog 134 = some ⟨1,8,[.nilFunc],.other,[]⟩:=by kernel_rfl
theorem T135 : tinfo Tryz.prog 135 = some ⟨1,8,[.nilFunc],.other,[]⟩:=by kernel_rfl
theorem T136 : tinfo Tryz.prog 136 = some ⟨1,8,[.nilFunc],.other,[]⟩:=by kernel_rfl
theorem T137 : tinfo Tryz.prog 137 = some ⟨1,24,[.slice none 0 0],.slice 166,[]⟩:=by kernel_rfl
theorem T138 : tinfo Tryz.prog 138 = some ⟨1,8,[.nilFunc],.other,[]⟩:=by kernel_rfl
theorem T139 : tinfo Tryz.prog 139 = some ⟨9,176,[.string ⟨#[]⟩,.slice none 0 0,.slice none 0 0,.slice none 0 0,.slice none 0 0,.slice none 0 0,.nilFunc,.bool false,.slice none 0 0],.struct,[(0,4),(4,1),(5,1),(6,1),(7,1),(8,1)]⟩:=by kernel_rfl
theorem T140 : tinfo Tryz.prog 140 = some ⟨9,176,[.string ⟨#[]⟩,.slice none 0 0,.slice none 0 0,.slice none 0 0,.slice none 0 0,.slice none 0 0,.nilFunc,.bool false,.slice none 0 0],.struct,[(0,4),(4,1),(5,1),(6,1),(7,1),(8,1)]⟩:=by kernel_rfl
theorem T141 : tinfo Tryz.prog 141 = some ⟨1,8,[.nilFunc],.other,[]⟩:=by kernel_rfl
theorem T142 : tinfo Tryz.prog 142 = some ⟨2,24,[.string ⟨#[]⟩,.int .i64 0],.struct,[(0,1),(1,1)]⟩:=by kernel_rfl
theorem T143 : tinfo Tryz.prog 143 = some ⟨2,24,[.string ⟨#[]⟩,.int .i64 0],.struct,[(0,1),(1,1)]⟩:=by kernel_rfl
theorem T144 : tinfo Tryz.prog 144 = some ⟨1,8,[.nilFunc],.other,[]⟩:=by kernel_rfl
theorem T145 : tinfo Tryz.prog 145 = some ⟨2,32,[.bool false,.slice none 0 0],.struct,[(0,1),(1,1)]⟩:=by kernel_rfl
theorem T146 : tinfo Tryz.prog 146 = some ⟨2,32,[.bool false,.slice none 0 0],.struct,[(0,1),(1,1)]⟩:=by kernel_rfl
theorem T147 : tinfo Tryz.prog 147 = some ⟨1,8,[.nilFunc],.other,[]⟩:=by kernel_rfl
theorem T148 : tinfo Tryz.prog 148 = some ⟨1,8,[.nilFunc],.other,[]⟩:=by kernel_rfl
theorem T149 : tinfo Tryz.prog 149 = some ⟨1,8,[.nilFunc],.other,[]⟩:=by kernel_rfl
theorem T150 : tinfo Tryz.prog 150 = some ⟨1,8,[.nilFunc],.other,[]⟩:=by kernel_rfl
theorem T151 : tinfo Tryz.prog 151 = some ⟨1,8,[.nilFunc],.other,[]⟩:=by kernel_rfl
theorem T152 : tinfo Tryz.prog 152 = some ⟨1,8,[.nilFunc],.other,[]⟩:=by kernel_rfl
theorem T153 : tinfo Tryz.prog 153 = some ⟨1,8,[.nilFunc],.other,[]⟩:=by kernel_rfl
theorem T154 : tinfo Tryz.prog 154 = some ⟨1,8,[.nilFunc],.other,[]⟩:=by kernel_rfl
theorem T155 : tinfo Tryz.prog 155 = some ⟨1,8,[.nilFunc],.other,[]⟩:=by kernel_rfl
theorem T156 : tinfo Tryz.prog 156 = some ⟨1,8,[.nilFunc],.other,[]⟩:=by kernel_rfl
theorem T158 : tinfo Tryz.prog 158 = some ⟨1,8,[.nilFunc],.other,[]⟩:=by kernel_rfl
theorem T159 : tinfo Tryz.prog 159 = some ⟨2,16,[.int .i64 0,.int .i64 0],.struct,[(0,1),(1,1)]⟩:=by kernel_rfl
theorem T160 : tinfo Tryz.prog 160 = some ⟨2,16,[.int .i64 0,.int .i64 0],.struct,[(0,1),(1,1)]⟩:=by kernel_rfl
theorem T162 : tinfo Tryz.prog 162 = some ⟨1,8,[.nilFunc],.other,[]⟩:=by kernel_rfl
theorem T164 : tinfo Tryz.prog 164 = some ⟨1,8,[.nilFunc],.other,[]⟩:=by kernel_rfl
theorem T165 : tinfo Tryz.prog 165 = some ⟨4,64,[.int .i64 0,.slice none 0 0,.slice none 0 0,.int .i64 0],.struct,[(0,1),(1,1),(2,1),(3,1)]⟩:=by kernel_rfl
theorem T166 : tinfo Tryz.prog 166 = some ⟨4,64,[.int .i64 0,.slice none 0 0,.slice none 0 0,.int .i64 0],.struct,[(0,1),(1,1),(2,1),(3,1)]⟩:=by kernel_rfl
theorem T168 : tinfo Tryz.prog 168 = some ⟨1,8,[.nilFunc],.other,[]⟩:=by kernel_rfl
theorem T169 : tinfo Tryz.prog 169 = some ⟨1,8,[.nilFunc],.other,[]⟩:=by kernel_rfl
theorem T170 : tinfo Tryz.prog 170 = some ⟨1,8,[.nilFunc],.other,[]⟩:=by kernel_rfl
theorem T172 : tinfo Tryz.prog 172 = some ⟨1,8,[.nilFunc],.other,[]⟩:=by kernel_rfl
theorem T173 : tinfo Tryz.prog 173 = some ⟨1,8,[.nilFunc],.other,[]⟩:=by kernel_rfl
theorem T174 : tinfo Tryz.prog 174 = some ⟨1,8,[.nilFunc],.other,[]⟩:=by kernel_rfl
theorem T175 : tinfo Tryz.prog 175 = some ⟨1,8,[.nilFunc],.other,[]⟩:=by kernel_rfl
theorem T176 : tinfo Tryz.prog 176 = some ⟨1,8,[.nilFunc],.other,[]⟩:=by kernel_rfl
theorem T178 : tinfo Tryz.prog 178 = some ⟨1,8,[.nilFunc],.other,[]⟩:=by kernel_rfl
theorem T179 : tinfo Tryz.prog 179 = some ⟨1,8,[.nilFunc],.other,[]⟩:=by kernel_rfl
theorem T180 : tinfo Tryz.prog 180 = some ⟨1,8,[.nilFunc],.other,[]⟩:=by kernel_rfl
theorem T182 : tinfo Tryz.prog 182 = some ⟨1,8,[.nilFunc],.other,[]⟩:=by kernel_rfl
theorem T183 : tinfo Tryz.prog 183 = some ⟨1,8,[.nilFunc],.other,[]⟩:=by kernel_rfl
theorem T184 : tinfo Tryz.prog 184 = some ⟨1,8,[.nilFunc],.other,[]⟩:=by kernel_rfl
theorem T185 : tinfo Tryz.prog 185 = some ⟨1,8,[.nilFunc],.other,[]⟩:=by kernel_rfl
theorem T186 : tinfo Tryz.prog 186 = some ⟨1,8,[.nilFunc],.other,[]⟩:=by kernel_rfl
theorem T187 : tinfo Tryz.prog 187 = some ⟨1,8,[.nilFunc],.other,[]⟩:=by kernel_rfl
theorem T188 : tinfo Tryz.prog 188 = some ⟨1,8,[.nilFunc],.other,[]⟩:=by kernel_rfl
theorem T189 : tinfo Tryz.prog 189 = some ⟨1,24,[.slice none 0 0],.slice 194,[]⟩:=by kernel_rfl
theorem T191 : tinfo Tryz.prog 191 = some ⟨1,8,[.nilFunc],.other,[]⟩:=by kernel_rfl
theorem T192 : tinfo Tryz.prog 192 = some ⟨1,8,[.nilFunc],.other,[]⟩:=by kernel_rfl
theorem T193 : tinfo Tryz.prog 193 = some ⟨3,56,[.slice none 0 0,.slice none 0 0,.int .i64 0],.struct,[(0,1),(1,1),(2,1)]⟩:=by kernel_rfl
theorem T194 : tinfo Tryz.prog 194 = some ⟨3,56,[.slice none 0 0,.slice none 0 0,.int .i64 0],.struct,[(0,1),(1,1),(2,1)]⟩:=by kernel_rfl
theorem T195 : tinfo Tryz.prog 195 = some ⟨1,8,[.nilFunc],.other,[]⟩:=by kernel_rfl
theorem T196 : tinfo Tryz.prog 196 = some ⟨1,8,[.nilFunc],.other,[]⟩:=by kernel_rfl
theorem T197 : tinfo Tryz.prog 197 = some ⟨1,8,[.nilFunc],.other,[]⟩:=by kernel_rfl
theorem T198 : tinfo Tryz.prog 198 = some ⟨1,8,[.nilFunc],.other,[]⟩:=by kernel_rfl
theorem T199 : tinfo Tryz.prog 199 = some ⟨1,8,[.nilFunc],.other,[]⟩:=by kernel_rfl
theorem T201 : tinfo Tryz.prog 201 = some ⟨1,8,[.nilFunc],.other,[]⟩:=by kernel_rfl
theorem T202 : tinfo Tryz.prog 202 = some ⟨1,8,[.int .u64 0],.int .u64,[]⟩:=by kernel_rfl
theorem T203 : tinfo Tryz.prog 203 = some ⟨1,8,[.nilFunc],.other,[]⟩:=by kernel_rfl
theorem T204 : tinfo Tryz.prog 204 = some ⟨1,4,[.int .u32 0],.int .u32,[]⟩:=by kernel_rfl
theorem T205 : tinfo Tryz.prog 205 = some ⟨1,8,[.int .u64 0],.int .u64,[]⟩:=by kernel_rfl
theorem T206 : tinfo Tryz.prog 206 = some ⟨1,8,[.nilFunc],.other,[]⟩:=by kernel_rfl
theorem T207 : tinfo Tryz.prog 207 = some ⟨1,8,[.nilFunc],.other,[]⟩:=by kernel_rfl
theorem T208 : tinfo Tryz.prog 208 = some ⟨1,8,[.nilFunc],.other,[]⟩:=by kernel_rfl
theorem T209 : tinfo Tryz.prog 209 = some ⟨1,8,[.nilFunc],.other,[]⟩:=by kernel_rfl
theorem T210 : tinfo Tryz.prog 210 = some ⟨1,8,[.nilFunc],.other,[]⟩:=by kernel_rfl
theorem T211 : tinfo Tryz.prog 211 = some ⟨1,8,[.pointer none],.pointer 213,[]⟩:=by kernel_rfl
theorem T212 : tinfo Tryz.prog 212 = some ⟨2,40,[.slice none 0 0,.nilIface],.struct,[(0,1),(1,1)]⟩:=by kernel_rfl
theorem T213 : tinfo Tryz.prog 213 = some ⟨2,40,[.slice none 0 0,.nilIface],.struct,[(0,1),(1,1)]⟩:=by kernel_rfl
theorem T214 : tinfo Tryz.prog 214 = some ⟨1,8,[.nilFunc],.other,[]⟩:=by kernel_rfl
theorem T216 : tinfo Tryz.prog 216 = some ⟨1,8,[.nilFunc],.other,[]⟩:=by kernel_rfl
theorem T217 : tinfo Tryz.prog 217 = some ⟨1,8,[.nilFunc],.other,[]⟩:=by kernel_rfl
theorem T218 : tinfo Tryz.prog 218 = some ⟨1,8,[.pointer none],.pointer 224,[]⟩:=by kernel_rfl
theorem T220 : tinfo Tryz.prog 220 = some ⟨1,8,[.nilFunc],.other,[]⟩:=by kernel_rfl
theorem T221 : tinfo Tryz.prog 221 = some ⟨1,8,[.nilFunc],.other,[]⟩:=by kernel_rfl
theorem T222 : tinfo Tryz.prog 222 = some ⟨1,24,[.slice none 0 0],.slice 4,[]⟩:=by kernel_rfl
theorem T223 : tinfo Tryz.prog 223 = some ⟨8,184,[.string ⟨#[]⟩,.slice none 0 0,.slice none 0 0,.slice none 0 0,.slice none 0 0,.slice none 0 0,.slice none 0 0,.slice none 0 0],.struct,[(0,4),(4,1),(5,1),(6,1),(7,1)]⟩:=by kernel_rfl
theorem T224 : tinfo Tryz.prog 224 = some ⟨8,184,[.string ⟨#[]⟩,.slice none 0 0,.slice none 0 0,.slice none 0 0,.slice none 0 0,.slice none 0 0,.slice none 0 0,.slice none 0 0],.struct,[(0,4),(4,1),(5,1),(6,1),(7,1)]⟩:=by kernel_rfl
theorem T225 : tinfo Tryz.prog 225 = some ⟨1,8,[.nilFunc],.other,[]⟩:=by kernel_rfl
theorem T227 : tinfo Tryz.prog 227 = some ⟨1,8,[.nilFunc],.other,[]⟩:=by kernel_rfl
theorem T228 : tinfo Tryz.prog 228 = some ⟨1,24,[.slice none 0 0],.slice 41,[]⟩:=by kernel_rfl
theorem T229 : tinfo Tryz.prog 229 = some ⟨1,8,[.nilFunc],.other,[]⟩:=by kernel_rfl
theorem T230 : tinfo Tryz.prog 230 = some ⟨1,8,[.nilFunc],.other,[]⟩:=by kernel_rfl
theorem T231 : tinfo Tryz.prog 231 = some ⟨1,8,[.nilFunc],.other,[]⟩:=by kernel_rfl
theorem T233 : tinfo Tryz.prog 233 = some ⟨1,8,[.nilFunc],.other,[]⟩:=by kernel_rfl
theorem T234 : tinfo Tryz.prog 234 = some ⟨1,8,[.nilFunc],.other,[]⟩:=by kernel_rfl
theorem T235 : tinfo Tryz.prog 235 = some ⟨1,8,[.nilFunc],.other,[]⟩:=by kernel_rfl
theorem T236 : tinfo Tryz.prog 236 = some ⟨1,8,[.nilFunc],.other,[]⟩:=by kernel_rfl
theorem T237 : tinfo Tryz.prog 237 = some ⟨1,8,[.nilFunc],.other,[]⟩:=by kernel_rfl
theorem T238 : tinfo Tryz.prog 238 = some ⟨1,8,[.nilFunc],.other,[]⟩:=by kernel_rfl
theorem T239 : tinfo Tryz.prog 239 = some ⟨1,8,[.nilFunc],.other,[]⟩:=by kernel_rfl
theorem T240 : tinfo Tryz.prog 240 = some ⟨1,8,[.nilFunc],.other,[]⟩:=by kernel_rfl
theorem T241 : tinfo Tryz.prog 241 = some ⟨1,8,[.nilFunc],.other,[]⟩:=by kernel_rfl
theorem T242 : tinfo Tryz.prog 242 = some ⟨1,8,[.nilFunc],.other,[]⟩:=by kernel_rfl
theorem T243 : tinfo Tryz.prog 243 = some ⟨1,8,[.nilFunc],.other,[]⟩:=by kernel_rfl
theorem T244 : tinfo Tryz.prog 244 = some ⟨1,8,[.pointer none],.pointer 248,[]⟩:=by kernel_rfl
theorem T246 : tinfo Tryz.prog 246 = some ⟨1,8,[.nilFunc],.other,[]⟩:=by kernel_rfl
theorem T247 : tinfo Tryz.prog 247 = some ⟨12,240,[.string ⟨#[]⟩,.slice none 0 0,.slice none 0 0,.slice none 0 0,.int .i64 0,.slice none 0 0,.slice none 0 0,.int .i64 0,.slice none 0 0,.slice none 0 0,.slice none 0 0,.nilIface],.struct,[(0,4),(4,4),(8,3),(11,1)]⟩:=by kernel_rfl
theorem T248 : tinfo Tryz.prog 248 = some ⟨12,240,[.string ⟨#[]⟩,.slice none 0 0,.slice none 0 0,.slice none 0 0,.int .i64 0,.slice none 0 0,.slice none 0 0,.int .i64 0,.slice none 0 0,.slice none 0 0,.slice none 0 0,.nilIface],.struct,[(0,4),(4,4),(8,3),(11,1)]⟩:=by kernel_rfl
theorem T249 : tinfo Tryz.prog 249 = some ⟨1,8,[.nilFunc],.other,[]⟩:=by kernel_rfl
theorem T250 : tinfo Tryz.prog 250 = some ⟨1,8,[.nilFunc],.other,[]⟩:=by kernel_rfl
theorem T251 : tinfo Tryz.prog 251 = some ⟨1,8,[.nilFunc],.other,[]⟩:=by kernel_rfl
theorem T252 : tinfo Tryz.prog 252 = some ⟨1,8,[.nilFunc],.other,[]⟩:=by kernel_rfl
theorem T253 : tinfo Tryz.prog 253 = some ⟨1,8,[.nilFunc],.other,[]⟩:=by kernel_rfl
theorem T254 : tinfo Tryz.prog 254 = some ⟨1,8,[.nilFunc],.other,[]⟩:=by kernel_rfl
theorem T256 : tinfo Tryz.prog 256 = some ⟨1,8,[.nilFunc],.other,[]⟩:=by kernel_rfl
theorem T257 : tinfo Tryz.prog 257 = some ⟨1,8,[.nilFunc],.other,[]⟩:=by kernel_rfl
theorem T259 : tinfo Tryz.prog 259 = some ⟨1,8,[.nilFunc],.other,[]⟩:=by kernel_rfl
theorem T260 : tinfo Tryz.prog 260 = some ⟨1,8,[.nilFunc],.other,[]⟩:=by kernel_rfl
theorem T261 : tinfo Tryz.prog 261 = some ⟨1,8,[.nilFunc],.other,[]⟩:=by kernel_rfl
theorem T263 : tinfo Tryz.prog 263 = some ⟨1,8,[.nilFunc],.other,[]⟩:=by kernel_rfl
theorem T264 : tinfo Tryz.prog 264 = some ⟨1,8,[.nilFunc],.other,[]⟩:=by kernel_rfl
theorem T265 : tinfo Tryz.prog 265 = some ⟨1,8,[.nilFunc],.other,[]⟩:=by kernel_rfl
theorem T266 : tinfo Tryz.prog 266 = some ⟨1,8,[.nilFunc],.other,[]⟩:=by kernel_rfl
theorem T267 : tinfo Tryz.prog 267 = some ⟨1,8,[.nilFunc],.other,[]⟩:=by kernel_rfl
theorem T268 : tinfo Tryz.prog 268 = some ⟨1,8,[.nilFunc],.other,[]⟩:=by kernel_rfl
theorem T269 : tinfo Tryz.prog 269 = some ⟨1,8,[.nilFunc],.other,[]⟩:=by kernel_rfl
theorem T270 : tinfo Tryz.prog 270 = some ⟨1,8,[.nilFunc],.other,[]⟩:=by kernel_rfl
theorem T271 : tinfo Tryz.prog 271 = some ⟨1,8,[.nilFunc],.other,[]⟩:=by kernel_rfl
theorem T272 : tinfo Tryz.prog 272 = some ⟨1,8,[.nilFunc],.other,[]⟩:=by kernel_rfl
theorem T273 : tinfo Tryz.prog 273 = some ⟨1,8,[.nilFunc],.other,[]⟩:=by kernel_rfl
theorem T274 : tinfo Tryz.prog 274 = some ⟨1,8,[.nilFunc],.other,[]⟩:=by kernel_rfl
theorem T275 : tinfo Tryz.prog 275 = some ⟨1,8,[.nilFunc],.other,[]⟩:=by kernel_rfl
theorem T277 : tinfo Tryz.prog 277 = some ⟨1,8,[.nilFunc],.other,[]⟩:=by kernel_rfl
theorem T278 : tinfo Tryz.prog 278 = some ⟨1,8,[.nilFunc],.other,[]⟩:=by kernel_rfl
theorem T279 : tinfo Tryz.prog 279 = some ⟨1,8,[.nilFunc],.other,[]⟩:=by kernel_rfl
theorem T280 : tinfo Tryz.prog 280 = some ⟨1,8,[.nilFunc],.other,[]⟩:=by kernel_rfl
theorem T281 : tinfo Tryz.prog 281 = some ⟨1,8,[.nilFunc],.other,[]⟩:=by kernel_rfl
theorem T282 : tinfo Tryz.prog 282 = some ⟨1,8,[.nilFunc],.other,[]⟩:=by kernel_rfl
theorem T283 : tinfo Tryz.prog 283 = some ⟨1,8,[.nilFunc],.other,[]⟩:=by kernel_rfl
theorem T284 : tinfo Tryz.prog 284 = some ⟨1,8,[.nilFunc],.other,[]⟩:=by kernel_rfl
theorem T285 : tinfo Tryz.prog 285 = some ⟨1,8,[.nilFunc],.other,[]⟩:=by kernel_rfl
theorem T287 : tinfo Tryz.prog 287 = some ⟨1,8,[.nilFunc],.other,[]⟩:=by kernel_rfl
theorem T288 : tinfo Tryz.prog 288 = some ⟨6,112,[.bool false,.slice none 0 0,.slice none 0 0,.bool false,.slice none 0 0,.slice none 0 0],.struct,[(0,3),(3,3)]⟩:=by kernel_rfl
theorem T289 : tinfo Tryz.prog 289 = some ⟨6,112,[.bool false,.slice none 0 0,.slice none 0 0,.bool false,.slice none 0 0,.slice none 0 0],.struct,[(0,3),(3,3)]⟩:=by kernel_rfl
theorem T291 : tinfo Tryz.prog 291 = some ⟨1,8,[.nilFunc],.other,[]⟩:=by kernel_rfl
theorem T292 : tinfo Tryz.prog 292 = some ⟨1,8,[.pointer none],.pointer 294,[]⟩:=by kernel_rfl
theorem T293 : tinfo Tryz.prog 293 = some ⟨2,40,[.slice none 0 0,.nilIface],.struct,[(0,1),(1,1)]⟩:=by kernel_rfl
theorem T294 : tinfo Tryz.prog 294 = some ⟨2,40,[.slice none 0 0,.nilIface],.struct,[(0,1),(1,1)]⟩:=by kernel_rfl
theorem T295 : tinfo Tryz.prog 295 = some ⟨1,8,[.nilFunc],.other,[]⟩:=by kernel_rfl
theorem T296 : tinfo Tryz.prog 296 = some ⟨1,8,[.nilFunc],.other,[]⟩:=by kernel_rfl
theorem T297 : tinfo Tryz.prog 297 = some ⟨14,272,[.bool false,.slice none 0 0,.slice none 0 0,.bool false,.slice none 0 0,.slice none 0 0,.slice none 0 0,.slice none 0 0,.bool false,.slice none 0 0,.slice none 0 0,.bool false,.slice none 0 0,.slice none 0 0],.struct,[(0,6),(6,2),(8,6)]⟩:=by kernel_rfl
theorem T298 : tinfo Tryz.prog 298 = some ⟨14,272,[.bool false,.slice none 0 0,.slice none 0 0,.bool false,.slice none 0 0,.slice none 0 0,.slice none 0 0,.slice none 0 0,.bool false,.slice none 0 0,.slice none 0 0,.bool false,.slice none 0 0,.slice none 0 0],.struct,[(0,6),(6,2),(8,6)]⟩:=by kernel_rfl
theorem T300 : tinfo Tryz.prog 300 = some ⟨1,8,[.nilFunc],.other,[]⟩:=by kernel_rfl
theorem T301 : tinfo Tryz.prog 301 = some ⟨1,8,[.nilFunc],.other,[]⟩:=by kernel_rfl
theorem T302 : tinfo Tryz.prog 302 = some ⟨1,8,[.nilFunc],.other,[]⟩:=by kernel_rfl
theorem T303 : tinfo Tryz.prog 303 = some ⟨2,48,[.slice none 0 0,.slice none 0 0],.struct,[(0,1),(1,1)]⟩:=by kernel_rfl
theorem T304 : tinfo Tryz.prog 304 = some ⟨2,48,[.slice none 0 0,.slice none 0 0],.struct,[(0,1),(1,1)]⟩:=by kernel_rfl
theorem T306 : tinfo Tryz.prog 306 = some ⟨1,8,[.nilFunc],.other,[]⟩:=by kernel_rfl
theorem T307 : tinfo Tryz.prog 307 = some ⟨3,72,[.slice none 0 0,.slice none 0 0,.slice none 0 0],.struct,[(0,2),(2,1)]⟩:=by kernel_rfl
theorem T308 : tinfo Tryz.prog 308 = some ⟨3,72,[.slice none 0 0,.slice none 0 0,.slice none 0 0],.struct,[(0,2),(2,1)]⟩:=by kernel_rfl
theorem T309 : tinfo Tryz.prog 309 = some ⟨1,8,[.nilFunc],.other,[]⟩:=by kernel_rfl
theorem T310 : tinfo Tryz.prog 310 = some ⟨1,8,[.nilFunc],.other,[]⟩:=by kernel_rfl
theorem T312 : tinfo Tryz.prog 312 = some ⟨1,8,[.nilFunc],.other,[]⟩:=by kernel_rfl
theorem T313 : tinfo Tryz.prog 313 = some ⟨1,8,[.nilFunc],.other,[]⟩:=by kernel_rfl
theorem T314 : tinfo Tryz.prog 314 = some ⟨19,392,[.bool false,.slice none 0 0,.slice none 0 0,.bool false,.slice none 0 0,.slice none 0 0,.slice none 0 0,.slice none 0 0,.bool false,.slice none 0 0,.slice none 0 0,.bool false,.slice none 0 0,.slice none 0 0,.slice none 0 0,.slice none 0 0,.slice none 0 0,.slice none 0 0,.slice none 0 0],.struct,[(0,6),(6,2),(8,6),(14,1),(15,1),(16,1),(17,2)]⟩:=by kernel_rfl
theorem T315 : tinfo Tryz.prog 315 = some ⟨19,392,[.bool false,.slice none 0 0,.slice none 0 0,.bool false,.slice none 0 0,.slice none 0 0,.slice none 0 0,.slice none 0 0,.bool false,.slice none 0 0,.slice none 0 0,.bool false,.slice none 0 0,.slice none 0 0,.slice none 0 0,.slice none 0 0,.slice none 0 0,.slice none 0 0,.slice none 0 0],.struct,[(0,6),(6,2),(8,6),(14,1),(15,1),(16,1),(17,2)]⟩:=by kernel_rfl
theorem T316 : tinfo Tryz.prog 316 = some ⟨1,8,[.nilFunc],.other,[]⟩:=by kernel_rfl
theorem T317 : tinfo Tryz.prog 317 = some ⟨1,8,[.nilFunc],.other,[]⟩:=by kernel_rfl
theorem T319 : tinfo Tryz.prog 319 = some ⟨1,8,[.nilFunc],.other,[]⟩:=by kernel_rfl
theorem T320 : tinfo Tryz.prog 320 = some ⟨1,8,[.nilFunc],.other,[]⟩:=by kernel_rfl
theorem T321 : tinfo Tryz.prog 321 = some ⟨1,8,[.nilFunc],.other,[]⟩:=by kernel_rfl
theorem T322 : tinfo Tryz.prog 322 = some ⟨1,8,[.nilFunc],.other,[]⟩:=by kernel_rfl
theorem T323 : tinfo Tryz.prog 323 = some ⟨1,8,[.nilFunc],.other,[]⟩:=by kernel_rfl
theorem T324 : tinfo Tryz.prog 324 = some ⟨1,8,[.nilFunc],.other,[]⟩:=by kernel_rfl
theorem T325 : tinfo Tryz.prog 325 = some ⟨1,8,[.nilFunc],.other,[]⟩:=by kernel_rfl
theorem T326 : tinfo Tryz.prog 326 = some ⟨1,8,[.nilFunc],.other,[]⟩:=by kernel_rfl
theorem T327 : tinfo Tryz.prog 327 = some ⟨1,8,[.nilFunc],.other,[]⟩:=by kernel_rfl
theorem T328 : tinfo Tryz.prog 328 = some ⟨1,8,[.nilFunc],.other,[]⟩:=by kernel_rfl
theorem T329 : tinfo Tryz.prog 329 = some ⟨1,8,[.nilFunc],.other,[]⟩:=by kernel_rfl
theorem T330 : tinfo Tryz.prog 330 = some ⟨1,8,[.nilFunc],.other,[]⟩:=by kernel_rfl
theorem T331 : tinfo Tryz.prog 331 = some ⟨1,8,[.nilFunc],.other,[]⟩:=by kernel_rfl
theorem T332 : tinfo Tryz.prog 332 = some ⟨1,8,[.nilFunc],.other,[]⟩:=by kernel_rfl
theorem T333 : tinfo Tryz.prog 333 = some ⟨1,8,[.nilFunc],.other,[]⟩:=by kernel_rfl
theorem T334 : tinfo Tryz.prog 334 = some ⟨1,8,[.nilFunc],.other,[]⟩:=by kernel_rfl
theorem T335 : tinfo Tryz.prog 335 = some ⟨1,8,[.nilFunc],.other,[]⟩:=by kernel_rfl
theorem T336 : tinfo Tryz.prog 336 = some ⟨1,8,[.nilFunc],.other,[]⟩:=by kernel_rfl
theorem T337 : tinfo Tryz.prog 337 = some ⟨1,8,[.nilFunc],.other,[]⟩:=by kernel_rfl
theorem T339 : tinfo Tryz.prog 339 = some ⟨1,8,[.nilFunc],.other,[]⟩:=by kernel_rfl
theorem T340 : tinfo Tryz.prog 340 = some ⟨1,8,[.nilFunc],.other,[]⟩:=by kernel_rfl
theorem T341 : tinfo Tryz.prog 341 = some ⟨1,8,[.nilFunc],.other,[]⟩:=by kernel_rfl
theorem T342 : tinfo Tryz.prog 342 = some ⟨1,8,[.nilFunc],.other,[]⟩:=by kernel_rfl
theorem T343 : tinfo Tryz.prog 343 = some ⟨1,24,[.slice none 0 0],.slice 289,[]⟩:=by kernel_rfl
theorem T344 : tinfo Tryz.prog 344 = some ⟨1,8,[.nilFunc],.other,[]⟩:=by kernel_rfl
theorem T345 : tinfo Tryz.prog 345 = some ⟨1,8,[.nilFunc],.other,[]⟩:=by kernel_rfl
theorem T346 : tinfo Tryz.prog 346 = some ⟨1,8,[.nilFunc],.other,[]⟩:=by kernel_rfl
theorem T347 : tinfo Tryz.prog 347 = some ⟨1,8,[.nilFunc],.other,[]⟩:=by kernel_rfl
theorem T348 : tinfo Tryz.prog 348 = some ⟨1,8,[.pointer none],.pointer 350,[]⟩:=by kernel_rfl
theorem T349 : tinfo Tryz.prog 349 = some ⟨2,40,[.slice none 0 0,.nilIface],.struct,[(0,1),(1,1)]⟩:=by kernel_rfl
theorem T350 : tinfo Tryz.prog 350 = some ⟨2,40,[.slice none 0 0,.nilIface],.struct,[(0,1),(1,1)]⟩:=by kernel_rfl
theorem T352 : tinfo Tryz.prog 352 = some ⟨1,8,[.nilFunc],.other,[]⟩:=by kernel_rfl
theorem T353 : tinfo Tryz.prog 353 = some ⟨1,8,[.nilFunc],.other,[]⟩:=by kernel_rfl
theorem T354 : tinfo Tryz.prog 354 = some ⟨1,8,[.nilFunc],.other,[]⟩:=by kernel_rfl
theorem T355 : tinfo Tryz.prog 355 = some ⟨1,8,[.nilFunc],.other,[]⟩:=by kernel_rfl
theorem T356 : tinfo Tryz.prog 356 = some ⟨1,8,[.nilFunc],.other,[]⟩:=by kernel_rfl
theorem T357 : tinfo Tryz.prog 357 = some ⟨1,24,[.slice none 0 0],.slice 298,[]⟩:=by kernel_rfl
theorem T358 : tinfo Tryz.prog 358 = some ⟨1,8,[.nilFunc],.other,[]⟩:=by kernel_rfl
theorem T359 : tinfo Tryz.prog 359 = some ⟨1,8,[.nilFunc],.other,[]⟩:=by kernel_rfl
theorem T360 : tinfo Tryz.prog 360 = some ⟨1,8,[.nilFunc],.other,[]⟩:=by kernel_rfl
theorem T362 : tinfo Tryz.prog 362 = some ⟨1,8,[.nilFunc],.other,[]⟩:=by kernel_rfl
theorem T363 : tinfo Tryz.prog 363 = some ⟨1,8,[.nilFunc],.other,[]⟩:=by kernel_rfl
theorem T364 : tinfo Tryz.prog 364 = some ⟨1,8,[.nilFunc],.other,[]⟩:=by kernel_rfl
theorem T365 : tinfo Tryz.prog 365 = some ⟨1,8,[.nilFunc],.other,[]⟩:=by kernel_rfl
theorem T366 : tinfo Tryz.prog 366 = some ⟨1,8,[.nilFunc],.other,[]⟩:=by kernel_rfl
theorem T367 : tinfo Tryz.prog 367 = some ⟨1,8,[.nilFunc],.other,[]⟩:=by kernel_rfl
theorem T368 : tinfo Tryz.prog 368 = some ⟨1,8,[.nilFunc],.other,[]⟩:=by kernel_rfl
theorem T369 : tinfo Tryz.prog 369 = some ⟨1,8,[.nilFunc],.other,[]⟩:=by kernel_rfl
theorem T370 : tinfo Tryz.prog 370 = some ⟨1,8,[.nilFunc],.other,[]⟩:=by kernel_rfl
theorem T371 : tinfo Tryz.prog 371 = some ⟨1,8,[.nilFunc],.other,[]⟩:=by kernel_rfl
theorem T372 : tinfo Tryz.prog 372 = some ⟨1,8,[.nilFunc],.other,[]⟩:=by kernel_rfl
theorem T373 : tinfo Tryz.prog 373 = some ⟨1,8,[.nilFunc],.other,[]⟩:=by kernel_rfl
theorem T374 : tinfo Tryz.prog 374 = some ⟨1,8,[.nilFunc],.other,[]⟩:=by kernel_rfl
theorem T375 : tinfo Tryz.prog 375 = some ⟨1,8,[.nilFunc],.other,[]⟩:=by kernel_rfl
theorem T376 : tinfo Tryz.prog 376 = some ⟨1,8,[.nilFunc],.other,[]⟩:=by kernel_rfl
theorem T377 : tinfo Tryz.prog 377 = some ⟨1,8,[.nilFunc],.other,[]⟩:=by kernel_rfl
theorem T378 : tinfo Tryz.prog 378 = some ⟨1,8,[.int .i64 0],.int .i64,[]⟩:=by kernel_rfl
theorem T380 : tinfo Tryz.prog 380 = some ⟨1,8,[.nilFunc],.other,[]⟩:=by kernel_rfl
theorem T381 : tinfo Tryz.prog 381 = some ⟨1,8,[.nilFunc],.other,[]⟩:=by kernel_rfl
theorem T382 : tinfo Tryz.prog 382 = some ⟨1,8,[.nilFunc],.other,[]⟩:=by kernel_rfl
theorem T383 : tinfo Tryz.prog 383 = some ⟨1,8,[.nilFunc],.other,[]⟩:=by kernel_rfl
theorem T384 : tinfo Tryz.prog 384 = some ⟨1,8,[.nilFunc],.other,[]⟩:=by kernel_rfl
theorem T385 : tinfo Tryz.prog 385 = some ⟨1,8,[.nilFunc],.other,[]⟩:=by kernel_rfl
theorem T386 : tinfo Tryz.prog 386 = some ⟨1,24,[.slice none 0 0],.slice 308,[]⟩:=by kernel_rfl
theorem T387 : tinfo Tryz.prog 387 = some ⟨1,8,[.nilFunc],.other,[]⟩:=by kernel_rfl
theorem T388 : tinfo Tryz.prog 388 = some ⟨1,8,[.nilFunc],.other,[]⟩:=by kernel_rfl
theorem T389 : tinfo Tryz.prog 389 = some ⟨1,8,[.nilFunc],.other,[]⟩:=by kernel_rfl
theorem T390 : tinfo Tryz.prog 390 = some ⟨1,8,[.nilFunc],.other,[]⟩:=by kernel_rfl
theorem T391 : tinfo Tryz.prog 391 = some ⟨1,8,[.nilFunc],.other,[]⟩:=by kernel_rfl
theorem T392 : tinfo Tryz.prog 392 = some ⟨1,8,[.int .u64 0],.int .u64,[]⟩:=by kernel_rfl
theorem T393 : tinfo Tryz.prog 393 = some ⟨1,8,[.nilFunc],.other,[]⟩:=by kernel_rfl
theorem T394 : tinfo Tryz.prog 394 = some ⟨1,8,[.nilFunc],.other,[]⟩:=by kernel_rfl
theorem T395 : tinfo Tryz.prog 395 = some ⟨1,8,[.nilFunc],.other,[]⟩:=by kernel_rfl
theorem T396 : tinfo Tryz.prog 396 = some ⟨1,8,[.pointer none],.pointer 3,[]⟩:=by kernel_rfl
theorem T397 : tinfo Tryz.prog 397 = some ⟨1,8,[.nilFunc],.other,[]⟩:=by kernel_rfl
theorem T398 : tinfo Tryz.prog 398 = some ⟨1,8,[.pointer none],.pointer 392,[]⟩:=by kernel_rfl
theorem T399 : tinfo Tryz.prog 399 = some ⟨1,8,[.nilFunc],.other,[]⟩:=by kernel_rfl
theorem T400 : tinfo Tryz.prog 400 = some ⟨1,8,[.nilFunc],.other,[]⟩:=by kernel_rfl
theorem T401 : tinfo Tryz.prog 401 = some ⟨4,40,[.pointer none,.pointer none,.pointer none,.string ⟨#[]⟩],.struct,[(0,1),(1,1),(2,1),(3,1)]⟩:=by kernel_rfl
theorem T402 : tinfo Tryz.prog 402 = some ⟨4,40,[.pointer none,.pointer none,.pointer none,.string ⟨#[]⟩],.struct,[(0,1),(1,1),(2,1),(3,1)]⟩:=by kernel_rfl
theorem T403 : tinfo Tryz.prog 403 = some ⟨0,0,[],.array 0 16,[]⟩:=by kernel_rfl
theorem T404 : tinfo Tryz.prog 404 = some ⟨0,0,[],.struct,[(0,0)]⟩:=by kernel_rfl
theorem T405 : tinfo Tryz.prog 405 = some ⟨0,0,[],.struct,[(0,0)]⟩:=by kernel_rfl
theorem T406 : tinfo Tryz.prog 406 = some ⟨1,8,[.nilFunc],.other,[]⟩:=by kernel_rfl
theorem T407 : tinfo Tryz.prog 407 = some ⟨1,1,[.int .u8 0],.int .u8,[]⟩:=by kernel_rfl
theorem T408 : tinfo Tryz.prog 408 = some ⟨1,1,[.int .u8 0],.int .u8,[]⟩:=by kernel_rfl
theorem T409 : tinfo Tryz.prog 409 = some ⟨1,8,[.nilFunc],.other,[]⟩:=by kernel_rfl
theorem T410 : tinfo Tryz.prog 410 = some ⟨1,8,[.pointer none],.pointer 5,[]⟩:=by kernel_rfl
theorem T411 : tinfo Tryz.prog 411 = some ⟨1,4,[.int .i32 0],.int .i32,[]⟩:=by kernel_rfl
theorem T412 : tinfo Tryz.prog 412 = some ⟨1,4,[.int .i32 0],.int .i32,[]⟩:=by kernel_rfl
theorem T413 : tinfo Tryz.prog 413 = some ⟨11,48,[.int .u64 0,.int .u64 0,.int .u32 0,.int .u8 0,.int .u8 0,.int .u8 0,.int .u8 0,.nilFunc,.pointer none,.int .i32 0,.int .i32 0],.struct,[(0,1),(1,1),(2,1),(3,1),(4,1),(5,1),(6,1),(7,1),(8,1),(9,1),(10,1)]⟩:=by kernel_rfl
theorem T414 : tinfo Tryz.prog 414 = some ⟨11,48,[.int .u64 0,.int .u64 0,.int .u32 0,.int .u8 0,.int .u8 0,.int .u8 0,.int .u8 0,.nilFunc,.pointer none,.int .i32 0,.int .i32 0],.struct,[(0,1),(1,1),(2,1),(3,1),(4,1),(5,1),(6,1),(7,1),(8,1),(9,1),(10,1)]⟩:=by kernel_rfl
end Go.Lw
namespace Go.Lw
theorem own_one {k : Nat} {x : Blk} {m : Nat -> Option Nat} {b : Nat} : Own [(k, some x)] m b ↔ m k = some b := by
 constructor
 ·rintro ⟨k', y, hy, hb⟩
  rw [lk_cons] at hy
  split at hy
  ·rename_i e; rw [<- e] at *; exact hb
  ·cases hy
 ·intro h; exact ⟨k,x,by rw [lk_cons,if_pos rfl],h⟩
theorem lk_one {k k' : Nat} {x : Option Blk} {z : Blk} (h : lk [(k, x)] k' = some z) : k' = k /\ x = some z := by
 rw [lk_cons] at h
 split at h
 ·rename_i e; exact ⟨e,h⟩
 ·cases h
theorem im_one {ext : Nat -> Prop} {k d : Nat} {x y : Blk} {m m2 : Nat -> Option Nat} {w : World} (h : m2 d = m k) : Im ext [(d, some y)] m2 w = Im ext [(k, some x)] m w := by
 funext b cs
 apply propext
 have : Own [(d,some y)] m2 b ↔ Own [(k,some x)] m b:=by rw [own_one,own_one,h]
 simp only [Im,this]
theorem heap_one {ext : Nat -> Prop} {k d sz : Nat} {es : List AV} {m m2 : Nat -> Option Nat} {w : World} (h : m2 d = m k) (hr : HeapRel ext [(k, some (.row sz es))] m w) : HeapRel ext [(d, some (.row sz es))] m2 w := by
 refine ⟨?_,?_,?_⟩
 ·intro k' z hz
  obtain ⟨rfl,h9⟩ := lk_one hz
  cases h9
  have h1 := hr.blk k _ (by rw [lk_cons,if_pos rfl])
  rw [im_one h (y := .row sz es) (x := .row sz es)]
  exact BlkRep.mono (w := w) (fun _ _ h => h) (fun _ _ h => h) (fun _ _ hn => hn.elim) h (fun _ _ => rfl) h1
 ·intro k1 k2 z z' b h1 h2 _ _
  rw [(lk_one h1).1,(lk_one h2).1]
 ·intro k' z b hz hb
  obtain ⟨rfl,h9⟩ := lk_one hz
  cases h9
  exact hr.sep k _ b (by rw [lk_cons,if_pos rfl]) (h ▸ hb)
mutual
def AV.sc : AV -> Bool
  | .v _ => true
  | .agg cs => AV.scs cs
  | .tup cs => AV.scs cs
  | _ => false
def AV.scs : List AV -> Bool
  | [] => true
  | x :: l => x.sc && AV.scs l
end
theorem AV.scs_mem : ∀ {l : List AV} {c : AV}, AV.scs l = true -> c ∈ l -> c.sc = true
 | x :: l, c, h, hc => by
  simp only [AV.scs,Bool.and_eq_true] at h
  rcases List.mem_cons.1 hc with rfl | hc
  ·exact h.1
  ·exact AV.scs_mem h.2 hc
theorem rep_sc {g g' : Nat -> Array Value -> Prop} {S S' : Nat -> Nat -> Prop} {m m' : Nat -> Option Nat} {v : Value} {x : AV} (hx : x.sc = true) (h : Rep g S m v x) : Rep g' S' m' v x := by
 induction h with
 | v => exact .v _
 | agg hn h1 hr ih => exact .agg hn h1 (fun j u c hu hc => ih j u c hu hc (AV.scs_mem hx (List.mem_of_getElem? hc)))
 | tup hn hr ih => exact .tup hn (fun j u c hu hc => ih j u c hu hc (AV.scs_mem hx (List.mem_of_getElem? hc)))
 | _ => cases hx
def Blk.sc : Blk -> Bool
  | .row _ es => es.all fun e => e.cells.all AV.sc
  | .box cs => cs.all AV.sc
  | .loop _ _ _ _ => false
  | .vec _ => true
theorem blk_sc {g g' : Nat -> Array Value -> Prop} {S S' : Nat -> Nat -> Prop} {m m' : Nat -> Option Nat} {w : World} {o : Option Nat} {x : Blk} (hx : x.sc = true) (h : BlkRep g S m w o x) : BlkRep g' S' m' w o x := by
 cases h with
 | none => exact .none _
 | box hw hn h1 hr =>
  refine .box hw hn h1 (fun j u x hu hc => rep_sc ?_ (hr j u x hu hc))
  exact List.all_eq_true.1 hx x (List.mem_of_getElem? hc)
 | row hw hn hl hs h1 hr =>
  refine .row hw hn hl hs h1 (fun i j e u x he hc hu => rep_sc ?_ (hr i j e u x he hc hu))
  exact List.all_eq_true.1 (List.all_eq_true.1 hx e (List.mem_of_getElem? he)) x (List.mem_of_getElem? hc)
 | loop => cases hx
 | vec hw hc h1 => exact .vec hw hc h1
theorem rep_names {g : Nat -> Array Value -> Prop} {S : Nat -> Nat -> Prop} {m m' : Nat -> Option Nat} {v : Value} {x : AV} (hx : x.nm = []) (h : Rep g S m v x) : Rep g S m' v x :=
 h.mono (fun _ _ h => h) (fun _ _ h => h) (fun k b hk => by have := hk.mem; rw [hx] at this; cases this)
theorem Con.rekey {P : Program} {f : FuncId} {k sz off len : Nat} {xs es es' : List AV} {r : AV} (d : Nat) (hxs : (xs.all fun x => x.nm.isEmpty) = true) (hr : r.nm = [])
  (h : Con P f (.ms k sz off len :: xs) [(k,some (.row sz es))] r [(k,some (.row sz es'))]) : Con P f (.ms d sz off len :: xs) [(d,some (.row sz es))] r [(d,some (.row sz es'))] := by
 refine ⟨h.ok,?_⟩
 intro ext m w vs hext hheap hvs hrep
 have h1 := h.ret ext (fun _ => m d) w vs hext (heap_one (k := d) rfl hheap) (by simpa using hvs) (by
  intro j v x hv hx
  rw [im_one (d := k) (k := d) (y := .row sz es) (x := .row sz es) (m2 := fun _ => m d) (m := m) rfl]
  match j,hx with
  | 0, hx =>
   cases hx
   have h2 := hrep 0 v _ hv rfl
   cases h2 with
   | ms0 a => exact .ms0 a _ _ _
   | ms hm hc hS => exact .ms hm hc hS
  | j + 1, hx =>
   have h2 := hrep (j + 1) v x hv hx
   refine rep_names ?_ h2
   have := List.all_eq_true.1 hxs x (List.mem_of_getElem? hx)
   simpa using this)
 refine Calls.mono h1 ?_
 rintro e w' ⟨v,m',rfl,hf,hh,hn,hk,hrr⟩
 have ho : Own [(k, some (Blk.row sz es))] (fun _ => m d) = Own [(d, some (Blk.row sz es))] m := by
  funext b; apply propext; rw [own_one,own_one]
 refine ⟨v,fun _ => m' k,rfl,ho ▸ hf,heap_one (k := k) rfl hh,?_,?_,?_⟩
 ·intro k' x b hx hb
  rw [<- ho]
  exact hn k _ b (by rw [lk_cons,if_pos rfl]) hb
 ·intro k' x y hx hy
  obtain ⟨rfl,_⟩ := lk_one hx
  exact hk k _ _ (by rw [lk_cons,if_pos rfl]) (by rw [lk_cons,if_pos rfl])
 ·rw [im_one (d := d) (k := k) (y := .row sz es') (x := .row sz es') (m2 := fun _ => m' k) (m := m') rfl]
  exact rep_names hr hrr
theorem Con.borrowF {P : Program} {f : FuncId} {args args' : List AV} {H H' : Hp} {r : AV} (k sz : Nat) (es : List AV) (hk : lk H k = none) (hk' : lk H' k = none) (hl : args'.length = args.length)
  (hargs : ∀ (j : Nat) (x' : AV),args'[j]? = some x' -> args[j]? = some x' \/ args[j]? = some (x'.fz k sz es))
  (hr : r.sc = true) (hH' : ∀ k' x,lk H' k' = some x -> x.sc = true) (h : Con P f args H r H') :
  Con P f args' ((k,some (.row sz es)) :: H) r ((k,some (.row sz es)) :: H') := by
 refine ⟨h.ok,?_⟩
 intro ext m w vs hext hheap hvs hrep
 have hsub : ∀ k' z, lk H k' = some z -> lk ((k, some (.row sz es)) :: H) k' = some z := by
  intro k' z hz
  rw [lk_cons]
  split
  ·rename_i e; rw [e,hk] at hz; cases hz
  ·exact hz
 have hownsub : ∀ b,Own H m b -> Own ((k,some (.row sz es)) :: H) m b := fun b ⟨k',z,h1,h2⟩ => ⟨k',z,hsub k' z h1,h2⟩
 have him : ∀ b cs,Im ext ((k,some (.row sz es)) :: H) m w b cs -> Im ext H m w b cs := fun b cs ⟨h1,h2,h3⟩ => ⟨h1,fun h' => h2 (hownsub b h'),h3⟩
 have hheap' : HeapRel ext H m w := by
  refine ⟨?_,?_,?_⟩
  ·intro k' z hz
   exact BlkRep.mono (w := w) him (fun _ _ h => h) (fun _ _ _ h => h) rfl (fun _ _ => rfl) (hheap.blk k' z (hsub k' z hz))
  ·intro k1 k2 z z' b h1 h2; exact hheap.inj k1 k2 z z' b (hsub _ _ h1) (hsub _ _ h2)
  ·intro k' z b hz; exact hheap.sep k' z b (hsub _ _ hz)
 have hkk : lk ((k,some (Blk.row sz es)) :: H) k = some (.row sz es):=by rw [lk_cons,if_pos rfl]
 have hblk := hheap.blk k _ hkk
 have hnot : ∀ b, m k = some b -> ¬ Own H m b := by
  rintro b hb ⟨k',z,hz,hb'⟩
  have := hheap.inj k k' _ _ b hkk (hsub _ _ hz) hb hb'
  subst this; rw [hk] at hz; cases hz
 have h1 := h.ret ext m w vs hext hheap' (by rw [hvs, hl]) (by
  intro j v x hv hx
  have hj : j < args'.length := by
   rw [hl]
   rcases Nat.lt_or_ge j args.length with h | h
   ·exact h
   ·rw [List.getElem?_eq_none h] at hx; cases hx
  have hx' := List.getElem?_eq_getElem hj
  have h2 := hrep j v _ hv hx'
  rcases hargs j _ hx' with h3 | h5
  ·rw [hx] at h3; cases h3
   exact h2.mono him (fun _ _ h => h) (fun _ _ _ h => h)
  ·rw [hx] at h5; cases h5
   have h6 := rep_fz (g := Im ext H m w) (k := k) (sz := sz) (es := es) (h2.mono him (fun _ _ h => h) (fun _ _ _ h => h)) (by
    intro b hb
    rw [hb] at hblk
    cases hblk with
    | @row _ _ _ c t hw hn hl hs h1 hr =>
     exact ⟨c,⟨(hheap.sep k _ b hkk hb).1,hnot b hb,t,_,hw⟩,hn,hl,hs,h1,fun i j e u x he hx hu => (hr i j e u x he hx hu).mono him (fun _ _ h => h) (fun _ _ _ h => h)⟩)
   exact h6)
 refine Calls.mono h1 ?_
 rintro e w' ⟨v,m',rfl,hf,hh,hn,hkeep,hrr⟩
 have hsub' : ∀ k' z, lk ((k, some (Blk.row sz es)) :: H') k' = some z -> (k' = k /\ z = .row sz es) \/ (k' ≠ k /\ lk H' k' = some z) := by
  intro k' z hz
  rw [lk_cons] at hz
  split at hz
  ·rename_i e; cases hz; exact .inl ⟨e,rfl⟩
  ·rename_i e; exact .inr ⟨e,hz⟩
 have hframe : Frame (Own ((k,some (.row sz es)) :: H) m) w w' := ⟨hf.os,hf.tape,hf.output,hf.size,hf.sz,fun b h1 h2 => hf.keep b h1 (fun h' => h2 (hownsub b h'))⟩
 have hnew : ∀ k' x b, lk ((k, some (Blk.row sz es)) :: H') k' = some x -> (if k' = k then m k else m' k') = some b -> Own ((k, some (.row sz es)) :: H) m b \/ w.heap.size <= b := by
  intro k' x b hx hb
  rcases hsub' k' x hx with ⟨rfl,rfl⟩ | ⟨h2,h3⟩
  ·rw [if_pos rfl] at hb; exact .inl ⟨k',_,hkk,hb⟩
  ·rw [if_neg h2] at hb
   rcases hn k' x b h3 hb with h4 | h4
   ·exact .inl (hownsub b h4)
   ·exact .inr h4
 have him2 := im_mono (ext := ext) hframe (hp' := (k,some (.row sz es)) :: H') (m' := fun k' => if k' = k then m k else m' k') hnew
 refine ⟨v,fun k' => if k' = k then m k else m' k',rfl,hframe,⟨?_,?_,?_⟩,hnew,?_,rep_sc hr hrr⟩
 ·intro k' z hz
  rcases hsub' k' z hz with ⟨rfl,rfl⟩ | ⟨h2,h3⟩
  ·rw [if_pos rfl]
   exact BlkRep.mono him2 (fun b n h => hf.sz b n h) (fun _ _ hn => hn.elim) rfl (fun b hb => hf.keep b (hheap.sep k' _ b hkk hb).2 (hnot b hb)) hblk
  ·rw [if_neg h2]
   exact blk_sc (hH' k' z h3) (hh.blk k' z h3)
 ·intro k1 k2 z z' b h1 h2 hb1 hb2
  have key : ∀ k' z, k' ≠ k -> lk H' k' = some z -> m k = some b -> m' k' = some b -> False := by
   intro k' z hne hz hb hb'
   rcases hn k' z b hz hb' with h4 | h4
   ·exact hnot b hb h4
   ·have := (hheap.sep k _ b hkk hb).2; omega
  rcases hsub' k1 z h1 with ⟨rfl,rfl⟩ | ⟨h3,h4⟩ <;> rcases hsub' k2 z' h2 with ⟨h5,rfl⟩ | ⟨h5,h6⟩
  ·exact h5.symm
  ·rw [if_pos rfl] at hb1; rw [if_neg h5] at hb2
   exact (key k2 z' h5 h6 hb1 hb2).elim
  ·rw [if_neg h3] at hb1; rw [if_pos h5] at hb2
   exact (key k1 z h3 h4 hb2 hb1).elim
  ·rw [if_neg h3] at hb1; rw [if_neg h5] at hb2
   exact hh.inj k1 k2 z z' b h4 h6 hb1 hb2
 ·intro k' z b hz hb
  rcases hsub' k' z hz with ⟨rfl,rfl⟩ | ⟨h2,h3⟩
  ·rw [if_pos rfl] at hb
   have := hheap.sep k' _ b hkk hb
   exact ⟨this.1,Nat.lt_of_lt_of_le this.2 hf.size⟩
  ·rw [if_neg h2] at hb; exact hh.sep k' z b h3 hb
 ·intro k' x y hx hy
  rcases hsub' k' y hy with ⟨rfl,rfl⟩ | ⟨h2,h3⟩
  ·exact if_pos rfl
  ·have hx' : lk H k' = some x := by rw [lk_cons, if_neg h2] at hx; exact hx
   exact (if_neg h2).trans (hkeep k' x y hx' h3)
theorem fz_in {k sz off len : Nat} {es : List AV} (h : off + len <= es.length) : AV.fz k sz es (.ms k sz off len) = .lst sz ((es.drop off).take len) := by
 have e1 : Nat.ble (off + len) es.length = true := Nat.ble_eq_true_of_le h
 have e2 : ∀ n,Nat.beq n n = true := fun n => Nat.beq_refl n
 simp only [AV.fz,e1,e2,Bool.and_self]
theorem Con.borrow {P : Program} {f : FuncId} {args args' : List AV} {H H' : Hp} {r : AV} (k sz : Nat) (es : List AV) (hk : lk H k = none) (hk' : lk H' k = none) (hl : args'.length = args.length)
  (hargs : ∀ (j : Nat) (x' : AV),args'[j]? = some x' -> args[j]? = some x' \/ (∃ off len,x' = .ms k sz off len /\ off + len <= es.length /\ args[j]? = some (.lst sz ((es.drop off).take len))))
  (hr : r.sc = true) (hH' : ∀ k' x,lk H' k' = some x -> x.sc = true) (h : Con P f args H r H') :
  Con P f args' ((k,some (.row sz es)) :: H) r ((k,some (.row sz es)) :: H') :=
 Con.borrowF k sz es hk hk' hl (fun j x' hj => by
  rcases hargs j x' hj with h | ⟨off,len,rfl,h1,h2⟩
  ·exact .inl h
  ·exact .inr (by rw [fz_in h1]; exact h2)) hr hH' h
theorem Con.freeze {P : Program} {f : FuncId} {args : List AV} {k sz off len : Nat} {es : List AV} (hl : off + len <= es.length)
  (h : Con P f args [] (.ms k sz off len) [(k,some (.row sz es))]) : FnC P f args (.lst sz ((es.drop off).take len)) := by
 refine ⟨h.ok,?_⟩
 intro ext m w vs hext hheap hvs hrep
 refine Calls.mono (h.ret ext m w vs hext hheap hvs hrep) ?_
 rintro e w' ⟨v,m',rfl,hf,hh,hn,hkeep,hrr⟩
 have hkk : lk [(k,some (Blk.row sz es))] k = some (.row sz es):=by rw [lk_cons,if_pos rfl]
 have hblk := hh.blk k _ hkk
 have him : ∀ b cs,Im ext [(k,some (.row sz es))] m' w' b cs -> Im ext [] m' w' b cs := fun b cs ⟨h1,h2,h3⟩ => ⟨h1,(fun ⟨_,_,h',_⟩ => by cases h'),h3⟩
 refine ⟨v,m',rfl,hf,⟨(fun k z h => by cases h),(fun k k' z z' b h => by cases h),(fun k z b h => by cases h)⟩,(fun k x b h => by cases h),(fun k x y h => by cases h),?_⟩
 have h6 := rep_fz (g := Im ext [] m' w') (k := k) (sz := sz) (es := es) (hrr.mono him (fun _ _ h => h) (fun _ _ _ h => h)) (by
  intro b hb
  rw [hb] at hblk
  cases hblk with
  | @row _ _ _ c t hw hn hl hs h1 hr =>
   exact ⟨c,⟨(hh.sep k _ b hkk hb).1,(fun ⟨_,_,h',_⟩ => by cases h'),t,_,hw⟩,hn,hl,hs,h1,fun i j e u x he hx hu => (hr i j e u x he hx hu).mono him (fun _ _ h => h) (fun _ _ _ h => h)⟩)
 have h7 : AV.fz k sz es (.ms k sz off len) = .lst sz ((es.drop off).take len) := by
  have e1 : Nat.ble (off + len) es.length = true := Nat.ble_eq_true_of_le hl
  have e2 : ∀ n,Nat.beq n n = true := fun n => Nat.beq_refl n
  simp only [AV.fz,e1,e2,Bool.and_self]
 rwa [h7] at h6
theorem Con.rekeyR {P : Program} {f : FuncId} {k sz off len off' len' : Nat} {xs es es' : List AV} (d : Nat) (hxs : (xs.all fun x => x.nm.isEmpty) = true)
  (h : Con P f (.ms k sz off len :: xs) [(k,some (.row sz es))] (.ms k sz off' len') [(k,some (.row sz es'))]) :
  Con P f (.ms d sz off len :: xs) [(d,some (.row sz es))] (.ms d sz off' len') [(d,some (.row sz es'))] := by
 refine ⟨h.ok,?_⟩
 intro ext m w vs hext hheap hvs hrep
 have h1 := h.ret ext (fun _ => m d) w vs hext (heap_one (k := d) rfl hheap) (by simpa using hvs) (by
  intro j v x hv hx
  rw [im_one (d := k) (k := d) (y := .row sz es) (x := .row sz es) (m2 := fun _ => m d) (m := m) rfl]
  match j,hx with
  | 0, hx =>
   cases hx
   have h2 := hrep 0 v _ hv rfl
   cases h2 with
   | ms0 a => exact .ms0 a _ _ _
   | ms hm hc hS => exact .ms hm hc hS
  | j + 1, hx =>
   have h2 := hrep (j + 1) v x hv hx
   refine rep_names ?_ h2
   have := List.all_eq_true.1 hxs x (List.mem_of_getElem? hx)
   simpa using this)
 refine Calls.mono h1 ?_
 rintro e w' ⟨v,m',rfl,hf,hh,hn,hk,hrr⟩
 have ho : Own [(k, some (Blk.row sz es))] (fun _ => m d) = Own [(d, some (Blk.row sz es))] m := by
  funext b; apply propext; rw [own_one,own_one]
 refine ⟨v,fun _ => m' k,rfl,ho ▸ hf,heap_one (k := k) rfl hh,?_,?_,?_⟩
 ·intro k' x b hx hb
  rw [<- ho]
  exact hn k _ b (by rw [lk_cons,if_pos rfl]) hb
 ·intro k' x y hx hy
  obtain ⟨rfl,_⟩ := lk_one hx
  exact hk k _ _ (by rw [lk_cons,if_pos rfl]) (by rw [lk_cons,if_pos rfl])
 ·rw [im_one (d := d) (k := k) (y := .row sz es') (x := .row sz es') (m2 := fun _ => m' k) (m := m') rfl]
  cases hrr with
  | ms0 a => exact .ms0 a _ _ _
  | ms hm hc hS => exact .ms hm hc hS
end Go.Lw
namespace Go.Lw
variable {P : Program} {N : Nat} {R : Array Oper} {s : AS}
theorem Step.weaken {o : Oper} {u u' : Out} (h : Step P N R s o u) (hag : ∀ s', AgreeOn s s' u' -> AgreeOn s s' u) (hno : ∀ s', AgreeOn s s' u' -> NewOk s' u)
  (hw : ∀ s',AgreeOn s s' u' -> Wk (s'.app o.dst u) (s'.app o.dst u')) : Step P N R s o u' := by
 refine ⟨fun s' hag' _ C m a w Q next hC hr hnext => ?_⟩
 exact h.run s' (hag s' hag') (hno s' hag') C m a w Q next hC hr (fun m' a' w' hr' => by
  obtain ⟨m'',hr''⟩ := hw s' hag' C m' a' w' hr'
  exact hnext m'' a' w' hr'')
theorem s_callR {d f k sz : Nat} {es : List AV} {args : Array Operand} {ts : Array TypeId} {xs : List AV} {r : AV} {t : TypeId} {pos : String} {after : Array Edge}
  (hcon : Con P f xs [(k,some (.row sz es))] r [(k,some (.row sz es))]) (ha : EvL s args.toList xs) (hk : s.blk k = some (.row sz es)) (hok : callOkB s [(k,some (.row sz es))] [(k,some (.row sz es))] r = true) (hN : Nat.blt d N = true) :
  Step P N R s ⟨some d,.call ⟨.value (.func f),args,ts⟩,t,pos,after,none⟩ ⟨some r,[],rtL args.toList,[k]⟩ := by
 refine Step.weaken (s_callH (d := d) hcon ha (fun k' z h => by
  obtain ⟨rfl,h9⟩ := lk_one h
  cases h9; exact hk) hok hN) (fun s' h => h) (fun s' h k' hk' => ?_) (fun s' h => ?_)
 ·left
  simp only [List.map_append,dead,List.map_cons,List.map_nil,List.mem_append,List.mem_cons,List.not_mem_nil,or_false] at hk' ⊢
  rcases hk' with h9 | h9 <;> exact h9
 ·intro C m a w hr
  refine ⟨m,hr.weak (fun t x hx => ⟨x,hx,.refl _⟩) (fun k' x hx => ⟨x,?_,.refl _⟩)⟩
  have hb : lk s'.hp k = some (.row sz es) := (h.2 k (List.mem_singleton.2 rfl)).trans hk
  show lk ([(k,some (.row sz es))] ++ dead [(k,some (.row sz es))] ++ s'.hp) k' = some x
  have hx' : lk s'.hp k' = some x := hx
  simp only [dead,List.map_cons,List.map_nil,List.cons_append,List.nil_append,lk_cons]
  by_cases e : k' = k
  ·rw [if_pos e]; rw [e,hb] at hx'; exact hx'
  ·rw [if_neg e,if_neg e]; exact hx'
theorem Con.rekey1 {P : Program} {f : FuncId} {k sz off len : Nat} {xs es es' : List AV} {y r : AV} (d : Nat) (hy : y.nm = []) (hxs : (xs.all fun x => x.nm.isEmpty) = true) (hr : r.nm = [])
  (h : Con P f (y :: .ms k sz off len :: xs) [(k,some (.row sz es))] r [(k,some (.row sz es'))]) : Con P f (y :: .ms d sz off len :: xs) [(d,some (.row sz es))] r [(d,some (.row sz es'))] := by
 refine ⟨h.ok,?_⟩
 intro ext m w vs hext hheap hvs hrep
 have h1 := h.ret ext (fun _ => m d) w vs hext (heap_one (k := d) rfl hheap) (by simpa using hvs) (by
  intro j v x hv hx
  rw [im_one (d := k) (k := d) (y := .row sz es) (x := .row sz es) (m2 := fun _ => m d) (m := m) rfl]
  match j,hx with
  | 0, hx =>
   cases hx
   exact rep_names hy (hrep 0 v _ hv rfl)
  | 1, hx =>
   cases hx
   have h2 := hrep 1 v _ hv rfl
   cases h2 with
   | ms0 a => exact .ms0 a _ _ _
   | ms hm hc hS => exact .ms hm hc hS
  | j + 2, hx =>
   have h2 := hrep (j + 2) v x hv hx
   refine rep_names ?_ h2
   have := List.all_eq_true.1 hxs x (List.mem_of_getElem? hx)
   simpa using this)
 refine Calls.mono h1 ?_
 rintro e w' ⟨v,m',rfl,hf,hh,hn,hk,hrr⟩
 have ho : Own [(k, some (Blk.row sz es))] (fun _ => m d) = Own [(d, some (Blk.row sz es))] m := by
  funext b; apply propext; rw [own_one,own_one]
 refine ⟨v,fun _ => m' k,rfl,ho ▸ hf,heap_one (k := k) rfl hh,?_,?_,?_⟩
 ·intro k' x b hx hb
  rw [<- ho]
  exact hn k _ b (by rw [lk_cons,if_pos rfl]) hb
 ·intro k' x y hx hy
  obtain ⟨rfl,_⟩ := lk_one hx
  exact hk k _ _ (by rw [lk_cons,if_pos rfl]) (by rw [lk_cons,if_pos rfl])
 ·rw [im_one (d := d) (k := k) (y := .row sz es') (x := .row sz es') (m2 := fun _ => m' k) (m := m') rfl]
  exact rep_names hr hrr
end Go.Lw
namespace Go.Lw
variable {P : Program} {N : Nat} {Q : Exit -> AS -> Prop}
inductive TyT where
  | lf
  | nd (l : TyT) (k : Nat) (t : TI) (r : TyT)
def TyT.get : TyT -> Nat -> Option TI
  | .lf,_ => none
  | .nd l k t r, n => match Nat.beq n k with
    | true => some t
    | false => match Nat.blt n k with
      | true => l.get n
      | false => r.get n
inductive TyT.Ok (P : Program) : TyT -> Prop
  | lf : TyT.Ok P .lf
  | nd {l r : TyT} {k : Nat} {t : TI} (hl : TyT.Ok P l) (h : tinfo P k = some t) (hr : TyT.Ok P r) : TyT.Ok P (.nd l k t r)
theorem TyT.Ok.get {T : TyT} (h : T.Ok P) {n : Nat} {t : TI} (hg : T.get n = some t) : tinfo P n = some t := by
 induction h with
 | lf => cases hg
 | nd _ h _ ihl ihr =>
  unfold TyT.get at hg
  split at hg
  ·rename_i hb; rw [Nat.eq_of_beq_eq_true hb,h]; exact hg
  ·split at hg
   ·exact ihl hg
   ·exact ihr hg
structure Tys (P : Program) where
  tab : TyT
  ok : tab.Ok P
  mix : P.follows .mixedOrders = true
def tyOf (P : Program) [Inhabited (Tys P)] (n : Nat) : Option TI := (default : Tys P).tab.get n
theorem tyOf_ok [Inhabited (Tys P)] {n : Nat} {t : TI} (h : tyOf P n = some t) : tinfo P n = some t := (default : Tys P).ok.get h
inductive AllP : List Prop -> Prop
  | nil : AllP []
  | cons {p : Prop} {l : List Prop} (h : p) (hl : AllP l) : AllP (p :: l)
theorem AllP.app {a b : List Prop} (h : AllP (a ++ b)) : AllP a /\ AllP b := by
 induction a with
 | nil => exact ⟨.nil,h⟩
 | cons p a ih =>
  cases h with | cons h hl => exact ⟨.cons h (ih hl).1,(ih hl).2⟩
def AV.optB : AV -> Option (Bool × AV)
  | .opt b x => some (b,x)
  | _ => none
theorem AV.optB_some {x y : AV} {b : Bool} (h : x.optB = some (b,y)) : x = .opt b y:=by cases x <;> simp_all [AV.optB]
def rdO (g : Bool) (G : Prop) (s : AS) : Operand -> Option (AV × List Prop)
  | .tmp t => match s.get t with
    | some x => match g with
      | true => match x.optB with
        | some (b,y) => some (y,[G -> b = true])
        | none => some (x,[])
      | false => some (x,[])
    | none => none
  | .const c => some (.v c,[])
  | .func f => some (.v (.func (.func f) #[] #[]),[])
  | .global _ => none
theorem rdO_ok {g : Bool} {G : Prop} {s : AS} {o : Operand} {x : AV} {ob : List Prop} (h : rdO g G s o = some (x, ob)) (ho : AllP ob) (hG : G) : Ev s o x := by
 cases o with
 | tmp t =>
  simp only [rdO] at h
  split at h
  ·rename_i y hy
   split at h
   ·split at h
    ·rename_i b z hz
     cases h
     cases ho with
     | cons h1 _ => exact .opt (by rw [hy,AV.optB_some hz]) (h1 hG)
    ·cases h; exact .tmp hy
   ·cases h; exact .tmp hy
  ·cases h
 | const c => cases h; exact .const c
 | func f => cases h; exact .func f
 | global n => cases h
def frc : List AV -> Option (List AV)
  | [] => some []
  | x :: l => match frc l with
    | some r => some (x :: r)
    | none => none
theorem frc_ok : ∀ {l r : List AV}, frc l = some r -> r = l
 | [],r,h => by cases h; rfl
 | x :: l, r, h => by
  unfold frc at h
  split at h
  ·rename_i r' hr; cases h; rw [frc_ok hr]
  ·cases h
def rdL (g : Bool) (G : Prop) (s : AS) : List Operand -> Option (List AV × List Prop)
  | [] => some ([],[])
  | o :: os => match rdO g G s o with
    | some (x, a) => match rdL g G s os with
      | some (xs,b) => some (x :: xs,a ++ b)
      | none => none
    | none => none
theorem rdL_ok {g : Bool} {G : Prop} {s : AS} (hG : G) : ∀ {os : List Operand} {xs : List AV} {ob : List Prop}, rdL g G s os = some (xs, ob) -> AllP ob -> EvL s os xs
 | [],xs,ob,h,ho => by cases h; exact .nil
 | o :: os, xs, ob, h, ho => by
  unfold rdL at h
  split at h
  ·rename_i x a h1
   split at h
   ·rename_i ys b h2
    cases h
    exact .cons (rdO_ok h1 ho.app.1 hG) (rdL_ok hG h2 ho.app.2)
   ·cases h
  ·cases h
def rdP (g : Bool) (G : Prop) (s : AS) : List (Nat × Operand) -> Option (List (Nat × AV) × List Prop)
  | [] => some ([],[])
  | p :: os => match rdO g G s p.2 with
    | some (x, a) => match rdP g G s os with
      | some (xs,b) => some ((p.1,x) :: xs,a ++ b)
      | none => none
    | none => none
theorem rdP_ok {g : Bool} {G : Prop} {s : AS} (hG : G) : ∀ {os : List (Nat × Operand)} {xs : List (Nat × AV)} {ob : List Prop}, rdP g G s os = some (xs, ob) -> AllP ob -> EvP s os xs
 | [],xs,ob,h,ho => by cases h; exact .nil
 | p :: os, xs, ob, h, ho => by
  unfold rdP at h
  split at h
  ·rename_i x a h1
   split at h
   ·rename_i ys b h2
    cases h
    exact .cons (rdO_ok h1 ho.app.1 hG) (rdP_ok hG h2 ho.app.2)
   ·cases h
  ·cases h
structure R1 where
  x : AV
  rt : List Nat
  rd : List Nat
  ob : List Prop
def ikn : IntKind -> Nat
  | .i8 => 0 | .i16 => 1 | .i32 => 2 | .i64 => 3 | .u8 => 4 | .u16 => 5 | .u32 => 6 | .u64 => 7
theorem ikn_inj {a b : IntKind} (h : Nat.beq (ikn a) (ikn b) = true) : a = b:=by cases a <;> cases b <;> first | rfl | (exact absurd h (by decide))
def isCmp : BinOp -> Bool
  | .eql | .neq | .lss | .leq | .gtr | .geq => true
  | _ => false
def ldC (ti : TI) (l : List AV) : Option AV := match ti.ag with
  | true => match frc (l.take ti.size) with
    | some r => some (.agg r)
    | none => none
  | false => match Nat.beq ti.size 1, l with
    | true,x :: _ => some x
    | _,_ => none
theorem ldC_ok {ti : TI} {l : List AV} {x : AV} (h : ldC ti l = some x) : (ti.ag || Nat.beq ti.size 1) = true /\ x = mkT ti.ag (l.take ti.size) := by
 unfold ldC at h
 split at h
 ·rename_i ha
  split at h
  ·rename_i r hr; cases h; rw [ha,frc_ok hr]; exact ⟨rfl,rfl⟩
  ·cases h
 ·rename_i ha
  split at h
  ·rename_i h1; cases h
   rw [ha,Nat.eq_of_beq_eq_true h1]; exact ⟨rfl,rfl⟩
  ·cases h
section
variable {s : AS} {R : Array Oper} {d : Nat} {t T : TypeId} {pos : String} {after : Array Edge} {r : R1}
def aFld (ti : TI) (x : Operand) (f : Nat) (ob : List Prop) (y : AV) : Option R1 := match ti.k with
  | .struct => match ti.fs[f]? with
    | some (o, n) => match Nat.blt 0 n with
      | true => match y with
        | .ptr k off => some ⟨.ptr k (off + o),rtOf x,[],ob⟩
        | .eptr k sz i off => some ⟨.eptr k sz i (off + o),rtOf x,[],ob⟩
        | .iptr xs => some ⟨.iptr (xs.drop o),rtOf x,[],ob⟩
        | _ => none
      | false => none
    | none => none
  | _ => none
theorem aFld_ok {x : Operand} {y : AV} {f : Nat} {ti : TI} {ob : List Prop} (hx : Ev s x y) (hT : tinfo P T = some ti) (h : aFld ti x f ob y = some r) (hN : Nat.blt d N = true) :
  Step P N R s ⟨some d,.fieldAddr T x f,t,pos,after,none⟩ ⟨some r.x,[],r.rt,r.rd⟩ := by
 unfold aFld at h
 split at h
 ·rename_i hk
  split at h
  ·rename_i o n hf
   split at h
   ·rename_i hn
    split at h
    ·cases h; exact s_fldPtr hx hT hk hf hn hN
    ·cases h; exact s_fldEptr hx hT hk hf hn hN
    ·cases h; exact s_fldIptr hx hT hk hf hn hN
    ·cases h
   ·cases h
  ·cases h
 ·cases h
theorem aFld_ob {x : Operand} {y : AV} {f : Nat} {ti : TI} {ob : List Prop} (h : aFld ti x f ob y = some r) : r.ob = ob := by
 unfold aFld at h
 repeat' split at h
 all_goals first | (cases h; rfl) | cases h
end
variable [Inhabited (Tys P)]
def aLoad (P : Program) [Inhabited (Tys P)] (s : AS) (ti : TI) (x : Operand) (ob : List Prop) : AV -> Option R1
  | .ptr k off => match s.blk k with
    | some (.box cs) => match Nat.ble (off + ti.size) cs.length with
      | true => match ldC ti (cs.drop off) with
        | some v => some ⟨v,rtOf x,[k],ob⟩
        | none => none
      | false => none
    | _ => none
  | .iptr xs => match Nat.blt 0 ti.size && Nat.ble ti.size xs.length with
    | true => match ldC ti xs with
      | some v => some ⟨v,rtOf x,[],ob⟩
      | none => none
    | false => none
  | _ => none
def isErr : Value -> Prop := fun v => v = .nilIface \/ ∃ T u,v = .iface T u
def aBin (P : Program) [Inhabited (Tys P)] (op : BinOp) (S : TypeId) (x y : Operand) (ob : List Prop) (vx vy : Value) : Option R1 := match vy with
  | .int k b => match vx with
    | .int k' a => match isCmp op && Nat.beq (ikn k) (ikn k') with
      | true => some ⟨.v (.bool (icmp op a b)),rtOf x ++ rtOf y,[],ob⟩
      | false => none
    | _ => none
  | .string b => match vx with
    | .string a => match op with
      | .eql => some ⟨.v (.bool (a.toList == b.toList)),rtOf x ++ rtOf y,[],ob⟩
      | .neq => some ⟨.v (.bool !(a.toList == b.toList)),rtOf x ++ rtOf y,[],ob⟩
      | _ => none
    | _ => none
  | .bool b => match vx with
    | .bool a => match tyOf P S with
      | some ti => match ti.k with
        | .bool => match op with
          | .eql => some ⟨.v (.bool (a == b)),rtOf x ++ rtOf y,[],ob⟩
          | .neq => some ⟨.v (.bool (a != b)),rtOf x ++ rtOf y,[],ob⟩
          | _ => none
        | _ => none
      | none => none
    | _ => none
  | .nilIface => match y with
    | .const _ => match tyOf P S with
      | some ti => match ti.k with
        | .iface _ => match op with
          | .eql => some ⟨.v (.bool (isNil vx)),rtOf x ++ [],[],isErr vx :: ob⟩
          | .neq => some ⟨.v (.bool !(isNil vx)),rtOf x ++ [],[],isErr vx :: ob⟩
          | _ => none
        | _ => none
      | none => none
    | _ => none
  | _ => none
def aLen (P : Program) [Inhabited (Tys P)] (x : Operand) (T : TypeId) (ob : List Prop) (y : AV) : Option R1 := match tyOf P T with
  | some ti => match ti.k with
    | .slice _ => match y with
      | .ms _ _ _ len => some ⟨.v (.int .i64 len),rtOf x,[],ob⟩
      | .v (.slice _ n _) => some ⟨.v (.int .i64 n),rtOf x,[],ob⟩
      | _ => none
    | .string => match y with
      | .v (.string b) => some ⟨.v (.int .i64 b.size),rtOf x,[],ob⟩
      | _ => none
    | _ => none
  | none => none
def ifK : TK -> Bool
  | .int _ | .struct | .pointer _ | .string => true
  | _ => false
def idxOk : Nat -> List (Nat × Operand) -> Bool
  | _,[] => true
  | n,p :: l => Nat.beq p.1 n && idxOk (n + 1) l
theorem idxOk_ok : ∀ {l : List (Nat × Operand)} {n : Nat}, idxOk n l = true -> l = enumP n (l.map (·.2))
 | [],n,_ => rfl
 | (i, o) :: l, n, h => by
  simp only [idxOk,Bool.and_eq_true] at h
  have h1 := Nat.eq_of_beq_eq_true h.1
  subst h1
  simp only [List.map_cons,enumP]
  rw [<- idxOk_ok h.2]
def nilB {α : Type} : List α -> Bool
  | [] => true
  | _ => false
theorem nilB_ok {α : Type} {l : List α} (h : nilB l = true) : l = []:=by cases l <;> simp_all [nilB]
def pG (g : Bool) (G : Prop) (b w : Bool) : Prop := match g with
  | true => G /\ b = w
  | false => b = w
theorem pG_ok {g : Bool} {G : Prop} {b w : Bool} (hG : G) (h : b = w) : pG g G b w:=by cases g <;> first | exact h | exact ⟨hG,h⟩
def auto1 (P : Program) [Inhabited (Tys P)] (g : Bool) (G : Prop) (s : AS) : Op -> Option R1
  | .move x => match rdO g G s x with
    | some (v,ob) => some ⟨v,rtOf x,[],ob⟩
    | none => none
  | .assign x => match rdO g G s x with
    | some (v,ob) => some ⟨v,rtOf x,[],ob⟩
    | none => none
  | .load T x => match rdO g G s x with
    | some (v, ob) => match tyOf P T with
      | some ti => aLoad P s ti x ob v
      | none => none
    | none => none
  | .fieldAddr T x f => match rdO g G s x with
    | some (v, ob) => match tyOf P T with
      | some ti => aFld ti x f ob v
      | none => none
    | none => none
  | .extract x i => match rdO g G s x with
    | some (.tup xs, ob) => match xs[i]? with
      | some y => some ⟨y,rtOf x,[],ob⟩
      | none => none
    | _ => none
  | .unOp .not _ x => match rdO g G s x with
    | some (.v (.bool b),ob) => some ⟨.v (.bool !b),rtOf x,[],ob⟩
    | _ => none
  | .binOp op S x y _ => match rdO g G s y with
    | some (.v vy, ob) => match rdO g G s x with
      | some (.v vx,ob') => aBin P op S x y (ob' ++ ob) vx vy
      | _ => none
    | _ => none
  | .makeInterface T x => match rdO g G s x with
    | some (.v v, ob) => match tyOf P T with
      | some ti => match ifK ti.k with
        | true => some ⟨.v (.iface T v),rtOf x,[],ob⟩
        | false => none
      | none => none
    | _ => none
  | .nilCheck x => match rdO g G s x with
    | some (.ptr k off,ob) => some ⟨.ptr k off,rtOf x,[],ob⟩
    | some (.iptr xs,ob) => some ⟨.iptr xs,rtOf x,[],ob⟩
    | _ => none
  | .makeFunc (.func f) first caps => match first.toList with
    | [] => match rdL g G s caps.toList with
      | some (xs,ob) => some ⟨.fn f xs,rtL caps.toList,[],ob⟩
      | none => none
    | _ => match caps.toList with
      | [] => match rdL g G s first.toList with
        | some (xs, ob) => match xs.all fun x => x.nm.isEmpty with
          | true => some ⟨.cl f xs [],rtL first.toList,[],ob⟩
          | false => none
        | none => none
      | _ => none
  | .build T parts => match tyOf P T with
    | some ti => match ti.k with
      | .struct => match ti.zero.all Value.oneCell' && ti.fs.all fun p => Nat.blt 0 p.2 with
        | true => match rdP g G s parts.toList with
          | some (xs, ob) => match fillA (fun i => ti.fs[i]?) (ti.zero.map .v) xs with
            | some l => match frc l with
              | some l => some ⟨.agg l,rtP parts.toList,[],ob⟩
              | none => none
            | none => none
          | none => none
        | false => none
      | _ => none
    | none => none
  | .buildSlice T n parts => match n with
    | 0 => none
    | n + 1 => match tyOf P T with
      | some ti => match ti.k with
        | .slice E => match tyOf P E with
          | some te => match rdL g G s (parts.toList.map (·.2)) with
            | some (es, ob) => match idxOk 0 parts.toList && te.zero.all Value.oneCell' && Nat.beq te.zero.length te.size && (es.all fun e => Nat.beq e.cells.length te.size && e.ok) &&
                nilB (AV.nms es) && Nat.beq (n + 1) es.length && Nat.ble ((n + 1) * te.size) 16777216 && Nat.ble (n + 1) 16777216 with
              | true => some ⟨.lst te.size es,rtL (parts.toList.map (·.2)),[],ob⟩
              | false => none
            | none => none
          | none => none
        | _ => none
      | none => none
  | .pick c x y => match rdO g G s c with
    | some (.v (.bool b), ob) => match rdO true (pG g G b true) s x with
      | some (.v (.bool bx), ob') => match rdO true (pG g G b false) s y with
        | some (.v (.bool bz),ob'') => some ⟨.v (.bool (cond b bx bz)),rtOf c ++ (rtOf x ++ rtOf y),[],ob ++ (ob' ++ ob'')⟩
        | _ => none
      | _ => none
    | _ => none
  | .call ⟨.builtin .len, args, ts⟩ => match args.toList with
    | [x] => match ts.toList with
      | [T] => match rdO g G s x with
        | some (y,ob) => aLen P x T ob y
        | none => none
      | _ => none
    | _ => none
  | _ => none
section
variable {g : Bool} {G : Prop} {s : AS} {R : Array Oper} {d : Nat} {t T : TypeId} {pos : String} {after : Array Edge} {r : R1}
theorem aLoad_ok {x : Operand} {y : AV} {ti : TI} {ob : List Prop} (hx : Ev s x y) (hT : tinfo P T = some ti) (h : aLoad P s ti x ob y = some r) (hN : Nat.blt d N = true) :
  Step P N R s ⟨some d,.load T x,t,pos,after,none⟩ ⟨some r.x,[],r.rt,r.rd⟩ := by
 unfold aLoad at h
 split at h
 ·split at h
  ·split at h
   ·split at h
    ·cases h
     rename_i hk _ h1 _ v hv
     obtain ⟨h2,rfl⟩ := ldC_ok hv
     exact s_loadPtr hx hk hT h1 h2 hN
    ·cases h
   ·cases h
  ·cases h
 ·split at h
  ·split at h
   ·cases h
    rename_i h1 _ v hv
    obtain ⟨h2,rfl⟩ := ldC_ok hv
    exact s_loadIptr hx hT h1 h2 hN
   ·cases h
  ·cases h
 ·cases h
theorem aBin_ok {op : BinOp} {x y : Operand} {vx vy : Value} {S : TypeId} {ob : List Prop} (hx : Ev s x (.v vx)) (hy : Ev s y (.v vy)) (h : aBin P op S x y ob vx vy = some r) (ho : AllP r.ob)
  (hN : Nat.blt d N = true) : Step P N R s ⟨some d,.binOp op S x y T,t,pos,after,none⟩ ⟨some r.x,[],r.rt,r.rd⟩ := by
 unfold aBin at h
 split at h
 ·split at h
  ·split at h
   ·rename_i hc; cases h
    simp only [Bool.and_eq_true] at hc
    cases ikn_inj hc.2
    exact s_cmp hx hy (by have := hc.1; cases op <;> simp_all [isCmp]) hN
   ·cases h
  ·cases h
 ·split at h
  ·split at h
   ·cases h; exact s_strCmp hx hy hN
   ·cases h; exact s_strNe hx hy hN
   ·cases h
  ·cases h
 ·split at h
  ·split at h
   ·rename_i ti hti
    split at h
    ·rename_i hk
     split at h
     ·cases h; exact s_boolEq hx hy (tyOf_ok hti) hk hN
     ·cases h; exact s_boolNe hx hy (tyOf_ok hti) hk hN
     ·cases h
    ·cases h
   ·cases h
  ·cases h
 ·split at h
  ·rename_i c
   have hc : c = .nilIface:=by cases hy; rfl
   subst hc
   split at h
   ·rename_i ti hti
    split at h
    ·rename_i hk
     split at h
     ·cases h; cases ho with | cons h1 _ => exact s_errEq hx h1 (tyOf_ok hti) hk hN
     ·cases h; cases ho with | cons h1 _ => exact s_errNe hx h1 (tyOf_ok hti) hk hN
     ·cases h
    ·cases h
   ·cases h
  ·cases h
 ·cases h
theorem aBin_ob {op : BinOp} {x y : Operand} {vx vy : Value} {S : TypeId} {ob : List Prop} (h : aBin P op S x y ob vx vy = some r) (ho : AllP r.ob) : AllP ob := by
 unfold aBin at h
 repeat' split at h
 all_goals first | (cases h; exact ho) | (cases h; cases ho; assumption) | cases h
theorem aLen_ok {x : Operand} {y : AV} {ob : List Prop} (hx : Ev s x y) (h : aLen P x T ob y = some r) (hN : Nat.blt d N = true) :
  Step P N R s ⟨some d,.call ⟨.builtin .len,#[x],#[T]⟩,t,pos,after,none⟩ ⟨some r.x,[],r.rt,r.rd⟩ := by
 unfold aLen at h
 split at h
 ·rename_i ti hti
  have hti := tyOf_ok hti
  split at h
  ·rename_i hk
   split at h
   ·cases h; exact s_lenMs hx hti hk hN
   ·cases h; exact s_lenNil hx hti hk hN
   ·cases h
  ·rename_i hk
   split at h
   ·cases h; exact s_lenStr hx hti hk hN
   ·cases h
  ·cases h
 ·cases h
theorem aLoad_ob {x : Operand} {y : AV} {ti : TI} {ob : List Prop} (h : aLoad P s ti x ob y = some r) : r.ob = ob := by
 unfold aLoad at h
 repeat' split at h
 all_goals first | (cases h; rfl) | cases h
theorem aLen_ob {x : Operand} {y : AV} {ob : List Prop} (h : aLen P x T ob y = some r) : r.ob = ob := by
 unfold aLen at h
 repeat' split at h
 all_goals first | (cases h; rfl) | cases h
theorem auto1_ok {op : Op} (h : auto1 P g G s op = some r) (ho : AllP r.ob) (hG : G) (hN : Nat.blt d N = true) : Step P N R s ⟨some d, op, t, pos, after, none⟩ ⟨some r.x, [], r.rt, r.rd⟩ := by
 unfold auto1 at h
 split at h
 ·split at h
  ·rename_i h1; cases h; exact s_move (rdO_ok h1 ho hG) hN
  ·cases h
 ·split at h
  ·rename_i h1; cases h; exact s_assign (rdO_ok h1 ho hG) hN
  ·cases h
 ·split at h
  ·rename_i h1
   split at h
   ·rename_i ti hti
    rw [aLoad_ob h] at ho
    exact aLoad_ok (rdO_ok h1 ho hG) (tyOf_ok hti) h hN
   ·cases h
  ·cases h
 ·split at h
  ·rename_i h1
   split at h
   ·rename_i ti hti
    rw [aFld_ob h] at ho
    exact aFld_ok (rdO_ok h1 ho hG) (tyOf_ok hti) h hN
   ·cases h
  ·cases h
 ·split at h
  ·rename_i h1
   split at h
   ·rename_i hy; cases h; exact s_extract (rdO_ok h1 ho hG) hy hN
   ·cases h
  ·cases h
 ·split at h
  ·rename_i h1; cases h; exact s_not (rdO_ok h1 ho hG) hN
  ·cases h
 ·split at h
  ·rename_i h1
   split at h
   ·rename_i h2
    have := (aBin_ob h ho).app
    exact aBin_ok (rdO_ok h2 this.1 hG) (rdO_ok h1 this.2 hG) h ho hN
   ·cases h
  ·cases h
 ·split at h
  ·rename_i h1
   split at h
   ·rename_i ti hti
    split at h
    ·rename_i hk; cases h
     exact s_mkIface (rdO_ok h1 ho hG) hN (tyOf_ok hti) (by
      generalize ti.k = k at hk
      cases k <;> simp_all [ifK])
    ·cases h
   ·cases h
  ·cases h
 ·split at h
  ·rename_i h1; cases h; exact s_nilChk (rdO_ok h1 ho hG) hN
  ·rename_i h1; cases h; exact s_nilChkI (rdO_ok h1 ho hG) hN
  ·cases h
 ·rename_i f first caps
  split at h
  ·rename_i hf
   have : first = #[]:=by apply Array.toList_inj.1; simpa using hf
   subst this
   split at h
   ·rename_i h1; cases h; exact s_mkFn (rdL_ok hG h1 ho) hN
   ·cases h
  ·split at h
   ·rename_i hf
    have : caps = #[]:=by apply Array.toList_inj.1; simpa using hf
    subst this
    split at h
    ·rename_i h1
     split at h
     ·rename_i h2; cases h; exact s_mkBf (rdL_ok hG h1 ho) h2 hN
     ·cases h
    ·cases h
   ·cases h
 ·split at h
  ·rename_i ti hti
   split at h
   ·rename_i hk
    split at h
    ·rename_i hz
     simp only [Bool.and_eq_true] at hz
     split at h
     ·rename_i h1
      split at h
      ·rename_i hl
       split at h
       ·rename_i hr
        cases h
        exact s_build (rdP_ok hG h1 ho) (tyOf_ok hti) hk hz.1 hz.2 (by rw [hl,frc_ok hr]) hN
       ·cases h
      ·cases h
     ·cases h
    ·cases h
   ·cases h
  ·cases h
 ·rename_i T n parts
  split at h
  ·cases h
  ·rename_i n
   split at h
   ·rename_i ti hti
    split at h
    ·rename_i E hk
     split at h
     ·rename_i te hte
      split at h
      ·rename_i es ob h1
       split at h
       ·rename_i hc
        cases h
        simp only [Bool.and_eq_true] at hc
        obtain ⟨⟨⟨⟨⟨⟨⟨c1,c2⟩,c3⟩,c4⟩,c5⟩,c6⟩,c7⟩,c8⟩ := hc
        exact s_buildLst (by rw [<- idxOk_ok c1]) (rdL_ok hG h1 ho) (tyOf_ok hti) hk (tyOf_ok hte) c2 c3 (by simpa only [Bool.and_eq_true] using c4) (nilB_ok c5) (Nat.eq_of_beq_eq_true c6) c7 c8 hN
       ·cases h
      ·cases h
     ·cases h
    ·cases h
   ·cases h
 ·split at h
  ·rename_i h1
   split at h
   ·rename_i h2
    split at h
    ·rename_i h3
     cases h
     have hp := ho.app
     have hq := hp.2.app
     exact s_pick (rdO_ok h1 hp.1 hG) (fun hb => rdO_ok h2 hq.1 (pG_ok hG hb)) (fun hb => rdO_ok h3 hq.2 (pG_ok hG hb)) hN
    ·cases h
   ·cases h
  ·cases h
 ·rename_i args ts
  split at h
  ·rename_i x hx
   split at h
   ·rename_i T hT
    have e1 : args = #[x]:=by apply Array.toList_inj.1; simpa using hx
    have e2 : ts = #[T]:=by apply Array.toList_inj.1; simpa using hT
    subst e1; subst e2
    split at h
    ·rename_i h1
     rw [aLen_ob h] at ho
     exact aLen_ok (rdO_ok h1 ho hG) h hN
    ·cases h
   ·cases h
  ·cases h
 ·cases h
end
end Go.Lw
namespace Go.Lw
variable {P : Program} {N : Nat} {R : Array Oper} {s : AS} {Q : Exit -> AS -> Prop}
theorem exec_yield {ρ : Operand -> Value} {o : Oper} {g : Operand} {l : Nat} {args : Array Operand} {ts : Array TypeId} (ho : o.op = .call ⟨.value g, args, ts⟩)
  (hρ : ρ g = .func (.yield l) #[] #[]) : (execOp ρ o).run P = (Instr.yield l (args.map ρ)).run P := by
 obtain ⟨dst,op,type,pos,after,guard⟩ := o
 subst ho
 funext w
 simp [execOp,resolve,hρ,Deferred.ofValue,invoke]
def RunY (P : Program) (vs : Array Value) (w : World) (R : Ending -> World -> Prop) : Prop :=
  ∃ l f ts x y,vs[0]? = some (.func (.yield l) #[] #[]) /\ (Instr.yield l (vs.toList.drop 1).toArray).run P w = .ok (.round l f ts x y) w /\ ∀ ro n,RoundIn (Fw ro) n P l f ts x y w R
theorem RunY.mono {vs : Array Value} {w : World} {R R' : Ending -> World -> Prop} (h : RunY P vs w R) (hr : ∀ e w', R e w' -> R' e w') : RunY P vs w R' := by
 obtain ⟨l,f,ts,x,y,h1,h2,h3⟩ := h
 exact ⟨l,f,ts,x,y,h1,h2,fun ro n => (h3 ro n).mono hr⟩
def YCon (P : Program) (k : Nat) (xs : List AV) (H : Hp) (r : AV) (H' : Hp) : Prop := RetG (RunY P) (.yl k :: xs) H r H'
theorem s_yield {d : Nat} {g : Operand} {k : Nat} {args : Array Operand} {ts : Array TypeId} {xs : List AV} {H H' : Hp} {r : AV} {t : TypeId} {pos : String} {after : Array Edge}
  (hg : Ev s g (.yl k)) (hcon : YCon P k xs H r H') (ha : EvL s args.toList xs) (hH : ∀ k z,lk H k = some z -> s.blk k = some z) (hok : callOkB s H H' r = true) (hN : Nat.blt d N = true) :
  Step P N R s ⟨some d,.call ⟨.value g,args,ts⟩,t,pos,after,none⟩ ⟨some r,H' ++ dead H,rtOf g ++ rtL args.toList,H.map (·.1)⟩ := by
 refine ⟨fun s' hag hnew C m a w Q next hC hr hnext => ?_⟩
 rw [if_pos (wanted_none rfl _)]
 intro ro n
 have hag' : AgreeOn s s' ⟨none,[],rtOf g ++ rtL args.toList,[]⟩ := ⟨hag.1,fun k hk => by cases hk⟩
 have ha' := ha.agree hag' (fun _ h => List.mem_append.2 (.inr h))
 have hgr := (hg.agree hag' (fun _ h => List.mem_append.2 (.inl h))).rep hr
 have hev : ∃ l, a.eval g = .func (.yield l) #[] #[] := by
  generalize a.eval g = u at hgr
  cases hgr; exact ⟨_,rfl⟩
 obtain ⟨l,hev⟩ := hev
 rw [exec_yield rfl hev]
 simp only [callOkB,Bool.and_eq_true,List.all_eq_true] at hok
 obtain ⟨hok1,hok2⟩ := hok
 have hc := hr.called (run := RunY P) (fun _ _ _ _ h h' => RunY.mono h h') hcon (vs := #[Value.func (.yield l) #[] #[]] ++ args.map a.eval) (by have := ha'.length; simp at this ⊢; omega) (by
   intro j v x hv hx
   cases j with
   | zero =>
    cases hx
    rw [Array.getElem?_append,if_pos (by show 0 < 1; omega)] at hv
    cases hv
    rw [<- hev]; exact hgr
   | succ j =>
    refine ha'.rep hr j v x ?_ (by simpa using hx)
    rw [Array.getElem?_append,if_neg (by show ¬ j + 1 < 1; omega)] at hv
    have h9 : (Array.map a.eval args)[j]? = some v := hv
    simpa using h9)
  (fun k z hz => by rw [<- hH k z hz]; exact hag.2 k (mem_keys_of_lk hz)) (by
  intro k z hz
  rcases hnew k (by simp only [List.map_append,List.mem_append]; exact .inl (mem_keys_of_lk hz)) with h | h
  ·obtain ⟨p, hp, rfl⟩ := List.mem_map.1 h
   exact .inl (alive_iff.1 (hok1 p hp))
  ·exact .inr h) (by
  intro k hk
  obtain ⟨p,hp,rfl⟩ := List.mem_map.1 hk
  exact hok1 p hp) hok2
 obtain ⟨l',f,ts',x,y,h1,h2,h3⟩ := hc
 have hl : l' = l := by
  rw [Array.getElem?_append,if_pos (by show 0 < 1; omega)] at h1
  cases h1; rfl
 subst hl
 have e1 : ((#[Value.func (.yield l') #[] #[]] ++ args.map a.eval).toList.drop 1).toArray = args.map a.eval:=by simp; rw [<- Array.toList_map,Array.toArray_toList]
 rw [e1] at h2
 rw [h2]
 refine ⟨(fun h => by cases h),(h3 ro (n - 1)).mono ?_⟩
 rintro e w' ⟨v,m'',rfl,hr',hrr,_⟩
 rw [Nat.blt_eq] at hN
 have := hr'.put d v (some r) (fun z hz => by cases hz; exact ⟨by have := hr'.nt; omega,hrr⟩)
 exact hnext m'' _ _ (by simpa [AS.app,Act.put] using this)
theorem s_guardH {d j g : Nat} {op : Op} {t : TypeId} {pos : String} {after : Array Edge} {want b : Bool} {x : AV} {upd : Hp} {rt rd : List Nat}
  (hj : (R[j]?).bind (·.dst) = some g) (hb : s.get g = some (.v (.bool b))) (hN : Nat.blt d N = true)
  (hno : b ≠ want -> ∀ k ∈ upd.map (·.1),k ∈ rd /\ lk upd k = s.blk k)
  (h : b = want -> Step P N R s ⟨some d,op,t,pos,after,none⟩ ⟨some x,upd,rt,rd⟩) :
  Step P N R s ⟨some d,op,t,pos,after,some (j,want)⟩ ⟨some (.opt (b == want) x),upd,g :: rt,rd⟩ := by
 refine ⟨fun s' hag hnew C m a w Q next hC hr hnext => ?_⟩
 have hg := hr.slots g _ ((hag.1 g (by simp)).trans hb)
 have hgv : a.tmps[g]? = some (.bool b) := by
  obtain ⟨h1,h2⟩ := hg
  generalize hu : a.tmps.getD g undef = u at h2
  cases h2
  simp only [Array.getD_eq_getD_getElem?] at hu
  rw [Array.getElem?_eq_getElem h1] at hu ⊢
  simpa using hu
 have hy : yielded R a.tmps j = some b:=by simp [yielded,hj,hgv]
 have hd : d < a.tmps.size:=by rw [Nat.blt_eq] at hN; have := hr.nt; omega
 by_cases hbw : b = want
 ·subst hbw
  have hwt : Region.wanted ⟨some d,op,t,pos,after,some (j,b)⟩ (yielded R a.tmps) = true:=by simp [Region.wanted,hy]
  rw [if_pos hwt]
  have := (h rfl).run s' ⟨fun t ht => hag.1 t (by simp [show t ∈ rt from ht]),hag.2⟩ hnew C m a w Q next hC hr (fun m' a' w' h' => hnext m' a' w' ?_)
  ·rw [if_pos (wanted_none rfl _)] at this
   exact this
  ·refine ⟨fun t y hy => ?_, h'.heap, h'.frame, h'.new, h'.keep, h'.defers, h'.nt⟩
   simp only [get_app] at hy
   split at hy
   ·rename_i hdt
    cases hy
    have := h'.slots t x (by simp only [get_app,if_pos hdt])
    exact ⟨this.1,.opt (fun _ => this.2) (fun h => by simp at h)⟩
   ·rename_i hdt
    exact h'.slots t y (by simp only [get_app,if_neg hdt]; exact hy)
 ·have hwt : ¬ Region.wanted ⟨some d, op, t, pos, after, some (j, want)⟩ (yielded R a.tmps) = true := by simp [Region.wanted, hy, hbw]
  rw [if_neg hwt]
  have := hr.put d undef (some (.opt (b == want) x)) (fun y hy => by cases hy; exact ⟨hd,.opt (fun h => absurd (beq_iff_eq.1 h) hbw) (fun _ => rfl)⟩)
  refine hnext m _ _ ?_
  refine RelM.congr (s := ⟨(d,some (.opt (b == want) x)) :: s'.sl,s'.hp⟩) (fun t => rfl) (fun k => ?_) (by simpa [Act.put] using this)
  simp only [AS.app,AS.blk,lk_append]
  split
  ·rename_i hk
   obtain ⟨h1,h2⟩ := hno hbw k hk
   rw [h2]; exact hag.2 k h1
  ·rfl
theorem RelM.setLoop {C : Ctx} {m : Nat -> Option Nat} {a : Act} {w : World} (h : RelM C s m a w) {k l : Nat} {d : LpD} {st : LoopState} {pe : Option Code} {sl : Slots} {r : Loop}
  (hk : lk s.hp k = some (.loop d st pe sl)) (hm : m k = some l) (hl : w.heap[l]? = some (.loop r)) (st' : LoopState) (pe' : Option Code) :
  RelM C ⟨s.sl,(k,some (.loop d st' pe' sl)) :: s.hp⟩ m a (w.putObj l (.loop { r with state := st',pending := pe' })) := by
 have hlt := (h.heap.sep k _ l hk hm).2
 have hget : ∀ b',b' ≠ l -> (w.putObj l (.loop { r with state := st',pending := pe' })).heap[b']? = w.heap[b']? := fun b' hb => World.putObj_heap_other hb
 have hlk : ∀ k' y, lk ((k, some (Blk.loop d st' pe' sl)) :: s.hp) k' = some y -> ∃ z, lk s.hp k' = some z := by
  intro k' y hy
  rw [lk_cons] at hy
  split at hy
  ·subst_vars; exact ⟨_,hk⟩
  ·exact ⟨y,hy⟩
 have hf : Frame (Own s.hp m) w (w.putObj l (.loop { r with state := st', pending := pe' })) := by
  refine ⟨rfl,rfl,rfl,by simp,?_,?_⟩
  ·rintro b' n ⟨c1, t1, f1, h1, h2⟩
   refine ⟨c1,t1,f1,?_,h2⟩
   rw [hget,h1]
   rintro rfl
   rw [hl] at h1; cases h1
  ·intro b' hb' hn
   refine hget b' ?_
   rintro rfl
   exact hn ⟨k,_,hk,hm⟩
 have hal : ∀ k' y b', lk ((k, some (Blk.loop d st' pe' sl)) :: s.hp) k' = some y -> m k' = some b' -> Own s.hp m b' \/ w.heap.size <= b' := by
  intro k' y b' hy hb'
  obtain ⟨z,hz⟩ := hlk k' y hy
  exact .inl ⟨k',z,hz,hb'⟩
 refine h.update hf (fun t y k' b' _ _ hb' => hb') hal (fun k' y _ hy => ⟨hlk k' y hy,rfl⟩) ⟨?_,?_,?_⟩
 ·intro k' y hy
  by_cases e : k' = k
  ·subst e
   rw [lk_cons,if_pos rfl] at hy
   cases hy
   have hb := h.heap.blk k' _ hk
   rw [hm] at hb ⊢
   cases hb with
   | loop hw h1 h2 h3 h4 h5 hn hr =>
    rw [hl] at hw; cases hw
    exact .loop (World.putObj_heap_same hlt) rfl rfl h3 h4 h5 hn (fun t x hx => ⟨(hr t x hx).1,(hr t x hx).2.mono (im_mono hf hal) hf.sz (fun _ _ _ h => h)⟩)
  ·rw [lk_cons, if_neg e] at hy
   refine BlkRep.mono (im_mono hf hal) hf.sz (fun k'' b' _ hb' => hb') rfl ?_ (h.heap.blk k' y hy)
   intro b' hb'
   refine hget b' ?_
   rintro rfl
   exact e (h.heap.inj k' k y _ b' hy hk hb' hm)
 ·intro k1 k2 y1 y2 b' h1 h2 hb1 hb2
  obtain ⟨z1,hz1⟩ := hlk k1 y1 h1
  obtain ⟨z2,hz2⟩ := hlk k2 y2 h2
  exact h.heap.inj k1 k2 z1 z2 b' hz1 hz2 hb1 hb2
 ·intro k' y b' hy hb'
  obtain ⟨z,hz⟩ := hlk k' y hy
  have := h.heap.sep k' z b' hz hb'
  exact ⟨this.1,Nat.lt_of_lt_of_le this.2 hf.size⟩
def parSl : List Tmp -> List AV -> Slots -> Slots
  | p :: ps,x :: xs,sl => parSl ps xs ((p,some x) :: sl)
  | _,_,sl => sl
theorem RelM.params {C : Ctx} {m : Nat -> Option Nat} {w : World} {hp : Hp} : ∀ (ps : List Tmp) (xs : List AV) (vs : List Value) (sl : Slots) (a : Act), RelM C ⟨sl, hp⟩ m a w -> vs.length = xs.length -> (∀ p ∈ ps, p < C.nt) ->
  (∀ (j : Nat) v x,vs[j]? = some v -> xs[j]? = some x -> Rep (Im C.ext hp m w) (Sz w) m v x) ->
  RelM C ⟨parSl ps xs sl,hp⟩ m { a with tmps := (ps.zip vs).foldl (fun t (p,v) => t.setIfInBounds p v) a.tmps } w
 | [],_,_,sl,a,h,_,_,_ => by simpa [parSl] using h
 | p :: ps,[],[],sl,a,h,_,_,_ => by simpa [parSl] using h
 | p :: ps, x :: xs, v :: vs, sl, a, h, hl, hp, hr => by
  have h1 := h.put p v (some x) (fun y hy => by cases hy; exact ⟨Nat.lt_of_lt_of_le (hp p (by simp)) h.nt,hr 0 v x rfl rfl⟩)
  exact RelM.params ps xs vs _ _ h1 (by simpa using hl) (fun q hq => hp q (by simp [hq])) (fun j v' x' hv hx => hr (j + 1) v' x' hv hx)
def EndY (k : Nat) (d : LpD) (r : AV) (H' : Hp) : Exit -> AS -> Prop
  | .normal,s => ∃ pe sl,lk s.hp k = some (.loop d .busy pe sl) /\ Fin ⟨s.sl,(k,some (.loop d .ready none sl)) :: s.hp⟩ (.v (.bool true)) r H'
  | .ret,s => ∃ pe sl,lk s.hp k = some (.loop d .busy pe sl) /\ Fin ⟨s.sl,(k,some (.loop d .done (some .ret) sl)) :: s.hp⟩ (.v (.bool false)) r H'
  | _,_ => False
def MidY (P : Program) (k : Nat) (d : LpD) (r : AV) (H' : Hp) (e : Exit) (s : AS) : Prop :=
  e = .normal /\ ∃ pe sl,lk s.hp k = some (.loop d .ready pe sl) /\ AWP P d.nt d.body (EndY k d r H') ⟨s.sl,(k,some (.loop d .busy pe sl)) :: s.hp⟩
theorem RelM.loopAt {C : Ctx} {m : Nat -> Option Nat} {a : Act} {w : World} (h : RelM C s m a w) {k l : Nat} {d : LpD} {st : LoopState} {pe : Option Code} {sl : Slots}
  (hk : lk s.hp k = some (.loop d st pe sl)) (hm : m k = some l) : ∃ r : Loop,w.heap[l]? = some (.loop r) /\ r.state = st /\ r.pending = pe := by
 have hb := h.heap.blk k _ hk
 rw [hm] at hb
 cases hb with
 | loop hw h1 h2 => exact ⟨_,hw,h1,h2⟩
theorem ycon_of {k : Nat} {d : LpD} {xs : List AV} {H : Hp} {r : AV} {H' : Hp} {sl : Slots} (hH : ∀ k z, lk H k = some z -> 1000 <= k) (hk : lk H k = some (.loop d .ready none sl))
  (hl : xs.length = d.params.size) (hps : ∀ p ∈ d.params.toList,p < d.nt) (h : AWP P d.nt d.assign (MidY P k d r H') ⟨parSl d.params.toList xs sl,H⟩) : YCon P k xs H r H' := by
 intro ext m w vs hext hheap hvs hrep
 have hs : vs.size = xs.length + 1 := hvs
 have h0 : vs[0]? = some vs[0] := Array.getElem?_eq_getElem (by omega)
 have hy := hrep 0 _ _ h0 rfl
 generalize vs[0] = v0 at h0 hy
 cases hy with
 | @yl _ _ l hm =>
  have hb := hheap.blk k _ hk
  rw [hm] at hb
  cases hb with
  | @loop _ r0 _ _ _ _ hw h1 h2 h3 h4 h5 hn hr =>
   have hk1000 := hH k _ hk
   let C : Ctx := ⟨w,ext,Own H m,m,d.nt,hext,some l⟩
   have hr0 : RelM C ⟨sl, H⟩ m { tmps := r0.tmps, defers := [] } w :=
    ⟨fun t x hx => hr t x hx,hheap,Frame.refl _ _,fun k x b h1 h2 => .inl ⟨k,x,h1,h2⟩,fun _ _ _ _ => rfl,Marks.nil _ _,hn⟩
   have hargs : ((vs.toList.drop 1).toArray).size = r0.params.size:=by rw [h3]; simp; omega
   have hr1 := hr0.params d.params.toList xs (vs.toList.drop 1) sl _ (by simp; omega) hps (fun j v x hv hx => hrep (j + 1) v x (by simpa [Nat.add_comm] using hv) (by simpa using hx))
   have e1 : (r0.params.zip (vs.toList.drop 1).toArray).foldl (fun tmps (t, a) => tmps.setIfInBounds t a) r0.tmps = (d.params.toList.zip (vs.toList.drop 1)).foldl (fun t (p, v) => t.setIfInBounds p v) r0.tmps := by
    rw [h3,<- Array.foldl_toList,Array.toList_zip]
   refine ⟨l,r0.fn,_,r0.assign,r0.body,h0,run_yield hw hargs,fun ro n => roundIn_of_wpIn (F := Fw ro) trivial ?_⟩
   rw [e1,h4,h5]
   refine wpIn_mono (h C m _ w n rfl hr1) ?_
   rintro e a1 w1 ⟨s1,m1,⟨rfl,pe1,sl1,hk1,hbody⟩,hr1'⟩
   have hm1 : m1 k = some l := (hr1'.keep k _ hk1000 hk1).trans hm
   obtain ⟨r1,hw1,hst1,hpe1⟩ := hr1'.loopAt hk1 hm1
   have hr2 := hr1'.setLoop hk1 hm1 hw1 .busy pe1
   refine ⟨_,run_beginRound hw1 hst1,?_⟩
   have e2 : ({ r1 with state := .busy } : Loop) = { r1 with state := .busy,pending := pe1 }:=by rw [<- hpe1]
   rw [e2]
   refine wpIn_mono (hbody C m1 a1 _ n rfl hr2) ?_
   rintro e a3 w3 ⟨s3,m3,hq,hr3⟩
   have fin : ∀ (jump : Option Code) (pe : Option Code) (sl3 : Slots), lk s3.hp k = some (.loop d .busy pe sl3) ->
     Fin ⟨s3.sl,(k,some (.loop d (if jump.isNone then .ready else .done) jump sl3)) :: s3.hp⟩ (.v (.bool jump.isNone)) r H' ->
     ∃ v w', (Instr.endRound l jump).run P w3 = .ok v w' /\ ∃ v' m', Ending.returned v = .returned v' /\ Frame (Own H m) w w' /\ HeapRel ext H' m' w' /\
      (∀ k x b,lk H' k = some x -> m' k = some b -> Own H m b \/ w.heap.size <= b) /\ (∀ k x y,lk H k = some x -> lk H' k = some y -> m' k = m k) /\ Rep (Im ext H' m' w') (Sz w') m' v' r := by
    intro jump pe sl3 hk3 hfin
    have hm3 : m3 k = some l := (hr3.keep k _ hk1000 hk3).trans hm
    obtain ⟨r3,hw3,hst3,hpe3⟩ := hr3.loopAt hk3 hm3
    have hr4 := hr3.setLoop hk3 hm3 hw3 (if jump.isNone then .ready else .done) jump
    obtain ⟨m'',g3,g4,g5,g6⟩ := hfin ext m3 _ _ hr4.heap (fun b hb => hr4.ext_lt hb) (.v (.bool jump.isNone))
    refine ⟨_,_,run_endRound jump hw3,_,m'',rfl,hr4.frame,g3,?_,?_,g6⟩
    ·intro k' z b hk' hb'
     obtain ⟨k2,z2,hk2,hb2⟩ := g4 k' z b hk' hb'
     exact hr4.new k2 z2 b hk2 hb2
    ·intro k' z y hk' hy'
     obtain ⟨⟨y',hy2⟩,h8⟩ := g5 k' y (hH k' z hk') hy'
     rw [h8]
     exact hr4.keep k' y' (hH k' z hk') hy2
   cases e with
   | normal =>
    obtain ⟨pe,sl3,hk3,hfin⟩ := hq
    exact fin none pe sl3 hk3 hfin
   | ret =>
    obtain ⟨pe,sl3,hk3,hfin⟩ := hq
    exact fin (some .ret) pe sl3 hk3 hfin
   | _ => exact hq.elim
theorem awp0_seq {x y : Code} (h : AWP P N x (fun e s => match e with | .normal => AWP0 P N y Q s | e => Q e s) s) : AWP0 P N (.seq x y) Q s := by
 intro C m a w n hro hN hr
 refine wpIn_seq (wpIn_mono (h C m a w n hN hr) ?_)
 rintro e a' w' ⟨s',m',hq,hr'⟩
 cases e with
 | normal => exact hq C m' a' w' n hro hN hr'
 | _ => exact ⟨s',m',hq,hr'⟩
theorem awp0_seq0 {x y : Code} (h : AWP0 P N x (fun e s => match e with | .normal => AWP0 P N y Q s | e => Q e s) s) : AWP0 P N (.seq x y) Q s := by
 intro C m a w n hro hN hr
 refine wpIn_seq (wpIn_mono (h C m a w n hro hN hr) ?_)
 rintro e a' w' ⟨s',m',hq,hr'⟩
 cases e with
 | normal => exact hq C m' a' w' n hro hN hr'
 | _ => exact ⟨s',m',hq,hr'⟩
theorem awp0_block {id : Nat} {c : Code} (h : AWP0 P N c (blkQ id (Q .normal) Q) s) : AWP0 P N (.block id c) Q s := by
 intro C m a w n hro hN hr
 refine wpIn_block (wpIn_mono (h C m a w n hro hN hr) ?_)
 rintro e a' w' ⟨s',m',hq,hr'⟩
 cases e with
 | exit id' =>
  simp only [Exit.inBlock]
  simp only [blkQ] at hq
  split at hq
  ·rename_i hb; rw [if_pos (Nat.eq_of_beq_eq_true hb)]; exact ⟨s',m',hq,hr'⟩
  ·rename_i hb; rw [if_neg (Nat.ne_of_beq_eq_false hb)]; exact ⟨s',m',hq,hr'⟩
 | _ => exact ⟨s',m',hq,hr'⟩
theorem RelM.mark {C : Ctx} {m : Nat -> Option Nat} {a : Act} {w : World} (hr : RelM C s m a w) :
  RelM C s m { a with defers := mrk w.heap.size :: a.defers } { w with heap := w.heap.push (.deferred (some [])) } := by
 have hf := frame_alloc (Own s.hp m) w (.deferred (some []))
 have hal : ∀ k' y b',lk s.hp k' = some y -> m k' = some b' -> Own s.hp m b' \/ w.heap.size <= b' := fun k' y b' h1 h2 => .inl ⟨k',y,h1,h2⟩
 have hr1 : RelM C s m a { w with heap := w.heap.push (.deferred (some [])) } := by
  refine hr.update hf (fun t y k' b' _ _ hb' => hb') hal (fun k' y _ hy => ⟨⟨y,hy⟩,rfl⟩) ⟨?_,hr.heap.inj,?_⟩
  ·intro k y hk
   refine BlkRep.mono (im_mono hf hal) hf.sz (fun _ _ _ h => h) rfl ?_ (hr.heap.blk k y hk)
   intro b hb
   have := (hr.heap.sep k y b hk hb).2
   show (w.heap.push _)[b]? = _
   rw [Array.getElem?_push,if_neg (by omega)]
  ·intro k y b hk hb
   have := hr.heap.sep k y b hk hb
   refine ⟨this.1,?_⟩
   have := this.2
   simp; omega
 refine ⟨hr1.slots,hr1.heap,hr1.frame,hr1.new,hr1.keep,?_,hr1.nt⟩
 obtain ⟨Ds,e,hn,hD⟩ := hr.defers
 have hnew : (w.heap.push (.deferred (some [])))[w.heap.size]? = some (Obj.deferred (some [])):=by simp
 refine ⟨w.heap.size :: Ds,by simp [e],List.nodup_cons.2 ⟨fun hm => ?_,hn⟩,?_⟩
 ·have := hr.heap.lt (hD _ hm).2; omega
 ·intro D hm
  rcases List.mem_cons.1 hm with rfl | hm
  ·exact ⟨hr.frame.size,hnew⟩
  ·obtain ⟨h1, h2⟩ := hD D hm
   refine ⟨h1,?_⟩
   have := hr.heap.lt h2
   show (w.heap.push _)[D]? = _
   rw [Array.getElem?_push,if_neg (by omega)]; exact h2
theorem awp0_range {g : Operand} {ps : Array Tmp} {assign body : Code} {f : FuncId} {caps : List AV} {k : Nat} {H H' : Hp} {r : AV} {st : LoopState} {pe : Option Code} {sl0 sl' : Slots}
  (hg : Ev s g (.fn f caps)) (hsl : ∀ t x,lk sl0 t = some x -> s.get t = some x) (hnk : (slNm sl0).contains k = false) (hfr : s.freshB k = true) (hcon : Con P f (.yl k :: caps) H r H')
  (hH : ∀ k' z,lk H k' = some z -> lk ((k,some (.loop ⟨ps,assign,body,N⟩ .ready none sl0)) :: s.hp) k' = some z) (hok : callOkB s H H' r = true)
  (hkH : alive H k = true) (hnew : (H'.all fun p => alive H p.1) = true) (hend : lk H' k = some (.loop ⟨ps,assign,body,N⟩ st pe sl')) (hst : st ≠ .busy)
  (hpe : pe = none /\ Q .normal ⟨s.sl,(k,none) :: (H' ++ dead H ++ s.hp)⟩ \/ pe = some .ret /\ Q .ret ⟨s.sl,(k,none) :: (H' ++ dead H ++ s.hp)⟩) :
  AWP0 P N (.rangeFunc g ps assign body) Q s := by
 intro C m a w n hro hN hr
 rw [hro]
 simp only [callOkB,Bool.and_eq_true,List.all_eq_true] at hok hnew
 obtain ⟨hok1,hok2⟩ := hok
 have hgr := hg.rep hr
 generalize hev : a.eval g = u at hgr
 cases hgr with
 | @fn _ _ cvs _ hn' hrr =>
  refine wpIn_rangeFunc (F := Fw none) fun fn _ => ?_
  have hfresh := AS.fresh_of hfr
  have hr1 := hr.mark
  have hnm : ¬ (Blk.loop ⟨ps, assign, body, N⟩ .ready none sl0).Names k := by
   rintro ⟨t,x,hx,hn⟩
   have h9 : k ∈ slNm sl0 := List.mem_flatMap.2 ⟨_,hx,hn.mem⟩
   have h8 := List.elem_eq_true_of_mem h9
   rw [List.contains] at hnk
   rw [hnk] at h8; cases h8
  have hr2 := hr1.alloc (k := k) hfresh (.loop { state := .ready, pending := none, fn, tmps := a.tmps, params := ps, assign, body, defers := w.heap.size }) (.loop ⟨ps, assign, body, N⟩ .ready none sl0) hnm
   (fun g' S' m' w' h1 h2 h3 h4 => .loop h4 rfl rfl rfl rfl rfl (by have := hr.nt; rw [hN] at this; exact this) (fun t x hx => by
    obtain ⟨g1,g2⟩ := hr1.slots t x (hsl t x hx)
    exact ⟨g1,g2.mono h1 h2 (fun k' b hk hb => h3 k' b (fun e => hfresh.2.2.1 t x (hsl t x hx) (e ▸ hk)) hb)⟩))
  have hsz1 : (w.heap.push (Obj.deferred (some []))).size = w.heap.size + 1:=by simp
  have hsz : ∀ k',k' = k -> (if k' = k then some (w.heap.push (Obj.deferred (some []))).size else m k') = some (w.heap.size + 1) := fun k' e => by rw [if_pos e,hsz1]
  have hc := hr2.called (run := Calls P f) (fun _ _ _ _ h h' => Calls.mono h h') hcon.ret (vs := #[Value.func (.yield (w.heap.size + 1)) #[] #[]] ++ cvs) (by simp [hn']; omega) (by
    intro j v x hv hx
    cases j with
    | zero =>
     cases hx
     rw [Array.getElem?_append,if_pos (by show 0 < 1; omega)] at hv
     cases hv
     exact .yl (hsz k rfl)
    | succ j =>
     rw [Array.getElem?_append,if_neg (by show ¬ j + 1 < 1; omega)] at hv
     have h9 : cvs[j]? = some v := hv
     have hx' : caps[j]? = some x := hx
     have hev' : ({ a with defers := mrk w.heap.size :: a.defers } : Act).eval g = .func (.func f) #[] cvs:=by cases g <;> exact hev
     have hag2 : AgreeOn s ⟨s.sl,(k,some (.loop ⟨ps,assign,body,N⟩ .ready none sl0)) :: s.hp⟩ ⟨none,[],rtOf g,[]⟩ := ⟨fun _ _ => rfl,fun k hk => by cases hk⟩
     have h8 := (hg.agree hag2 (fun _ h => h)).rep hr2
     rw [hev'] at h8
     cases h8 with
     | fn hn2 hrr2 => exact hrr2 j v x h9 hx')
   hH (by
    intro k' z hz
    have := hnew _ (mem_of_lk hz)
    exact .inl (alive_iff.1 this)) (by
    intro k' hk'
    obtain ⟨p,hp,rfl⟩ := List.mem_map.1 hk'
    exact hok1 p hp) hok2
  let W2 := (w.alloc (.deferred (some []))).alloc (.loop { state := .ready,pending := none,fn,tmps := a.tmps,params := ps,assign,body,defers := w.heap.size })
  refine ⟨w.heap.size + 1, [mrk w.heap.size], W2, { target := .fn (.func f) cvs, args := #[.func (.yield (w.heap.size + 1)) #[] #[]] }, W2, f,
   #[Value.func (.yield (w.heap.size + 1)) #[] #[]] ++ cvs,W2,run_enterLoop_outer fn a.tmps ps assign body,?_,fun _ _ => trivial,?_,(fun h => by cases h),(callsIn_wide (n := n - 1)).2 (Calls.mono hc ?_)⟩
  ·simp only [resolve, hev]
   simp [go_sem]
  ·simp [invoke,go_sem,hcon.ok _ _]
  ·rintro e w' ⟨v, m'', rfl, hr3, _, hkk⟩
   obtain ⟨y,hy⟩ := alive_iff.1 hkH
   have hm : m'' k = some (w.heap.size + 1) := (hkk k y _ hy hend).trans (hsz k rfl)
   have hlk3 : lk (H' ++ dead H ++ (k, some (Blk.loop ⟨ps, assign, body, N⟩ .ready none sl0)) :: s.hp) k = some (.loop ⟨ps, assign, body, N⟩ st pe sl') := by
    rw [List.append_assoc,lk_append,if_pos (mem_keys_of_lk hend)]; exact hend
   obtain ⟨r3,hw3,hst3,hpe3⟩ := hr3.loopAt hlk3 hm
   have hr4 := (hr3.setLoop hlk3 hm hw3 .exhausted pe).fewer (hp' := (k, none) :: (H' ++ dead H ++ s.hp)) (by
    intro k' z hz
    rw [lk_cons] at hz
    split at hz
    ·cases hz
    ·rename_i hne
     rw [lk_cons,if_neg hne]
     rw [List.append_assoc,lk_append] at hz ⊢
     split at hz
     ·rename_i h1; rw [if_pos h1]; exact hz
     ·rename_i h1; rw [if_neg h1]
      rw [lk_append] at hz ⊢
      split at hz
      ·rename_i h2; rw [if_pos h2]; exact hz
      ·rename_i h2; rw [if_neg h2,lk_cons,if_neg hne]; exact hz)
   have hrun := run_endLoop (P := P) hw3 (by rw [hst3]; exact hst)
   rw [hpe3] at hrun
   refine ⟨pe,_,hrun,?_⟩
   rcases hpe with ⟨rfl,hq⟩ | ⟨rfl,hq⟩
   ·exact ⟨_,m'',hq,hr4⟩
   ·exact wpIn_ret ⟨_,m'',hq,hr4⟩
theorem sub_cl {f : FuncId} {caps : List AV} (hnm : (caps.all fun x => x.nm.isEmpty) = true) : Sub (.fn f caps) (.cl f [] caps) := by
 intro g S m v h
 cases h with
 | fn hn hr =>
  exact .cl rfl (fun j u c hu hc => by simp at hc) hn (fun j u c hu hc => (hr j u c hu hc).mono (fun _ _ h => h) (fun _ _ h => h) (fun k b hk => by
   have h1 := List.all_eq_true.1 hnm c (List.mem_of_getElem? hc)
   have h2 := hk.mem
   simp only [List.isEmpty_iff] at h1
   rw [h1] at h2; cases h2))
theorem exec_callB {ρ : Operand -> Value} {o : Oper} {g : Operand} {f : FuncId} {pre caps : Array Value} {args : Array Operand} {ts : Array TypeId} {w : World} {vs : Array Value} (ho : o.op = .call ⟨.value g, args, ts⟩)
  (hρ : ρ g = .func (.func f) pre caps) (hok : CallOk P f) (hvs : pre ++ args.map ρ ++ caps = vs) : (execOp ρ o).run P w = .ok (.enter f vs) w := by
 subst hvs
 have := hok (pre ++ args.map ρ ++ caps) w
 rw [Array.append_assoc] at this
 obtain ⟨dst,op,type,pos,after,guard⟩ := o
 subst ho
 simp [execOp,resolve,hρ,Deferred.ofValue,invoke,this]
theorem s_callW {d : Nat} {g : Operand} {f : FuncId} {pre caps : List AV} {args : Array Operand} {ts : Array TypeId} {xs : List AV} {H H' : Hp} {r : AV} {t : TypeId} {pos : String} {after : Array Edge}
  (hg : Ev s g (.cl f pre caps)) (hcon : Con P f (pre ++ xs ++ caps) H r H') (ha : EvL s args.toList xs) (hH : ∀ k z,lk H k = some z -> s.blk k = some z) (hok : callOkB s H H' r = true) (hN : Nat.blt d N = true) :
  Step P N R s ⟨some d,.call ⟨.value g,args,ts⟩,t,pos,after,none⟩ ⟨some r,H' ++ dead H,rtOf g ++ rtL args.toList,H.map (·.1)⟩ := by
 refine step_call rfl (fun d' h => by cases h; exact ⟨hN,rfl⟩) hcon hH hok fun s' hag C m a w hr => ?_
 have hag' : AgreeOn s s' ⟨none,[],rtOf g ++ rtL args.toList,[]⟩ := ⟨hag,fun k hk => by cases hk⟩
 have ha' := ha.agree hag' (fun _ h => List.mem_append.2 (.inr h))
 have hgr := (hg.agree hag' (fun _ h => List.mem_append.2 (.inl h))).rep hr
 generalize hv : a.eval g = u at hgr
 cases hgr with
 | @cl _ _ pvs cvs _ _ hn hrr hn' hrr' =>
  have hl := ha'.length
  simp only [Array.length_toList] at hl
  refine ⟨pvs ++ args.map a.eval ++ cvs,exec_callB rfl hv hcon.ok rfl,by simp [hn,hn',hl],?_⟩
  intro j v x hv' hx
  rw [Array.getElem?_append] at hv'
  rw [List.getElem?_append] at hx
  simp only [Array.size_append,Array.size_map,List.length_append,hn,hl] at hv' hx
  split at hv'
  ·rename_i h1
   rw [if_pos h1] at hx
   rw [Array.getElem?_append] at hv'
   rw [List.getElem?_append] at hx
   split at hv'
   ·rename_i h2
    rw [if_pos (by omega)] at hx
    exact (hrr j v x hv' hx).mono (fun _ _ h => h) (fun _ _ h => h) (fun k b _ h => by cases h)
   ·rename_i h2
    rw [if_neg (by omega)] at hx
    rw [hn] at hv'
    exact ha'.rep hr _ v x (by simpa using hv') hx
  ·rename_i h1
   rw [if_neg h1] at hx
   exact (hrr' _ v x hv' hx).mono (fun _ _ h => h) (fun _ _ h => h) (fun k b _ h => by cases h)
end Go.Lw
namespace Go.Lw
variable {P : Program} {N : Nat} {Q : Exit -> AS -> Prop}
def gOf (s : AS) (g : Nat) (want : Bool) : Option (Prop × Bool) := match s.get g with
  | some x => match x with
    | .v (.bool b) => some (b = want,b == want)
    | .opt c (.v (.bool b)) => some (c = true /\ b = want,c && b == want)
    | _ => none
  | none => none
inductive Want where
  | ar (op : BinOp) (k : IntKind) (a b : Int)
  | cv (k : IntKind) (n : Int)
  | ln (es : List AV)
  | ix (es : List AV) (i : Int)
  | cl (f : FuncId) (xs : List AV)
def Meets (P : Program) (w : Want) (x : AV) : Prop := match w with
  | .ar op k a b => ∃ n,k.wrap (iarith op a b) = n /\ x = .v (.int k n)
  | .cv k n => ∃ m,k.wrap n = m /\ x = .v (.int k m)
  | .ln es => ∃ n : Nat,es.length = n /\ x = .v (.int .i64 n)
  | .ix es i => 0 <= i /\ ∃ e,es[i.toNat]? = some e /\ x = .iptr e.cells
  | .cl f xs => FnC P f xs x /\ x.nm = []
inductive Fr where
  | seq (c : Code)
  | blk (id : Nat)
  | lp (K : AS -> Prop)
def ends (P : Program) (N : Nat) (Q : Exit -> AS -> Prop) : List Fr -> Exit -> AS -> Prop
  | [],e,s => Q e s
  | .seq c :: k, e, s => match e with
    | .normal => AWP P N c (ends P N Q k) s
    | e => ends P N Q k e s
  | .blk id :: k, e, s => match e with
    | .exit id' => match Nat.beq id' id with
      | true => ends P N Q k .normal s
      | false => ends P N Q k (.exit id') s
    | e => ends P N Q k e s
  | .lp K :: k, e, s => match e with
    | .normal => K s
    | e => ends P N Q k e s
inductive Cf where
  | code (c : Code) (k : List Fr) (s : AS)
  | ops (id i : Nat) (R : List Oper) (draw : Bool) (s0 : AS) (ops : List Oper) (us : List Out) (k : List Fr) (s : AS)
  | ap (o : Oper) (u : Out) (id i : Nat) (R : List Oper) (draw : Bool) (s0 : AS) (ops : List Oper) (us : List Out) (k : List Fr) (s : AS)
  | ex (e : Exit) (k : List Fr) (s : AS)
  | st (w : Want) (rt : List Nat) (o : Oper) (id i : Nat) (R : List Oper) (draw : Bool) (s0 : AS) (ops : List Oper) (us : List Out) (k : List Fr) (s : AS)
  | sg (G : Prop) (b : Bool) (w : Want) (rt : List Nat) (o : Oper) (id i : Nat) (R : List Oper) (draw : Bool) (s0 : AS) (ops : List Oper) (us : List Out) (k : List Fr) (s : AS)
def Gd (P : Program) (N : Nat) (Q : Exit -> AS -> Prop) : Cf -> Prop
  | .code c k s => AWP P N c (ends P N Q k) s
  | .ops _ _ R draw s0 ops us k s => ARun P N R.toArray ops s us (fun s' us' => (draw = true -> chk R us' s0 = true) /\ ends P N Q k .normal s')
  | .ap o u _ _ R draw s0 ops us k s => ARun P N R.toArray ops (s.app o.dst u) (us ++ [u]) (fun s' us' => (draw = true -> chk R us' s0 = true) /\ ends P N Q k .normal s')
  | .ex e k s => ends P N Q k e s
  | .st w rt o _ _ R draw s0 ops us k s => (∀ x,Meets P w x -> Step P N R.toArray s o ⟨some x,[],rt,[]⟩) -> ARun P N R.toArray (o :: ops) s us (fun s' us' => (draw = true -> chk R us' s0 = true) /\ ends P N Q k .normal s')
  | .sg G b w rt o _ _ R draw s0 ops us k s => (∀ x,(G -> Meets P w x) -> Step P N R.toArray s o ⟨some (.opt b x),[],rt,[]⟩) -> ARun P N R.toArray (o :: ops) s us (fun s' us' => (draw = true -> chk R us' s0 = true) /\ ends P N Q k .normal s')
theorem awp_seq' {x y : Code} {k : List Fr} {s : AS} (h : AWP P N x (ends P N Q (.seq y :: k)) s) : AWP P N (.seq x y) (ends P N Q k) s :=
 awp_seq fun K hK => awp_mono h fun e s he => by
  cases e with
  | normal => exact hK s he
  | _ => exact he
theorem awp_block' {id : Nat} {c : Code} {k : List Fr} {s : AS} (h : AWP P N c (ends P N Q (.blk id :: k)) s) : AWP P N (.block id c) (ends P N Q k) s :=
 awp_block (awp_mono h fun e s he => by
  cases e with
  | exit id' =>
   show match Nat.beq id' id with | true => _ | false => _
   simp only [ends] at he
   split at he
   ·exact he
   ·exact he
  | _ => exact he)
theorem arun_mono {R : Array Oper} {K K' : AS -> List Out -> Prop} (hk : ∀ s us, K s us -> K' s us) : ∀ {ops : List Oper} {s : AS} {us : List Out}, ARun P N R ops s us K -> ARun P N R ops s us K'
 | [],s,us,h => hk s us h
 | _ :: _,s,us,⟨u,h1,h2,h3⟩ => ⟨u,h1,h2,arun_mono hk h3⟩
def allNd : List Oper -> Bool
  | [] => true
  | o :: l => match o.op with
    | .defer _ => false
    | _ => allNd l
theorem allNd_ok : ∀ {l : List Oper}, allNd l = true -> l.all nd = true
 | [],_ => rfl
 | o :: l, h => by
  unfold allNd at h
  simp only [List.all_cons,Bool.and_eq_true]
  split at h
  ·cases h
  ·rename_i hd
   refine ⟨?_,allNd_ok h⟩
   unfold nd
   split
   ·rename_i c hc; exact absurd hc (hd c)
   ·rfl
theorem awp_reg {id : Nat} {A : Array Oper} {d : Bool} {k : List Fr} {s : AS} (hnd : A.toList.all nd = true) (hd : d = true -> P.follows .mixedOrders = true)
  (h : ARun P N A.toList.toArray A.toList s [] (fun s' us' => (d = true -> chk A.toList us' s = true) /\ ends P N Q k .normal s')) : AWP P N (.region id A d) (ends P N Q k) s := by
 have e : A = A.toList.toArray:=by simp
 cases d with
 | false =>
  rw [e]
  exact awp_region hnd (by
   exact arun_mono (fun s us h => h.2) h)
 | true =>
  rw [e]
  exact awp_region_draw hnd (hd rfl) (arun_mono (fun s us h => ⟨h.1 rfl,h.2⟩) h)
variable [Inhabited (Tys P)]
def aNew (P : Program) [Inhabited (Tys P)] (s : AS) (d : Nat) : Op -> Option (Out × List Prop)
  | .alloc T => match tyOf P T with
    | some ti => match ti.zero.all Value.oneCell' with
      | true => match frc (ti.zero.map .v) with
        | some l => some (⟨some (.ptr d 0),[(d,some (.box l))],[],[]⟩,[])
        | none => none
      | false => none
    | none => none
  | .box _ x => match rdO false True s x with
    | some (v, ob) => match v.ok with
      | true => match frc v.cells with
        | some l => some (⟨some (.ptr d 0),[(d,some (.box l))],rtOf x,[]⟩,ob)
        | none => none
      | false => none
    | none => none
  | _ => none
def aSto (P : Program) [Inhabited (Tys P)] (s : AS) : Op -> Option (Out × List Prop)
  | .store T x y => match rdO false True s x with
    | some (.ptr k off, ob) => match rdO false True s y with
      | some (v, ob') => match s.blk k with
        | some (.box cs) => match tyOf P T with
          | some ti => match v.ok && Nat.beq v.cells.length ti.size && Nat.ble (off + ti.size) cs.length with
            | true => match frc (over cs off v.cells) with
              | some l => some (⟨none,[(k,some (.box l))],rtOf x ++ rtOf y,[k]⟩,ob ++ ob')
              | none => none
            | false => none
          | none => none
        | _ => none
      | none => none
    | _ => none
  | _ => none
def okNew (s : AS) (r : Out × List Prop) : Option (Out × List Prop) := match newOkB s r.1 with
  | true => some r
  | false => none
def auto (P : Program) [Inhabited (Tys P)] (N : Nat) (R : List Oper) (s : AS) (o : Oper) : Option (Out × List Prop) := match o.guard with
  | none => match o.dst with
    | some d => match Nat.blt d N with
      | true => match auto1 P false True s o.op with
        | some ⟨x,rt,rd,ob⟩ => some (⟨some x,[],rt,rd⟩,ob)
        | none => match aNew P s d o.op with
          | some r => okNew s r
          | none => none
      | false => none
    | none => match aSto P s o.op with
      | some r => okNew s r
      | none => none
  | some (j, want) => match R[j]? with
    | some og => match og.dst with
      | some g => match o.dst with
        | some d => match Nat.blt d N with
          | true => match gOf s g want with
            | some (G, b) => match auto1 P true G s o.op with
              | some ⟨x,rt,rd,ob⟩ => some (⟨some (.opt b x),[],g :: rt,rd⟩,ob)
              | none => none
            | none => none
          | false => none
        | none => none
      | none => none
    | none => none
theorem okNew_ok {s : AS} {r r' : Out × List Prop} (h : okNew s r = some r') : r' = r /\ NewOk s r.1 := by
 unfold okNew at h
 split at h
 ·rename_i hn; cases h; exact ⟨rfl,newOk_of hn⟩
 ·cases h
theorem aNew_ok {s : AS} {R : Array Oper} {d : Nat} {op : Op} {t : TypeId} {pos : String} {after : Array Edge} {r : Out × List Prop} (h : aNew P s d op = some r) (ho : AllP r.2) (hN : Nat.blt d N = true) :
  Step P N R s ⟨some d,op,t,pos,after,none⟩ r.1 := by
 unfold aNew at h
 split at h
 ·split at h
  ·rename_i ti hti
   split at h
   ·rename_i hz
    split at h
    ·rename_i l hl; cases h; cases frc_ok hl; exact s_alloc (tyOf_ok hti) hz hN
    ·cases h
   ·cases h
  ·cases h
 ·split at h
  ·rename_i v ob h1
   split at h
   ·rename_i hv
    split at h
    ·rename_i l hl; cases h; cases frc_ok hl; exact s_box (rdO_ok h1 ho trivial) hv hN
    ·cases h
   ·cases h
  ·cases h
 ·cases h
theorem aSto_ok {s : AS} {R : Array Oper} {op : Op} {t : TypeId} {pos : String} {after : Array Edge} {r : Out × List Prop} (h : aSto P s op = some r) (ho : AllP r.2) :
  Step P N R s ⟨none,op,t,pos,after,none⟩ r.1 := by
 unfold aSto at h
 split at h
 ·split at h
  ·rename_i h1
   split at h
   ·rename_i h2
    split at h
    ·rename_i hk
     split at h
     ·rename_i ti hti
      split at h
      ·rename_i hc
       simp only [Bool.and_eq_true] at hc
       split at h
       ·rename_i l hl; cases h; cases frc_ok hl
        exact s_stPtr (rdO_ok h1 ho.app.1 trivial) hk (rdO_ok h2 ho.app.2 trivial) hc.1.1 (tyOf_ok hti) hc.1.2 hc.2
       ·cases h
      ·cases h
     ·cases h
    ·cases h
   ·cases h
  ·cases h
 ·cases h
theorem auto_ok {R : List Oper} {s : AS} {o : Oper} {u : Out} {ob : List Prop} (h : auto P N R s o = some (u, ob)) (ho : AllP ob) : Step P N R.toArray s o u /\ NewOk s u := by
 obtain ⟨dst,op,ty,pos,after,guard⟩ := o
 unfold auto at h
 simp only at h
 split at h
 ·split at h
  ·rename_i d
   split at h
   ·rename_i hN
    split at h
    ·rename_i h1
     cases h
     exact ⟨auto1_ok h1 ho trivial hN,fun k hk => by simp at hk⟩
    ·split at h
     ·rename_i r h1
      obtain ⟨h2,h3⟩ := okNew_ok h
      subst h2
      exact ⟨aNew_ok h1 ho hN,h3⟩
     ·cases h
   ·cases h
  ·split at h
   ·rename_i r h1
    obtain ⟨h2,h3⟩ := okNew_ok h
    subst h2
    exact ⟨aSto_ok h1 ho,h3⟩
   ·cases h
 ·rename_i j want
  split at h
  ·rename_i og hog
   split at h
   ·rename_i g hg
    split at h
    ·rename_i d
     split at h
     ·rename_i hN
      split at h
      ·rename_i G b hG
       split at h
       ·rename_i h1
        cases h
        have hj : (R.toArray[j]?).bind (·.dst) = some g:=by simp [hog,hg]
        unfold gOf at hG
        split at hG
        ·rename_i x hx
         split at hG
         ·cases hG
          exact ⟨s_guard hj hx hN (fun h => auto1_ok h1 ho h hN),fun k hk => by simp at hk⟩
         ·cases hG
          exact ⟨s_guardO hj hx hN (fun hc h => auto1_ok h1 ho ⟨hc,h⟩ hN),fun k hk => by simp at hk⟩
         ·cases hG
        ·cases hG
       ·cases h
      ·cases h
     ·cases h
    ·cases h
   ·cases h
  ·cases h
def isAr : BinOp -> Bool
  | .add | .sub | .mul => true
  | _ => false
theorem isAr_ok : ∀ {op : BinOp},isAr op = true -> (match op with | .add | .sub | .mul => true | _ => false) = true:=by intro op; cases op <;> intro h <;> first | rfl | cases h
structure R2 where
  w : Want
  rt : List Nat
  ob : List Prop
def want1 (P : Program) [Inhabited (Tys P)] (g : Bool) (G : Prop) (s : AS) : Op -> Option R2
  | .binOp op _ x y _ => match isAr op with
    | true => match rdO g G s x with
      | some (.v (.int k a), ob) => match rdO g G s y with
        | some (.v (.int k' b), ob') => match Nat.beq (ikn k) (ikn k') with
          | true => some ⟨.ar op k a b,rtOf x ++ rtOf y,ob ++ ob'⟩
          | false => none
        | _ => none
      | _ => none
    | false => none
  | .convert S T x => match rdO g G s x with
    | some (.v (.int _ n), ob) => match tyOf P S with
      | some _ => match tyOf P T with
        | some ti => match ti.k with
          | .int k' => some ⟨.cv k' n,rtOf x,ob⟩
          | _ => none
        | none => none
      | none => none
    | _ => none
  | .indexAddr T x ix => match rdO g G s x with
    | some (.lst sz es, ob) => match rdO g G s ix with
      | some (.v (.int _ i), ob') => match tyOf P T with
        | some ti => match ti.k with
          | .slice E => match tyOf P E with
            | some te => match Nat.beq te.size sz with
              | true => some ⟨.ix es i,rtOf x ++ rtOf ix,ob ++ ob'⟩
              | false => none
            | none => none
          | _ => none
        | none => none
      | _ => none
    | _ => none
  | .call ⟨.builtin .len, args, ts⟩ => match args.toList with
    | [x] => match ts.toList with
      | [T] => match rdO g G s x with
        | some (.lst _ es, ob) => match tyOf P T with
          | some ti => match ti.k with
            | .slice _ => some ⟨.ln es,rtOf x,ob⟩
            | _ => none
          | none => none
        | _ => none
      | _ => none
    | _ => none
  | .call ⟨.value (.func f), args, _⟩ => match rdL g G s args.toList with
    | some (xs,ob) => some ⟨.cl f xs,rtL args.toList,ob⟩
    | none => none
  | .call ⟨.value (.tmp t), args, _⟩ => match rdO g G s (.tmp t) with
    | some (.cl f pre caps, ob) => match rdL g G s args.toList with
      | some (xs,ob') => some ⟨.cl f (pre ++ xs ++ caps),rtOf (.tmp t) ++ rtL args.toList,ob ++ ob'⟩
      | none => none
    | _ => none
  | _ => none
theorem want1_ok {g : Bool} {G : Prop} {s : AS} {R : Array Oper} {d : Nat} {t : TypeId} {pos : String} {after : Array Edge} {op : Op} {r : R2} (h : want1 P g G s op = some r) (ho : AllP r.ob) (hG : G) (hN : Nat.blt d N = true)
  {x : AV} (hm : Meets P r.w x) : Step P N R s ⟨some d,op,t,pos,after,none⟩ ⟨some x,[],r.rt,[]⟩ := by
 unfold want1 at h
 split at h
 ·split at h
  ·rename_i hop
   split at h
   ·rename_i h1
    split at h
    ·rename_i h2
     split at h
     ·rename_i hk
      cases h
      cases ikn_inj hk
      obtain ⟨n,e,rfl⟩ := hm
      subst e
      exact s_arith (rdO_ok h1 ho.app.1 hG) (rdO_ok h2 ho.app.2 hG) (isAr_ok hop) hN
     ·cases h
    ·cases h
   ·cases h
  ·cases h
 ·split at h
  ·rename_i h1
   split at h
   ·rename_i tS hS
    split at h
    ·rename_i ti hT
     split at h
     ·rename_i k' hk
      cases h
      obtain ⟨m,e,rfl⟩ := hm
      subst e
      exact s_cvt (rdO_ok h1 ho hG) hN (tyOf_ok hS) (tyOf_ok hT) hk
     ·cases h
    ·cases h
   ·cases h
  ·cases h
 ·split at h
  ·rename_i h1
   split at h
   ·rename_i h2
    split at h
    ·rename_i ti hT
     split at h
     ·rename_i E hk
      split at h
      ·rename_i te hE
       split at h
       ·rename_i hsz
        cases h
        obtain ⟨h0,e,he,rfl⟩ := hm
        exact s_idxLst (rdO_ok h1 ho.app.1 hG) (rdO_ok h2 ho.app.2 hG) (tyOf_ok hT) hk (tyOf_ok hE) (Nat.eq_of_beq_eq_true hsz) h0 he hN
       ·cases h
      ·cases h
     ·cases h
    ·cases h
   ·cases h
  ·cases h
 ·rename_i args ts
  split at h
  ·rename_i y hy
   split at h
   ·rename_i T hT
    have e1 : args = #[y]:=by apply Array.toList_inj.1; simpa using hy
    have e2 : ts = #[T]:=by apply Array.toList_inj.1; simpa using hT
    subst e1; subst e2
    split at h
    ·rename_i h1
     split at h
     ·rename_i ti hti
      split at h
      ·rename_i e hk
       cases h
       obtain ⟨n,e,rfl⟩ := hm
       subst e
       exact s_lenLst (rdO_ok h1 ho hG) (tyOf_ok hti) hk hN
      ·cases h
     ·cases h
    ·cases h
   ·cases h
  ·cases h
 ·split at h
  ·rename_i h1
   cases h
   exact s_call hm.1 (rdL_ok hG h1 ho) hm.2 hN
  ·cases h
 ·split at h
  ·rename_i h1
   split at h
   ·rename_i h2
    cases h
    exact s_callW (rdO_ok h1 ho.app.1 hG) hm.1 (rdL_ok hG h2 ho.app.2) (fun k z h => by cases h) (by simp [callOkB,namesOk,hm.2]) hN
   ·cases h
  ·cases h
 ·cases h
def wantO (P : Program) [Inhabited (Tys P)] (N : Nat) (R : List Oper) (s : AS) (o : Oper) (f : Want -> List Nat -> Cf) (fG : Prop -> Bool -> Want -> List Nat -> Cf) : Option (Cf × List Prop) := match o.dst with
  | some d => match Nat.blt d N with
    | true => match o.guard with
      | none => match want1 P false True s o.op with
        | some ⟨w,rt,ob⟩ => some (f w rt,ob)
        | none => none
      | some (j, want) => match R[j]? with
        | some og => match og.dst with
          | some g => match gOf s g want with
            | some (G, b) => match want1 P true G s o.op with
              | some ⟨w,rt,ob⟩ => some (fG G b w (g :: rt),ob)
              | none => none
            | none => none
          | none => none
        | none => none
    | false => none
  | none => none
theorem wantO_ok {R : List Oper} {s : AS} {o : Oper} {f : Want -> List Nat -> Cf} {fG : Prop -> Bool -> Want -> List Nat -> Cf} {c : Cf} {ob : List Prop} (h : wantO P N R s o f fG = some (c, ob)) (ho : AllP ob) :
  (∃ w rt,c = f w rt /\ ∀ x,Meets P w x -> Step P N R.toArray s o ⟨some x,[],rt,[]⟩) \/ (∃ G b w rt,c = fG G b w rt /\ ∀ x,(G -> Meets P w x) -> Step P N R.toArray s o ⟨some (.opt b x),[],rt,[]⟩) := by
 obtain ⟨dst,op,ty,pos,after,guard⟩ := o
 unfold wantO at h
 simp only at h
 split at h
 ·rename_i d
  split at h
  ·rename_i hN
   split at h
   ·split at h
    ·rename_i h1
     cases h
     exact .inl ⟨_,_,rfl,fun x hm => want1_ok h1 ho trivial hN hm⟩
    ·cases h
   ·rename_i j want
    split at h
    ·rename_i og hog
     split at h
     ·rename_i g hg
      split at h
      ·rename_i G b hG
       split at h
       ·rename_i h1
        cases h
        have hj : (R.toArray[j]?).bind (·.dst) = some g:=by simp [hog,hg]
        refine .inr ⟨_,_,_,_,rfl,fun x hm => ?_⟩
        unfold gOf at hG
        split at hG
        ·rename_i y hy
         split at hG
         ·cases hG
          exact s_guard hj hy hN (fun h => want1_ok h1 ho h hN (hm h))
         ·cases hG
          exact s_guardO hj hy hN (fun hc h => want1_ok h1 ho ⟨hc,h⟩ hN (hm ⟨hc,h⟩))
         ·cases hG
        ·cases hG
       ·cases h
      ·cases h
     ·cases h
    ·cases h
  ·cases h
 ·cases h
def step (P : Program) [Inhabited (Tys P)] (N : Nat) (st : Nat × Nat) : Cf -> Option (Cf × List Prop)
  | .code c k s => match c with
    | .skip => match Nat.beq 77777 st.1 with
      | true => none
      | false => some (.ex .normal k s,[])
    | .ret => match Nat.beq 77777 st.1 with
      | true => none
      | false => some (.ex .ret k s,[])
    | .exit id => match Nat.beq 77777 st.1 with
      | true => none
      | false => some (.ex (.exit id) k s,[])
    | .seq x y => some (.code x (.seq y :: k) s,[])
    | .block id c => some (.code c (.blk id :: k) s,[])
    | .region id A d => match Nat.beq id st.1 && Nat.beq 0 st.2 with
      | true => none
      | false => match allNd A.toList with
        | true => some (.ops id 0 A.toList d s A.toList [] k s,[])
        | false => none
    | _ => none
  | .ops id i R d s0 ops us k s => match ops with
    | [] => match d with
      | false => some (.ex .normal k s,[])
      | true => none
    | o :: ops => match Nat.beq id st.1 && Nat.beq (i + 1) st.2 with
      | true => none
      | false => match auto P N R s o with
        | some (u,ob) => some (.ap o u id i R d s0 ops us k s,ob)
        | none => wantO P N R s o (fun w rt => .st w rt o id i R d s0 ops us k s) (fun G b w rt => .sg G b w rt o id i R d s0 ops us k s)
  | .ap o u id i R d s0 ops us k s => match s with
    | ⟨sl, hp⟩ => match u with
      | ⟨val, upd, rt, rd⟩ => match o.dst with
        | some t => match upd with
          | [] => some (.ops id (i + 1) R d s0 ops (us ++ [⟨val,[],rt,rd⟩]) k ⟨(t,val) :: sl,hp⟩,[])
          | p :: q => some (.ops id (i + 1) R d s0 ops (us ++ [⟨val,p :: q,rt,rd⟩]) k ⟨(t,val) :: sl,p :: (q ++ hp)⟩,[])
        | none => some (.ops id (i + 1) R d s0 ops (us ++ [⟨val,upd,rt,rd⟩]) k ⟨sl,upd ++ hp⟩,[])
  | .ex e k s => match k with
    | [] => none
    | .seq c :: k => match e with
      | .normal => some (.code c k s,[])
      | e => some (.ex e k s,[])
    | .blk id :: k => match e with
      | .exit id' => match Nat.beq id' id with
        | true => some (.ex .normal k s,[])
        | false => some (.ex (.exit id') k s,[])
      | e => some (.ex e k s,[])
    | .lp _ :: k => match e with
      | .normal => none
      | e => some (.ex e k s,[])
  | .st .. => none
  | .sg .. => none
def run (P : Program) [Inhabited (Tys P)] (N : Nat) (st : Nat × Nat) : Nat -> Cf -> List Prop -> Option (Cf × List Prop)
  | 0,c,ob => some (c,ob)
  | n + 1, c, ob => match step P N st c with
    | none => some (c,ob)
    | some (c', o) => match o with
      | [] => run P N st n c' ob
      | p :: o => run P N st n c' (p :: (o ++ ob))
theorem step_ok {st : Nat × Nat} {c c' : Cf} {ob : List Prop} (h : step P N st c = some (c', ob)) (ho : AllP ob) (hg : Gd P N Q c') : Gd P N Q c := by
 unfold step at h
 split at h
 ·split at h
  ·split at h
   ·cases h
   ·cases h; exact awp_skip hg
  ·split at h
   ·cases h
   ·cases h; exact awp_ret hg
  ·split at h
   ·cases h
   ·cases h; exact awp_exit hg
  ·cases h; exact awp_seq' hg
  ·cases h; exact awp_block' hg
  ·split at h
   ·cases h
   ·split at h
    ·rename_i hnd; cases h; exact awp_reg (allNd_ok hnd) (fun _ => (default : Tys P).mix) hg
    ·cases h
  ·cases h
 ·split at h
  ·split at h
   ·cases h
    simpa [Gd,ARun] using hg
   ·cases h
  ·split at h
   ·cases h
   ·split at h
    ·rename_i h1
     cases h
     obtain ⟨h2,h3⟩ := auto_ok h1 ho
     exact ⟨_,h2,h3,hg⟩
    ·rcases wantO_ok h ho with ⟨w, rt, rfl, h2⟩ | ⟨G, b, w, rt, rfl, h2⟩
     ·exact hg h2
     ·exact hg h2
 ·rename_i o u id i R d s0 ops us k s
  obtain ⟨sl,hp⟩ := s
  obtain ⟨val,upd,rt,rd⟩ := u
  obtain ⟨dst,op,ty,pos,after,guard⟩ := o
  cases dst with
  | none => cases h; exact hg
  | some t =>
   cases upd with
   | nil => cases h; exact hg
   | cons p q => cases h; exact hg
 ·rename_i e k s
  cases k with
  | nil => cases h
  | cons f k =>
   cases f with
   | seq c => cases e <;> cases h <;> exact hg
   | blk id =>
    cases e with
    | exit id' =>
     show ends P N Q (.blk id :: k) (.exit id') s
     simp only [ends]
     simp only at h
     split at h
     ·cases h; exact hg
     ·cases h; exact hg
    | _ => cases h; exact hg
   | lp K => cases e <;> cases h <;> exact hg
 ·cases h
 ·cases h
theorem run_ok {st : Nat × Nat} : ∀ {n : Nat} {c c' : Cf} {ob ob' : List Prop}, run P N st n c ob = some (c', ob') -> AllP ob' -> Gd P N Q c' -> Gd P N Q c /\ AllP ob
 | 0,c,c',ob,ob',h,ho,hg => by cases h; exact ⟨hg,ho⟩
 | n + 1, c, c', ob, ob', h, ho, hg => by
  unfold run at h
  split at h
  ·cases h; exact ⟨hg,ho⟩
  ·rename_i c2 o h1
   split at h
   ·obtain ⟨h2, h3⟩ := run_ok h ho hg
    exact ⟨step_ok h1 .nil h2,h3⟩
   ·rename_i p o
    obtain ⟨h2,h3⟩ := run_ok h ho hg
    cases h3 with | cons h4 h5 => exact ⟨step_ok h1 (.cons h4 h5.app.1) h2,h5.app.2⟩
end Go.Lw
