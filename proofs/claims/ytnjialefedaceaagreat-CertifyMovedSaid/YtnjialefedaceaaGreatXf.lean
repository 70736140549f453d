/- CertifyMoved: for anything drawn, any body and shift the law returns true and leaves its arguments as they were. No condition. Part 6 of 6: the statement -/
import Derived.Test.YtnjialefedaceaaGreatXe
set_option linter.unusedVariables false
namespace Go.Lw
/-- A body placed by rational numbers. -/
structure R4 where
  c : Rat
  s : Rat
  x : Rat
  y : Rat
instance : Inhabited R4 := ⟨⟨0, 0, 0, 0⟩⟩
namespace R4
def pq (b : R4) : Pq := ⟨sh 0 (b.c : Rat), sh 0 (b.s : Rat), sh 0 (b.x : Rat), sh 0 (b.y : Rat)⟩
def pl (b : R4) : Pl := ⟨b.pq.c.map rt, b.pq.s.map rt, b.pq.x.map rt, b.pq.y.map rt⟩
structure ok (b : R4) : Prop where
  c : Qb 1000 b.c
  s : Qb 1000 b.s
  x : Qb 1000 b.x
  y : Qb 1000 b.y
end R4
instance : Inhabited Pse := ⟨⟨default, ⟨⟨false, [], []⟩, ⟨false, [], []⟩⟩⟩⟩
def Pse.r4 (p : Pse) : R4 := ⟨cosQ p.turn.half p.turn.t.q, sinQ p.turn.half p.turn.t.q, p.at_.x.q, p.at_.y.q⟩
def asr (bs : List R4) : As := ⟨[], bs.map R4.pl, []⟩
theorem nA_rt (l : List Rat) : nR (l.map rt) = nA l := by
  unfold nR nA; rw [List.map_map]; rfl
theorem r4_av (b : R4) : b.pl.av = b.pq.av := by
  unfold R4.pl Pl.av Pq.av; rw [nA_rt, nA_rt, nA_rt, nA_rt]
theorem asr_av (bs : List R4) : (asr bs).av = asA (bs.map R4.pq) := by
  unfold asr As.av asA
  rw [List.map_map, List.map_map, show Pl.av ∘ R4.pl = Pq.av ∘ R4.pq from funext r4_av]; rfl
theorem nr_q {q : Rat} (h : Qb 1000 q) : NR ((sh 0 (q : Rat)).map rt) 4000 := by
  have h1 := (nm_q (n := 0) (by omega) h).mono (f := 4000) (by omega)
  refine ⟨fun x hx => ?_, ?_, by rw [lq_rt]; exact h1.cb⟩
  · obtain ⟨p, hp, rfl⟩ := List.mem_map.1 hx
    have : p = q := by
      unfold sh at hp
      split at hp
      · cases hp
      · exact List.mem_singleton.1 hp
    rw [this]; exact (h.qs (by omega)).ok
  · rw [List.length_map]
    unfold sh; split <;> simp
theorem numE_q (q : Rat) : numE 0 ((sh 0 (q : Rat)).map rt) = 0 := numE_rt (sh_nl 0 q)
theorem R4.ok.nr {b : R4} (h : b.ok) : ∀ x ∈ b.pl.l, NR x 4000 := by
  intro x hx
  simp only [Pl.l, R4.pl, List.mem_cons, List.not_mem_nil, or_false] at hx
  rcases hx with rfl | rfl | rfl | rfl
  · exact nr_q h.c
  · exact nr_q h.s
  · exact nr_q h.x
  · exact nr_q h.y
theorem r4_chk (b : R4) : chksE [] b.pl.l = 0 := by
  refine chks_of (by decide) (fun x hx => ?_)
  simp only [Pl.l, R4.pl, List.mem_cons, List.not_mem_nil, or_false] at hx
  rcases hx with rfl | rfl | rfl | rfl <;> exact numE_q _
theorem tr_nil0 {r : Nat} (hr : r ≤ 1000000) : TR [] r := ⟨fun d hd => (by cases hd), fun d hd => (by cases hd), (by decide), ⟨1, 1, (by omega), fun d hd => (by cases hd), Nat.one_le_two_pow, Nat.one_le_two_pow⟩, hr⟩
theorem tr_nil : TR [] 40000 := tr_nil0 (by omega)
theorem asr_al {bs : List R4} (h : ∀ b ∈ bs, b.ok) (hl : bs.length ≤ 20) : AL (asr bs) :=
  ⟨tr_nil, fun b hb => by obtain ⟨r, hr, rfl⟩ := List.mem_map.1 hb; exact (h r hr).nr, Nat.zero_le _, by show (bs.map _).length ≤ 20; rw [List.length_map]; exact hl⟩
theorem asr_good {l : Li} (hl : l.ok) (hli : liE l = 0) {bs : List R4} (h : ∀ b ∈ bs, b.ok) (hlen : bs.length = l.bodies.length) : Good l (asr bs) :=
  ⟨hl, hli, asr_al h (by have := (li_parts hli).2.2.2.1; omega), (by decide : chkE [] = 0), fun b hb => by obtain ⟨r, hr, rfl⟩ := List.mem_map.1 hb; exact r4_chk r, by show (bs.map _).length = _; rw [List.length_map, hlen]⟩
/-! ### Values -/
theorem dl_q (q : Rat) : decL [] ((sh 0 (q : Rat)).map rt) = q := by
  show dec 0 (lq _) = q
  rw [lq_rt]; exact dec_sh 0 q
theorem eq_q (x y : Rat) : eqT [] x y = decide (x = y) := by
  refine decide_eq_decide.2 ?_
  show sgnQ ((x : Rat) + -y) = 0 ↔ x = y
  constructor
  · intro h
    have := sgnQ_zero h
    grind
  · intro h
    subst h
    have : x + -x = 0 := by grind
    rw [this]; rfl
theorem d1 : dec 0 ([1] : List Rat) = (1 : Rat) := rfl
theorem d0 : dec 0 ([] : List Rat) = (0 : Rat) := rfl
def frB (b : R4) : Bool := decide (b.c = 1) && decide (b.s = 0) && decide (b.x = 0) && decide (b.y = 0)
theorem same_r4 (b : R4) : sameP [] b.pl frameQ = frB b := by
  show (eqT [] (dec 0 (lq _)) (dec 0 [1]) && eqT [] (dec 0 (lq _)) (dec 0 []) && eqT [] (dec 0 (lq _)) (dec 0 []) && eqT [] (dec 0 (lq _)) (dec 0 [])) = _
  unfold frB
  rw [show dec 0 (lq (b.pl).c) = b.c from dl_q b.c, show dec 0 (lq (b.pl).s) = b.s from dl_q b.s, show dec 0 (lq (b.pl).x) = b.x from dl_q b.x, show dec 0 (lq (b.pl).y) = b.y from dl_q b.y, d1, d0,
    eq_q, eq_q, eq_q, eq_q]
theorem unit_r4 (b : R4) : unitB [] b.pl = decide (b.c * b.c + b.s * b.s = 1) := by
  unfold unitB
  have e : dotT [] (decL [] b.pl.c) (decL [] b.pl.s) (decL [] b.pl.c) (decL [] b.pl.s) = b.c * b.c + b.s * b.s := by
    rw [show decL [] b.pl.c = b.c from dl_q b.c, show decL [] b.pl.s = b.s from dl_q b.s]; rfl
  rw [e]
  exact eq_q _ _
theorem body_r4 (i : Nat) (b : R4) : bodyB [] i b.pl = (decide (b.c * b.c + b.s * b.s = 1) && (decide (0 < i) || frB b)) := by
  unfold bodyB
  rw [decide_eq_true (r4_chk b), Bool.true_and]
  show (unitB [] b.pl && (decide (0 < i) || sameP [] b.pl frameQ)) = _
  rw [unit_r4, same_r4]
theorem sq_one (t : Rat) : 1 + t * t ≠ 0 := by
  intro h
  have h1 : 0 ≤ t * t := by
    rcases Rat.le_total (a := 0) (b := t) with h | h
    · exact Rat.mul_nonneg h h
    · have h2 : 0 ≤ -t := by grind
      have := Rat.mul_nonneg h2 h2
      grind
  grind
theorem unit_turn (half : Bool) (t : Rat) : cosQ half t * cosQ half t + sinQ half t * sinQ half t = 1 := by
  unfold cosQ sinQ
  cases half
  · have h := sq_one t
    simp only [Bool.false_eq_true, if_false, Rat.div_def]
    have h2 : (1 + t * t) * (1 + t * t)⁻¹ = 1 := Rat.mul_inv_cancel _ h
    generalize (1 + t * t)⁻¹ = z at h2 ⊢
    grind
  · simp only [if_true]; grind
def pX (b : R4) (m : Mk) : Rat := b.c * m.x.q + -(b.s * m.y.q) + b.x
def pY (b : R4) (m : Mk) : Rat := b.s * m.x.q + b.c * m.y.q + b.y
theorem atP_r4 (b : R4) (m : Mk) : atP [] b.pl m = (pX b m, pY b m) := by
  unfold atP atX atY
  rw [show decL [] b.pl.c = b.c from dl_q b.c, show decL [] b.pl.s = b.s from dl_q b.s, show decL [] b.pl.x = b.x from dl_q b.x, show decL [] b.pl.y = b.y from dl_q b.y]
  rfl
theorem ptAt_r4 (l : Li) (bs : List R4) {n : Nat} {b : R4} (hb : bs[n]? = some b) (pt : Int) : ptAt l (asr bs) n pt = (pX b ((ptsAt l n).getD pt.toNat default), pY b ((ptsAt l n).getD pt.toNat default)) := by
  unfold ptAt
  have e : (asr bs).bs.getD (n : Int).toNat default = b.pl := getD_of (by show (bs.map R4.pl)[n]? = _; rw [List.getElem?_map, hb]; rfl)
  rw [e]
  exact atP_r4 b _
/-! ### Accepted -/
/-- What is drawn fits. -/
def fitB (l : Li) (ps : List Pse) : Bool :=
  decide (liE l = 0 ∧ ps.length = l.bodies.length) && (ps.all Pse.ok && (decide (splitE l = 0) && (frB ((ps.getD 0 default).r4) && l.joints.all (fun j => jointB l (asr (ps.map Pse.r4)) j))))
def trn (l : Li) (ps : List Pse) : List Tn := l.drivers.map (fun d => (ps.getD d.body.toNat default).turn)
theorem fit_parts {l : Li} {ps : List Pse} (h : fitB l ps = true) : liE l = 0 ∧ ps.length = l.bodies.length ∧ (∀ p ∈ ps, p.ok = true) ∧ frB ((ps.getD 0 default).r4) = true ∧ ∀ j ∈ l.joints, jointB l (asr (ps.map Pse.r4)) j = true := by
  unfold fitB at h
  simp only [Bool.and_eq_true, decide_eq_true_eq, List.all_eq_true] at h
  exact ⟨h.1.1, h.1.2, h.2.1, h.2.2.2.1, h.2.2.2.2⟩
theorem unit_pose (p : Pse) : p.r4.c * p.r4.c + p.r4.s * p.r4.s = 1 := unit_turn _ _
/-- All bodies but the frame are fine wherever they are. -/
theorem bodies_ok {bs : List R4} (hu : ∀ b ∈ bs, b.c * b.c + b.s * b.s = 1) {n : Nat} (hn : n < bs.length) : bodyB [] n ((asr bs).bs.getD n default) = (decide (0 < n) || frB (bs.getD n default)) := by
  obtain ⟨b, hb⟩ := getx hn
  have e : (asr bs).bs.getD n default = b.pl := getD_of (by show (bs.map R4.pl)[n]? = _; rw [List.getElem?_map, hb]; rfl)
  rw [e, getD_of hb, body_r4, decide_eq_true (hu b (List.mem_of_getElem? hb)), Bool.true_and]
theorem bodies_none {bs : List R4} (hu : ∀ b ∈ bs, b.c * b.c + b.s * b.s = 1) (hf : frB (bs.getD 0 default) = true) : firstB (asr bs).bs.length (fun i => bodyB (asr bs).rs i ((asr bs).bs.getD i default)) = none := by
  refine firstB_all (fun j hj => ?_)
  have hj' : j < bs.length := by simpa [asr] using hj
  show bodyB [] j _ = true
  rw [bodies_ok hu hj']
  cases j with
  | zero => rw [hf]; rfl
  | succ j => rw [decide_eq_true (Nat.succ_pos j)]; rfl
theorem asr_c1 {l : Li} {bs : List R4} (hlen : bs.length = l.bodies.length) : ¬ (chkE (asr bs).rs ≠ 0 ∨ (asr bs).bs.length ≠ l.bodies.length) := by
  rintro (h | h)
  · exact h (by decide : chkE [] = 0)
  · exact h (by show (bs.map _).length = _; rw [List.length_map, hlen])
theorem flt_fit {l : Li} {ps : List Pse} (h : fitB l ps = true) : flt l (trn l ps) (asr (ps.map Pse.r4)) = (0, 0) := by
  obtain ⟨h1, h2, h3, h4, h5⟩ := fit_parts h
  have hu : ∀ b ∈ ps.map Pse.r4, b.c * b.c + b.s * b.s = 1 := fun b hb => by obtain ⟨p, _, rfl⟩ := List.mem_map.1 hb; exact unit_pose p
  have hlen : (ps.map Pse.r4).length = l.bodies.length := by rw [List.length_map, h2]
  have hb0 := (li_parts h1).2.2.2.2
  obtain ⟨p0, hp0⟩ := getx (l := ps) (i := 0) (by omega)
  refine flt_0 (asr_c1 hlen) (bodies_none hu ?_) (firstB_all (fun j hj => ?_)) (firstB_all (fun i hi => ?_))
  · rw [getD_of hp0] at h4
    rw [getD_of (show (ps.map Pse.r4)[0]? = some p0.r4 by rw [List.getElem?_map, hp0]; rfl)]
    exact h4
  · obtain ⟨x, hx⟩ := getx hj
    rw [getD_of hx]
    exact h5 x (List.mem_of_getElem? hx)
  · obtain ⟨d, hd⟩ := getx hi
    have h6 := inB_t (dr_in h1 hd)
    obtain ⟨p, hp⟩ := getx (l := ps) (i := d.body.toNat) (by omega)
    unfold driverB
    rw [getD_of hd, getD_of (show (asr (ps.map Pse.r4)).bs[d.body.toNat]? = some p.r4.pl by show ((ps.map Pse.r4).map R4.pl)[_]? = _; rw [List.getElem?_map, List.getElem?_map, hp]; rfl),
      getD_of (show (trn l ps)[i]? = some p.turn by unfold trn; rw [List.getElem?_map, hd, ← getD_of hp]; rfl)]
    show turnB [] p.r4.pl p.turn = true
    unfold turnB
    rw [show decL [] p.r4.pl.c = p.r4.c from dl_q _, show decL [] p.r4.pl.s = p.r4.s from dl_q _,
      show dec ([] : List (List Rat)).length (sh 0 (cosQ p.turn.half p.turn.t.q : Rat)) = p.r4.c from dec_sh 0 _,
      show dec ([] : List (List Rat)).length (sh 0 (sinQ p.turn.half p.turn.t.q : Rat)) = p.r4.s from dec_sh 0 _, eq_q, eq_q]
    simp
/-! ### Displaced -/
def mv (b : R4) (q : Rat) : R4 := { b with x := b.x + q }
def moved (bs : List R4) (k : Nat) (q : Rat) : List R4 := bs.set k (mv (bs.getD k default) q)
theorem moved_unit {bs : List R4} (hu : ∀ b ∈ bs, b.c * b.c + b.s * b.s = 1) {k : Nat} (hk : k < bs.length) (q : Rat) : ∀ b ∈ moved bs k q, b.c * b.c + b.s * b.s = 1 := by
  intro b hb
  obtain ⟨b0, hb0⟩ := getx hk
  rcases List.mem_or_eq_of_mem_set hb with h | rfl
  · exact hu b h
  · rw [getD_of hb0]
    exact hu b0 (List.mem_of_getElem? hb0)
theorem moved_ok {bs : List R4} {k : Nat} {b : R4} {q : Rat} (h : ∀ b ∈ bs, b.ok) (hb : bs[k]? = some b) (hm : (mv b q).ok) : ∀ b ∈ moved bs k q, b.ok := by
  intro c hc
  rcases List.mem_or_eq_of_mem_set hc with h9 | h9
  · exact h c h9
  · rw [h9, getD_of hb]; exact hm
theorem moved_len (bs : List R4) (k : Nat) (q : Rat) : (moved bs k q).length = bs.length := List.length_set
theorem moved_get {bs : List R4} {k n : Nat} {b : R4} (hn : bs[n]? = some b) (q : Rat) : (moved bs k q)[n]? = some (if n = k then mv b q else b) := by
  unfold moved
  rw [List.getElem?_set]
  by_cases h : k = n
  · subst h
    have hlt := (List.getElem?_eq_some_iff.1 hn).1
    rw [if_pos rfl, if_pos hlt, if_pos rfl, getD_of hn]
  · rw [if_neg h, if_neg (fun e => h e.symm), hn]
/-- The frame displaced. -/
theorem flt_frame {l : Li} {xs : List Tn} {bs : List R4} (hu : ∀ b ∈ bs, b.c * b.c + b.s * b.s = 1) (hlen : bs.length = l.bodies.length) (h0 : 0 < bs.length) (hf : frB (bs.getD 0 default) = true) {q : Rat} (hq : q ≠ 0) :
    flt l xs (asr (moved bs 0 q)) = (2, 0) := by
  obtain ⟨b, hb⟩ := getx h0
  have hm := moved_get (k := 0) hb q
  rw [if_pos rfl] at hm
  refine flt_2 (asr_c1 (by rw [moved_len, hlen])) (firstB_at (by simpa [asr, moved_len] using h0) (fun j hj => by omega) ?_)
  show bodyB [] 0 _ = false
  rw [bodies_ok (moved_unit hu h0 q) (by rw [moved_len]; exact h0), getD_of hm]
  rw [getD_of hb] at hf
  unfold frB at hf ⊢
  simp only [Bool.and_eq_true, decide_eq_true_eq] at hf
  have : ¬ (b.x + q = 0) := by rw [hf.1.2]; intro h; apply hq; grind
  simp [mv, this]
/-- A pin of the displaced body does not hold any more. -/
theorem pin_off {l : Li} (hli : liE l = 0) {bs : List R4} (hlen : bs.length = l.bodies.length) {k i : Nat} {j : Jt} (hj : l.joints[i]? = some j) (hk0 : j.kind = 0) (hk : j.a = (k : Int) ∨ j.b = (k : Int)) {q : Rat} (hq : q ≠ 0)
    (hold : jointB l (asr bs) j = true) : jointB l (asr (moved bs k q)) j = false := by
  obtain ⟨i1, i2, _⟩ := jt_in hli hj
  have hne : j.a ≠ j.b := by
    have h1 := jt_at hli hj
    unfold jt0 at h1
    intro h
    split at h1
    · cases h1
    · split at h1
      · cases h1
      · cases h1
  have g1 := inB_t i1
  have g2 := inB_t i2
  obtain ⟨n, hn⟩ : ∃ n : Nat, j.a = (n : Int) := ⟨j.a.toNat, by omega⟩
  obtain ⟨m, hm⟩ : ∃ m : Nat, j.b = (m : Int) := ⟨j.b.toNat, by omega⟩
  obtain ⟨b, hb⟩ := getx (l := bs) (i := n) (by omega)
  obtain ⟨b', hb'⟩ := getx (l := bs) (i := m) (by omega)
  unfold jointB at hold ⊢
  rw [if_pos hk0] at hold ⊢
  rw [hn, hm] at hold ⊢
  rw [ptAt_r4 l bs hb, ptAt_r4 l bs hb'] at hold
  rw [ptAt_r4 l _ (moved_get hb q), ptAt_r4 l _ (moved_get hb' q)]
  have h1 : eqT [] (pX b ((ptsAt l n).getD j.point.toNat default)) (pX b' ((ptsAt l m).getD j.on.toNat default)) = true := by
    have := hold; rw [Bool.and_eq_true] at this; exact this.1
  rw [eq_q, decide_eq_true_eq] at h1
  refine Bool.and_eq_false_iff.2 (.inl ?_)
  show eqT [] _ _ = false
  rw [eq_q, decide_eq_false_iff_not]
  have hmv : ∀ (b : R4) (mk : Mk), pX (mv b q) mk = pX b mk + q := fun b mk => by unfold pX mv; grind
  rcases hk with h | h
  · have e1 : n = k := by omega
    have e2 : ¬ m = k := by omega
    rw [if_pos e1, if_neg e2]
    rw [hmv, h1]
    intro h9; apply hq; grind
  · have e1 : ¬ n = k := by omega
    have e2 : m = k := by omega
    rw [if_neg e1, if_pos e2]
    rw [hmv, ← h1]
    intro h9; apply hq; grind
/-- Another body displaced: the first fault is one of its joints. -/
theorem flt_pin {l : Li} (hli : liE l = 0) {xs : List Tn} {bs : List R4} (hu : ∀ b ∈ bs, b.c * b.c + b.s * b.s = 1) (hlen : bs.length = l.bodies.length) (hf : frB (bs.getD 0 default) = true) {k i : Nat} (hk : k < bs.length) (hk0 : k ≠ 0)
    {j : Jt} (hj : l.joints[i]? = some j) (hp : j.kind = 0) (hjk : j.a = (k : Int) ∨ j.b = (k : Int)) {q : Rat} (hq : q ≠ 0) (hold : jointB l (asr bs) j = true) :
    ∃ m, m ≤ i ∧ flt l xs (asr (moved bs k q)) = (3, m) := by
  have hoff := pin_off hli hlen hj hp hjk hq hold
  have hi := (List.getElem?_eq_some_iff.1 hj).1
  have hfm : frB ((moved bs k q).getD 0 default) = true := by
    obtain ⟨b, hb⟩ := getx (l := bs) (i := 0) (by omega)
    rw [getD_of hb] at hf
    rw [getD_of (moved_get hb q), if_neg (fun e => hk0 e.symm)]; exact hf
  cases hx : firstB l.joints.length (fun i => jointB l (asr (moved bs k q)) (l.joints.getD i default)) with
  | none =>
    have := firstB_none hx i hi
    rw [getD_of hj, hoff] at this; cases this
  | some m =>
    refine ⟨m, ?_, flt_3 (asr_c1 (by rw [moved_len, hlen])) (bodies_none (moved_unit hu hk q) hfm) hx⟩
    unfold firstB at hx
    rw [List.find?_range_eq_some] at hx
    rcases Nat.lt_or_ge i m with h | h
    · have := hx.2.2 i h
      dsimp only at this
      rw [getD_of hj, hoff] at this; simp at this
    · exact h
end Go.Lw
namespace Go.Lw
open Go.Proofs
theorem c_certify_OfO (ps : List Pse) (hps : ∀ p ∈ ps, p.lok) (hpl : ps.length ≤ 20) (h2 : ∀ p ∈ ps, p.ok = true) :
  Con Tryz.prog 14 [.lst 10 (ps.map Pse.av)] [] (.tup [.agg [.lst 1 [], .ms 900 4 0 ps.length, .lst 1 []], errA 0]) [(900, some (.row 4 ((ps.map posed).map Pq.av)))] := by
 have h0 : ofE ps = 0 := ofE_at (List.all_eq_true.2 h2)
 refine gF Tryz.func14 (fun k z h => by cases h) ?_
 refine gc (show FnC _ _ _ (errA 0) by have h := c_certify_check ps (fun p hp => (hps p hp).ok) (by omega); rw [h0] at h; exact h) ?_
 refine gC (fun ht13 => ?_) (fun ht13 => ?_) (st1 := (3, 0))
 ·cases ht13
 ·refine gl ?_
  refine gW (Wk.virt 900 4 rfl) ?_
  refine gL1 [2, 5, 16, 17] [2] (fun (i : Nat) => [(18, some (i64 i))]) (fun i => [(5, some (.box [.v (.slice none 0 0), .ms 900 4 0 i, .v (.slice none 0 0)])), (900, some (.row 4 (((ps.take i).map posed).map Pq.av)))]) (fun i => i ≤ ps.length) (fun i => ps.length - i) 0 (Nat.zero_le _) ?_ (h2 := (.cons rfl (BlkSub.boxL (.cons (.refl _) (.cons (.nilMs _ _ _) (.cons (.refl _) .nil))) rfl) (.cons rfl (.refl _) .nil)))
  rintro i hi K1 hK1
  refine gC (fun ht19 => ?_) (fun ht19 => ?_)
  ·have hin := lss_t ht19
   obtain ⟨p, hp⟩ := getx hin
   have hpm := List.mem_of_getElem? hp
   refine gi (getmap hp) ?_
   refine gc (c_certify_placed p (hps p hpm) (h2 p hpm)) ?_
   refine gC (fun ht28 => ?_) (fun ht28 => ?_) (st1 := (10, 0))
   ·cases ht28
   ·refine gs (s_append (.tmp rfl) rfl (by rw [List.length_map, List.length_map, List.length_take]; omega) (.tmp rfl) T31 rfl T62 rfl rfl (by dsimp only; simp only [List.length_cons, List.length_nil]; omega) rfl rfl) ?_ (12, 0)
    refine gW (Wk.of (sl := [(2, some (.ptr 2 0)), (5, some (.ptr 5 0)), (16, some (.lst 10 (ps.map Pse.av))), (17, some (i64 ps.length)), (18, some (i64 i))]) (hp := [(2, some (.box [.v (.slice none 0 0), .v (.slice none 0 0), .v (.slice none 0 0)])), (5, some (.box [.v (.slice none 0 0), .ms 35 4 0 (i + 1), .v (.slice none 0 0)])), (35, some (.row 4 (((ps.take (i + 1)).map posed).map Pq.av)))]) (by repeat (first | exact SlW.nil | refine SlW.k ?_)) (.cons rfl (.refl _) (.cons rfl (.refl _) (.cons rfl (BlkSub.of (by rw [take_succ_get hp, List.map_append, List.map_append]; rfl)) .nil)))) ?_ (12, 0)
    refine gW (Wk.rekey (k := 35) (d := 900) rfl rfl) ?_
    refine ga (i64_add1 (by unfold maxL; omega)) ?_
    exact gK1 hK1 (i + 1) hin
  ·have hin := lss_end hi ht19
   subst hin
   rw [List.take_length] at *
   refine gR ?_
   exact Fin.sub (Fin.keep (keep1 rfl)) (Sub.tup (.cons (.agg (.cons (.nil _ _ _) (.cons (.refl _) (.cons (.nil _ _ _) .nil))) rfl) (.cons (.refl _) .nil)))
theorem c_l26_Rational (ps : List Pse) (hps : ∀ p ∈ ps, p.lok) (hpl : ps.length ≤ 20) (h2 : ∀ p ∈ ps, p.ok = true) : FnC Tryz.prog 49 [.lst 10 (ps.map Pse.av)] (asA (ps.map posed)) := by
 refine gF0 Tryz.func49 ?_
 refine gl ?_
 refine gW (Wk.virt 900 4 rfl) ?_
 refine gL1 [2, 3, 6, 7] [2] (fun (i : Nat) => [(8, some (i64 i))]) (fun i => [(3, some (.box [.v (.slice none 0 0), .ms 900 4 0 i, .v (.slice none 0 0)])), (900, some (.row 4 (((ps.take i).map posed).map Pq.av)))]) (fun i => i ≤ ps.length) (fun i => ps.length - i) 0 (Nat.zero_le _) ?_ (h2 := (.cons rfl (BlkSub.boxL (.cons (.refl _) (.cons (.nilMs _ _ _) (.cons (.refl _) .nil))) rfl) (.cons rfl (.refl _) .nil)))
 rintro i hi K1 hK1
 refine gC (fun ht9 => ?_) (fun ht9 => ?_) (st2 := (7, 0))
 ·have hin := lss_t ht9
  obtain ⟨p, hp⟩ := getx hin
  have hpm := List.mem_of_getElem? hp
  have hpo := hps p hpm
  have h1 := h2 p hpm
  have hc := c_r12_Cos p.turn.half hpo.t (by omega)
  rw [← Rt.eq_rt hpo.ok.t (Tn.ok_valid (pok_parts h1).1)] at hc
  have hs := c_r12_Sin p.turn.half hpo.t (by omega)
  rw [← Rt.eq_rt hpo.ok.t (Tn.ok_valid (pok_parts h1).1)] at hs
  refine gi (getmap hp) ?_
  refine gc hc ?_
  refine gc (r4_Of ((qb_cos hpo.t).qs (by omega))) ?_
  refine gc hs ?_
  refine gc (r4_Of ((qb_sin hpo.t).qs (by omega))) ?_
  refine gc (c_r04_Of p.at_.x hpo.ok.x (hpo.x.qs (by omega))) ?_
  refine gc (c_r04_Of p.at_.y hpo.ok.y (hpo.y.qs (by omega))) ?_
  refine gs (s_append (.tmp rfl) rfl (by rw [List.length_map, List.length_map, List.length_take]; omega) (.tmp rfl) T31 rfl T62 rfl rfl (by dsimp only; simp only [List.length_cons, List.length_nil]; omega) rfl rfl) ?_
  refine gD ?_ (6, 0)
  refine gW (Wk.of (sl := [(2, some (.ptr 2 0)), (3, some (.ptr 3 0)), (6, some (.lst 10 (ps.map Pse.av))), (7, some (i64 ps.length)), (8, some (i64 i))]) (hp := [(2, some (.box [.v (.slice none 0 0), .v (.slice none 0 0), .v (.slice none 0 0)])), (3, some (.box [.v (.slice none 0 0), .ms 32 4 0 (i + 1), .v (.slice none 0 0)])), (32, some (.row 4 (((ps.take (i + 1)).map posed).map Pq.av)))]) (by repeat (first | exact SlW.nil | refine SlW.k ?_)) (.cons rfl (.refl _) (.cons rfl (.refl _) (.cons rfl (BlkSub.of (by rw [take_succ_get hp, List.map_append, List.map_append]; rfl)) .nil)))) ?_ (6, 0)
  refine gW (Wk.rekey (k := 32) (d := 900) rfl rfl) ?_
  refine ga (i64_add1 (by unfold maxL; omega)) ?_
  exact gK1 hK1 (i + 1) hin
 ·have hin := lss_end hi ht9
  subst hin
  refine gW ((Wk.freeze (k := 900) rfl).trans <| Wk.of (sl := [(2, some (.ptr 2 0)), (3, some (.ptr 3 0))]) (hp := [(2, some (.box [.v (.slice none 0 0), .v (.slice none 0 0), .v (.slice none 0 0)])), (3, some (.box [.v (.slice none 0 0), .lst 4 ((ps.map posed).map Pq.av), .v (.slice none 0 0)]))]) (by repeat (first | exact SlW.nil | refine SlW.k ?_)) (.cons rfl (.refl _) (.cons rfl (BlkSub.boxL (.cons (.refl _) (.cons (Sub.of (by rw [fz_all (by rw [List.length_map, List.length_map, List.length_take]; omega), List.take_length])) (.cons (.refl _) .nil))) rfl) .nil))) ?_
  refine gR ?_
  exact fin_sub1 sub_as
theorem c_l26_At {l : Li} {a : As} (hg : Good l a) {body pt : Int} (h1 : inB body l.bodies.length = true) (h2 : inB pt (ptsAt l body).length = true) :
  FnC Tryz.prog 105 [l.av, a.av, i64 body, i64 pt] (ptA (sh (llq a.rs).length (ptAt l a body pt).1) (sh (llq a.rs).length (ptAt l a body pt).2)) := by
 obtain ⟨n, k, bd, m, b, hp⟩ := hg.at h1 h2
 obtain ⟨tw, hta, h5, hll⟩ := hg.tw
 have kb := kb4
 obtain ⟨hba, hbo⟩ := hg.pl hp.gb
 have hlb := hg.lo.lb
 have hn := hp.hn
 have hk := hp.hk
 rw [hp.eq]
 subst hn
 subst hk
 have hat : FnC Tryz.prog 148 [towR a.rs, b.av, m.x.av, m.y.av] (ptA (sh (llq a.rs).length (atP (llq a.rs) b m).1) (sh (llq a.rs).length (atP (llq a.rs) b m).2)) := by
  rw [hta, hba, hp.mx, hp.my]
  exact c_r11_At tw hbo.c hbo.s hbo.x hbo.y hp.qx hp.qy (by omega)
 refine gF0 Tryz.func105 ?_
 refine gi (getmap hp.gbd) ?_
 refine gi (getmap hp.gm) ?_
 refine gi (getmap hp.gb) ?_
 refine gc hat ?_
 refine gD ?_
 refine gE1 ?_
 first | rfl | (simp; done)
theorem c_l26_Holds {l : Li} {a : As} (hg : Good l a) {i : Nat} {j : Jt} (hj : l.joints[i]? = some j) : FnC Tryz.prog 50 [l.av, a.av, j.av] (bl (jointB l a j)) := by
 obtain ⟨tw, hta, h5, hll⟩ := hg.tw
 have kb := kb4
 obtain ⟨i1, i2, i3, i4, i5⟩ := jt_in hg.li hj
 have np := at_nms hg i1 i3
 have nq := at_nms hg i2 i4
 have hsame := c_r11_EqualPoint tw np.1 np.2 nq.1 nq.2 (by omega)
 simp only [dec_sh] at hsame
 rw [← hta] at hsame
 refine gF0 Tryz.func50 ?_
 refine gc (c_l26_At hg i1 i3) ?_
 refine gc (c_l26_At hg i2 i4) ?_
 refine gC (fun ht25 => ?_) (fun ht25 => ?_)
 ·have hk : j.kind = 0 := eql_t ht25
  refine gc hsame ?_
  refine gE1 ?_
  unfold jointB; rw [if_pos hk]
 ·have hk : j.kind ≠ 0 := eql_f ht25
  have nr := at_nms hg i2 (i5 hk)
  have hor := c_r11_Orient tw nq.1 nq.2 nr.1 nr.2 np.1 np.2 (by omega)
  simp only [dec_sh] at hor
  rw [← hta] at hor
  refine gc (c_l26_At hg i2 (i5 hk)) ?_
  refine gc hor ?_
  refine gD ?_
  refine gE1 ?_
  unfold jointB; rw [if_neg hk]; exact congrArg bl int_eqb
theorem c_l27_Turns {l : Li} (hl : l.ok) (hli : liE l = 0) (ps : List Pse) (hlen : ps.length = l.bodies.length) (hpl : ps.length ≤ 20) (hdl : l.drivers.length ≤ 30) : FnC Tryz.prog 22 [drawnA l ps] (.lst 4 ((trn l ps).map Tn.av)) := by
 refine gF0 Tryz.func22 ?_
 refine gl ?_
 refine gW (Wk.virt 900 4 rfl) ?_
 refine gL1 [1, 8, 9] [1] (fun (i : Nat) => [(3, some (.ms 900 4 0 i)), (10, some (i64 i))]) (fun i => [(900, some (.row 4 (((trn l ps).take i).map Tn.av)))]) (fun i => i ≤ l.drivers.length) (fun i => l.drivers.length - i) 0 (Nat.zero_le _) ?_
 rintro i hi K1 hK1
 refine gC (fun ht11 => ?_) (fun ht11 => ?_) (st2 := (7, 0))
 ·have hin := lss_t ht11
  obtain ⟨d, hd⟩ := getx hin
  have hb := inB_t (dr_in hli hd)
  obtain ⟨p, hp⟩ := getx (l := ps) (i := d.body.toNat) (by omega)
  have htr : (trn l ps)[i]? = some p.turn := by unfold trn; rw [List.getElem?_map, hd, ← getD_of hp]; rfl
  have htl : (trn l ps).length = l.drivers.length := List.length_map _
  refine gi (getmap hd) ?_
  refine gi (getmap hp) ?_
  refine gs (s_append (.tmp rfl) rfl (by rw [List.length_map, List.length_take]; omega) (.tmp rfl) T27 rfl T81 rfl rfl (by dsimp only; simp only [List.length_cons, List.length_nil]; omega) rfl rfl) ?_ (6, 0)
  refine gW (Wk.of (sl := [(1, some (.ptr 1 0)), (3, some (.ms 23 4 0 (i + 1))), (8, some (.lst 2 (l.drivers.map Dr.av))), (9, some (i64 l.drivers.length)), (10, some (i64 i))]) (hp := [(1, some (.box (drawnA l ps).cells)), (23, some (.row 4 (((trn l ps).take (i + 1)).map Tn.av)))]) (by repeat (first | exact SlW.nil | refine SlW.k ?_)) (.cons rfl (.refl _) (.cons rfl (BlkSub.of (by rw [take_succ_get htr, List.map_append]; rfl)) .nil))) ?_ (6, 0)
  refine gW (Wk.rekey (k := 23) (d := 900) rfl rfl) ?_
  refine ga (i64_add1 (by unfold maxL; omega)) ?_
  exact gK1 hK1 (i + 1) hin
 ·have hin := lss_end hi ht11
  subst hin
  have htl : (trn l ps).length = l.drivers.length := List.length_map _
  refine gW ((Wk.freeze (k := 900) rfl).trans <| Wk.of (sl := [(3, some (.lst 4 ((trn l ps).map Tn.av)))]) (hp := []) (.cons rfl (Sub.of (by rw [fz_all (by rw [List.length_map, List.length_take]; omega), List.take_of_length_le (by omega)])) .nil) .nil) ?_
  refine gE1 ?_
  first | rfl | (simp; done)
theorem c_l27_Sound {l : Li} {a : As} (hg : Good l a) : FnC Tryz.prog 23 [l.av, a.av] (bl true) := by
 have hln := hg.ln
 have hbl := hg.al.bl
 have hck := hg.ck
 refine gF0 Tryz.func23 ?_
 refine gc (Con.subA (.cons (.refl _) (.cons (Sub.nil 1 none 0) .nil)) (c_r11_Bad a.rs 40000 4000 hg.al.tr [] (fun x hx => by cases hx) (by omega) (by show 0 ≤ _; omega))) ?_
 refine glG ?_
 refine glG ?_
 refine gC (fun ht19 => ?_) (fun ht19 => ?_) (st1 := (2, 0))
 ·exact ((fl1_t ht19).elim (fun h => h hck) (fun h => h hln)).elim
 ·refine gl ?_
  refine gL1 [2, 3, 4, 21, 22] [2, 3] (fun (i : Nat) => [(23, some (i64 i))]) (fun _ => []) (fun i => i ≤ a.bs.length) (fun i => a.bs.length - i) 0 (Nat.zero_le _) ?_
  rintro i hi K1 hK1
  refine gC (fun ht24 => ?_) (fun ht24 => ?_)
  ·have hin := lss_t ht24
   obtain ⟨b, hb⟩ := getx hin
   have hbm := List.mem_of_getElem? hb
   have h0 := hg.cb b hbm
   refine gi (getmap hb) ?_
   refine gc (show FnC _ _ _ (i64 (0 : Nat)) by rw [← h0]; exact c_r11_Bad a.rs 40000 4000 hg.al.tr b.l (hg.al.nr b hbm) (by omega) (by show 4 ≤ _; omega)) ?_
   refine gC (fun ht39 => ?_) (fun ht39 => ?_) (st1 := (7, 0))
   ·cases ht39
   ·refine ga (i64_add1 (by unfold maxL; omega)) ?_
    exact gK1 hK1 (i + 1) hin
  ·refine gE1 ?_
   first | rfl | (simp; done)
end Go.Lw
namespace Go.Lw
open Go.Proofs
theorem c_first_Placed (bs : List Pl) (hl : bs.length ≤ 281474976710656) (f : FuncId) (c : List AV) (ok : Nat → Bool)
  (hf : ∀ (i : Nat) (b : Pl), bs[i]? = some b → (∀ j, j < i → ok j = true) → FnC Tryz.prog f ([i64 i, b.av] ++ [.iptr c]) (bl (!ok i))) :
  FnC Tryz.prog 71 [.lst 4 (bs.map Pl.av), .fn f [.iptr c]] (i64 (ixI (firstB bs.length ok))) := by
 refine gF0 Tryz.func71 ?_
 refine gl ?_
 refine gL1 [1, 7, 8] [] (fun (i : Nat) => [(9, some (i64 i))]) (fun _ => []) (fun i => i ≤ bs.length ∧ ∀ j, j < i → ok j = true) (fun i => bs.length - i) 0 ⟨Nat.zero_le _, fun j h => by omega⟩ ?_
 rintro i ⟨hi, hj⟩ K1 hK1
 refine gC (fun ht10 => ?_) (fun ht10 => ?_)
 ·have hin := lss_t ht10
  obtain ⟨b, hb⟩ := getx hin
  refine gi (getmap hb) ?_
  refine gs (s_callV (.tmp rfl) (hf i b hb hj) (.cons (.tmp rfl) (.cons (.tmp rfl) .nil)) (by first | exact hH0 | exact hH1 rfl | exact hH2 rfl rfl) rfl rfl) ?_
  refine gC (fun ht17 => ?_) (fun ht17 => ?_)
  ·have h2 := not_t ht17
   refine gE1 ?_
   rw [firstB_at hin hj h2]; rfl
  ·have h2 := not_f ht17
   refine ga (i64_add1 (by unfold maxL; omega)) ?_
   exact gK1 hK1 (i + 1) ⟨hin, fun j h9 => by rcases Nat.lt_or_ge j i with g | g; exact hj j g; (have : j = i := by omega); subst this; exact h2⟩
 ·have hin := lss_end hi ht10
  subst hin
  refine gE1 ?_
  rw [firstB_all hj]; rfl
theorem c_first_Joint (bs : List Jt) (hl : bs.length ≤ 281474976710656) (f : FuncId) (c d : List AV) (ok : Nat → Bool)
  (hf : ∀ (i : Nat) (b : Jt), bs[i]? = some b → (∀ j, j < i → ok j = true) → FnC Tryz.prog f ([i64 i, b.av] ++ [.iptr c, .iptr d]) (bl (!ok i))) :
  FnC Tryz.prog 75 [.lst 7 (bs.map Jt.av), .fn f [.iptr c, .iptr d]] (i64 (ixI (firstB bs.length ok))) := by
 refine gF0 Tryz.func75 ?_
 refine gl ?_
 refine gL1 [1, 7, 8] [] (fun (i : Nat) => [(9, some (i64 i))]) (fun _ => []) (fun i => i ≤ bs.length ∧ ∀ j, j < i → ok j = true) (fun i => bs.length - i) 0 ⟨Nat.zero_le _, fun j h => by omega⟩ ?_
 rintro i ⟨hi, hj⟩ K1 hK1
 refine gC (fun ht10 => ?_) (fun ht10 => ?_)
 ·have hin := lss_t ht10
  obtain ⟨b, hb⟩ := getx hin
  refine gi (getmap hb) ?_
  refine gs (s_callV (.tmp rfl) (hf i b hb hj) (.cons (.tmp rfl) (.cons (.tmp rfl) .nil)) (by first | exact hH0 | exact hH1 rfl | exact hH2 rfl rfl) rfl rfl) ?_
  refine gC (fun ht17 => ?_) (fun ht17 => ?_)
  ·have h2 := not_t ht17
   refine gE1 ?_
   rw [firstB_at hin hj h2]; rfl
  ·have h2 := not_f ht17
   refine ga (i64_add1 (by unfold maxL; omega)) ?_
   exact gK1 hK1 (i + 1) ⟨hin, fun j h9 => by rcases Nat.lt_or_ge j i with g | g; exact hj j g; (have : j = i := by omega); subst this; exact h2⟩
 ·have hin := lss_end hi ht10
  subst hin
  refine gE1 ?_
  rw [firstB_all hj]; rfl
theorem c_first_Driver (bs : List Dr) (hl : bs.length ≤ 281474976710656) (f : FuncId) (c d : List AV) (ok : Nat → Bool)
  (hf : ∀ (i : Nat) (b : Dr), bs[i]? = some b → (∀ j, j < i → ok j = true) → FnC Tryz.prog f ([i64 i, b.av] ++ [.iptr c, .iptr d]) (bl (!ok i))) :
  FnC Tryz.prog 78 [.lst 2 (bs.map Dr.av), .fn f [.iptr c, .iptr d]] (i64 (ixI (firstB bs.length ok))) := by
 refine gF0 Tryz.func78 ?_
 refine gl ?_
 refine gL1 [1, 7, 8] [] (fun (i : Nat) => [(9, some (i64 i))]) (fun _ => []) (fun i => i ≤ bs.length ∧ ∀ j, j < i → ok j = true) (fun i => bs.length - i) 0 ⟨Nat.zero_le _, fun j h => by omega⟩ ?_
 rintro i ⟨hi, hj⟩ K1 hK1
 refine gC (fun ht10 => ?_) (fun ht10 => ?_)
 ·have hin := lss_t ht10
  obtain ⟨b, hb⟩ := getx hin
  refine gi (getmap hb) ?_
  refine gs (s_callV (.tmp rfl) (hf i b hb hj) (.cons (.tmp rfl) (.cons (.tmp rfl) .nil)) (by first | exact hH0 | exact hH1 rfl | exact hH2 rfl rfl) rfl rfl) ?_
  refine gC (fun ht17 => ?_) (fun ht17 => ?_)
  ·have h2 := not_t ht17
   refine gE1 ?_
   rw [firstB_at hin hj h2]; rfl
  ·have h2 := not_f ht17
   refine ga (i64_add1 (by unfold maxL; omega)) ?_
   exact gK1 hK1 (i + 1) ⟨hin, fun j h9 => by rcases Nat.lt_or_ge j i with g | g; exact hj j g; (have : j = i := by omega); subst this; exact h2⟩
 ·have hin := lss_end hi ht10
  subst hin
  refine gE1 ?_
  rw [firstB_all hj]; rfl
theorem fault1_cond {a : As} (ha : AL a) (h1 : chkE a.rs = 0) {i : Nat} {b : Pl} (hbn : ∀ x ∈ b.l, NR x 4000) :
  cond (!(decide (chksE a.rs b.l = 0) && unitB (llq a.rs) b)) true (cond (icmp .eql (i : Int) 0) (!stillB a.rs b) false) = !bodyB a.rs i b := by
 unfold bodyB
 by_cases h : chksE a.rs b.l = 0
 ·have hs : stillB a.rs b = sameP (llq a.rs) b frameQ := by
   have h2 := (chks_ok h).2
   unfold stillB eqR sameP
   rw [h2 b.c (by simp [Pl.l]), h2 b.s (by simp [Pl.l]), h2 b.x (by simp [Pl.l]), h2 b.y (by simp [Pl.l])]
   rfl
  rw [hs, decide_eq_true h, Bool.true_and, Bool.true_and]
  have e : icmp .eql (i : Int) 0 = !decide (0 < i) := by
   rw [int_eqb, ← decide_not]; exact decide_eq_decide.2 (by omega)
  rw [e]
  cases unitB (llq a.rs) b <;> cases decide (0 < i) <;> cases sameP (llq a.rs) b frameQ <;> rfl
 ·rw [decide_eq_false h]; rfl
theorem c_fault1 {a : As} (ha : AL a) (h1 : chkE a.rs = 0) {i : Nat} {b : Pl} (hb : a.bs[i]? = some b) : FnC Tryz.prog 72 [i64 i, b.av, .iptr a.av.cells] (bl (!bodyB a.rs i b)) := by
 have hbn := ha.nr b (List.mem_of_getElem? hb)
 refine gF0 Tryz.func72 ?_
 refine gc (c_certify_unit ha.tr h1 hbn) ?_
 refine gcG (fun _ => (c_certify_still ha.tr h1 hbn)) ?_
 refine gE1 ?_
 exact congrArg bl (fault1_cond ha h1 hbn)
theorem c_fault2 {l : Li} {a : As} (hg : Good l a) {i : Nat} {j : Jt} (hj : l.joints[i]? = some j) : FnC Tryz.prog 76 [i64 i, j.av, .iptr l.av.cells, .iptr a.av.cells] (bl (!jointB l a j)) := by
 refine gF0 Tryz.func76 ?_
 refine gc (c_certify_holds hg hj) ?_
 refine gE1 ?_
 rfl
theorem c_fault3 {l : Li} {a : As} (hg : Good l a) {xs : List Tn} (hx : ∀ x ∈ xs, x.t.ok ∧ x.err = 0 ∧ Qb 1000 x.t.q) (hxl : xs.length = l.drivers.length) {i : Nat} {d : Dr} (hd : l.drivers[i]? = some d) :
  FnC Tryz.prog 79 [i64 i, d.av, .iptr a.av.cells, .iptr [.lst 4 (xs.map Tn.av)]] (bl (!driverB l xs a i)) := by
 have hld := hg.lo.ld
 have hin := (List.getElem?_eq_some_iff.1 hd).1
 obtain ⟨tw, hta, h5, hll⟩ := hg.tw
 have hbl := hg.al.bl
 obtain ⟨n, b, x, hq⟩ := hg.dr hx hxl hd
 obtain ⟨dname, dbody⟩ := d
 have hqn : dbody = n := hq.hn
 subst hqn
 have hqb : ({ name := dname, body := (n : Int) } : Dr).body = (n : Int) := rfl
 have hnl := (List.getElem?_eq_some_iff.1 hq.gb).1
 have hxo := hx x (List.mem_of_getElem? hq.gx)
 have ht : FnC Tryz.prog 80 [towR a.rs, b.av, x.av] (bl (turnB (llq a.rs) b x)) := by rw [hta, hq.av]; exact c_certify_turned tw hq.po hxo.1 hxo.2.1 hxo.2.2
 refine gF0 Tryz.func79 ?_
 refine gi (getmap hq.gb) ?_
 refine gi (getmap hq.gx) ?_
 refine gc ht ?_
 refine gD ?_
 refine gE1 ?_
 rw [hq.eq]; rfl
theorem c_certify_fault {l : Li} (hl : l.ok) (hli : liE l = 0) (xs : List Tn) (hx : ∀ x ∈ xs, x.t.ok ∧ x.err = 0 ∧ Qb 1000 x.t.q) (hxl : xs.length = l.drivers.length) {a : As} (ha : AL a) : FnC Tryz.prog 35 [l.av, .lst 4 (xs.map Tn.av), a.av] (fltA (flt l xs a)) := by
 have hbl := ha.bl
 refine gF0 Tryz.func35 ?_ (1, 0)
 refine gW ((Wk.freezeB (k := 3) rfl rfl).trans <| (Wk.freezeB (k := 4) rfl rfl).trans <| (Wk.freezeB (k := 5) rfl rfl).trans <| Wk.o (sl := [(3, some (.iptr l.av.cells)), (4, some (.iptr [.lst 4 (xs.map Tn.av)])), (5, some (.iptr a.av.cells)), (6, some (.ptr 6 0))]) (hp := [(6, some (.box [i64 0, i64 0]))])) ?_
 refine gc (c_tower_Check a.rs 40000 ha.tr) ?_
 refine glG ?_
 refine glG ?_
 refine gC (fun ht22 => ?_) (fun ht22 => ?_)
 ·have h1 : chkE a.rs ≠ 0 ∨ a.bs.length ≠ l.bodies.length := fl2_t ht22
  refine gE1 ?_
  rw [flt_1 h1]; rfl
 ·have h1 : ¬ (chkE a.rs ≠ 0 ∨ a.bs.length ≠ l.bodies.length) := fl2_f ht22
  have hc : chkE a.rs = 0 := Decidable.not_not.1 (fun h => h1 (.inl h))
  have hln : a.bs.length = l.bodies.length := Decidable.not_not.1 (fun h => h1 (.inr h))
  refine gc (c_first_Placed a.bs (by omega) 72 a.av.cells (fun i => bodyB a.rs i (a.bs.getD i default)) (fun i b hb _ => by have h := c_fault1 ha hc hb; rw [← getD_of (d := default) hb] at h ⊢; exact h)) ?_
  refine gC (fun ht29 => ?_) (fun ht29 => ?_)
  ·obtain ⟨i, hi⟩ := ix_t ht29
   refine gE1 ?_
   rw [flt_2 h1 hi, hi]; rfl
  ·have f1 := ix_f ht29
   have hg := good_of hl hli ha hc hln (firstB_none f1)
   refine gc (c_first_Joint l.joints hl.lj 76 l.av.cells a.av.cells (fun i => jointB l a (l.joints.getD i default)) (fun i j hj _ => by have h := c_fault2 hg hj; rw [← getD_of (d := default) hj] at h ⊢; exact h)) ?_
   refine gC (fun ht37 => ?_) (fun ht37 => ?_)
   ·obtain ⟨i, hi⟩ := ix_t ht37
    refine gE1 ?_
    rw [flt_3 h1 f1 hi, hi]; rfl
   ·have f2 := ix_f ht37
    refine gc (c_first_Driver l.drivers hl.ld 79 a.av.cells [.lst 4 (xs.map Tn.av)] (driverB l xs a) (fun i d hd _ => c_fault3 hg hx hxl hd)) ?_
    refine gC (fun ht45 => ?_) (fun ht45 => ?_)
    ·obtain ⟨i, hi⟩ := ix_t ht45
     refine gE1 ?_
     rw [flt_4 h1 f1 f2 hi, hi]; rfl
    ·have f3 := ix_f ht45
     refine gE1 ?_
     rw [flt_0 h1 f1 f2 f3]; rfl
theorem c_certify_Verify {l : Li} (hl : l.ok) (xs : List Tn) (hx : ∀ x ∈ xs, x.t.ok ∧ Qb 1000 x.t.q) (hxl : xs.length ≤ 281474976710656) {a : As} (ha : AL a) :
  FnC Tryz.prog 9 [l.av, .lst 4 (xs.map Tn.av), a.av] (.tup [bl (decide (badE l xs = 0) && decide ((flt l xs a).1 = 0)), fltA (if badE l xs = 0 then flt l xs a else (0, 0)), errA (badE l xs)]) := by
 have hld := hl.ld
 refine gF0 Tryz.func9 ?_
 refine gc (c_model_Check l hl) ?_
 refine gC (fun ht17 => ?_) (fun ht17 => ?_)
 ·have h1 := nNil_t ht17
  have hb : badE l xs ≠ 0 := by rw [badE_li h1]; exact h1
  refine gE3 ?_
  rw [if_neg hb, decide_eq_false hb, badE_li h1]; rfl
 ·have h1 := nNil_f ht17
  refine gl ?_
  refine gl ?_
  refine gC (fun ht25 => ?_) (fun ht25 => ?_)
  ·have h2 : xs.length ≠ l.drivers.length := by have := neq_t' ht25; omega
   have hb : badE l xs ≠ 0 := by rw [badE_len h1 h2]; decide
   refine gE3 ?_
   rw [if_neg hb, decide_eq_false hb, badE_len h1 h2]; rfl
  ·have h2 : xs.length = l.drivers.length := by have := neq_f' ht25; omega
   refine gl ?_
   refine gL1 [1, 3, 5, 7, 28, 29] [3, 5, 7] (fun (i : Nat) => [(30, some (i64 i))]) (fun _ => []) (fun i => i ≤ xs.length ∧ ∀ x ∈ xs.take i, x.err = 0) (fun i => xs.length - i) 0 ⟨Nat.zero_le _, fun x hx => by simp at hx⟩ ?_
   rintro i ⟨hi, hj⟩ K1 hK1
   refine gC (fun ht31 => ?_) (fun ht31 => ?_)
   ·have hin := lss_t ht31
    obtain ⟨x, hxx⟩ := getx hin
    refine gi (getmap hxx) ?_
    refine gc (c_turn_Check x (hx x (List.mem_of_getElem? hxx)).1) ?_
    refine gC (fun ht37 => ?_) (fun ht37 => ?_)
    ·have h3 := nNil_t ht37
     have hb : badE l xs ≠ 0 := by rw [badE_x h1 h2 hxx hj h3]; exact h3
     refine gE3 ?_
     rw [if_neg hb, decide_eq_false hb, badE_x h1 h2 hxx hj h3]; rfl
    ·have h3 := nNil_f ht37
     refine ga (i64_add1 (by unfold maxL; omega)) ?_
     exact gK1 hK1 (i + 1) ⟨hin, fun y hy => by rw [take_succ_get hxx] at hy; rcases List.mem_append.1 hy with h9 | h9; exact hj y h9; (rw [List.mem_singleton.1 h9]; exact h3)⟩
   ·have hin := lss_end hi ht31
    subst hin
    rw [List.take_length] at hj
    have hb := badE_0 h1 h2 hj
    refine gc (c_certify_fault hl h1 xs (fun x h9 => ⟨(hx x h9).1, hj x h9, (hx x h9).2⟩) h2 ha) ?_
    refine gs (s_eq2 (.tmp rfl) (.tmp rfl) (by kernel_rfl) rfl) ?_
    refine gD ?_
    refine gE3 ?_
    rw [hb, if_pos rfl, ver_cond]; rfl
end Go.Lw
namespace Go.Lw
open Go.Proofs
def barB (s : ByteArray) (n : Int) : Bd := ⟨s, [⟨⟨#[97]⟩, rt ((0 : Int) : Rat), rt ((0 : Int) : Rat)⟩, ⟨⟨#[98]⟩, rt (n : Rat), rt ((0 : Int) : Rat)⟩]⟩
def fb : Li := ⟨⟨#[102, 111, 117, 114, 98, 97, 114]⟩, [barB ⟨#[102, 114, 97, 109, 101]⟩ 4, barB ⟨#[99, 114, 97, 110, 107]⟩ 3, barB ⟨#[99, 111, 117, 112, 108, 101, 114]⟩ 5, barB ⟨#[114, 111, 99, 107, 101, 114]⟩ 6],
  [⟨⟨#[111]⟩, 0, 1, 0, 0, 0, 0⟩, ⟨⟨#[112]⟩, 0, 2, 0, 1, 1, 0⟩, ⟨⟨#[113]⟩, 0, 3, 0, 0, 1, 0⟩, ⟨⟨#[114]⟩, 0, 2, 1, 3, 1, 0⟩], [⟨⟨#[100]⟩, 1⟩]⟩
def t0 : Tn := ⟨⟨false, [], []⟩, false⟩
def pl0 : Pl := ⟨[rt 1], [], [], []⟩
def as0 : As := ⟨[], [pl0, pl0, pl0, pl0], []⟩
def ps0 : Pse := ⟨t0, ⟨⟨false, [], []⟩, ⟨false, [], []⟩⟩⟩
def as1 : As := ⟨[], [pl0], []⟩
theorem eqS_data (a b : ByteArray) : eqS a b = (a.data.toList == b.data.toList) := by
 unfold eqS; rw [Go.ByteArray.toList_eq, Go.ByteArray.toList_eq]
theorem fb_li : liE fb = 0 := by
 have h1 : bdsE fb = 0 := by
  unfold bdsE firstN bdE dupB mkE
  simp only [eqS_data]
  decide +kernel
 have h2 : jtsE fb = 0 := by
  unfold jtsE firstN jtE dupB
  simp only [eqS_data]
  decide +kernel
 have h3 : drsE fb = 0 := by
  unfold drsE firstN drE dupB
  simp only [eqS_data]
  decide +kernel
 unfold liE
 rw [h1, h2, h3]
 decide +kernel
theorem fb_bad : badE fb [t0] = 0 := badE_0 fb_li rfl (fun y hy => by rw [List.mem_singleton.1 hy]; decide +kernel)
theorem fb_flt : flt fb [t0] as0 = (3, 1) := by decide +kernel
theorem bar_okw {s : ByteArray} (hs : s.size ≤ 281474976710656) {n : Int} (hn : -9223372036854775808 ≤ n ∧ n ≤ 9223372036854775807) :
  (barB s n).name.size ≤ 281474976710656 ∧ (barB s n).pts.length ≤ 281474976710656 ∧ ∀ m ∈ (barB s n).pts, m.name.size ≤ 281474976710656 ∧ m.x.wok ∧ m.y.wok := by
 have h0 : (rt ((0 : Int) : Rat)).ok := (int_qs (by omega)).ok
 have h1 : (rt (n : Rat)).ok := (int_qs hn).ok
 refine ⟨hs, by show 2 ≤ _; omega, fun m hm => ?_⟩
 simp only [barB, List.mem_cons, List.not_mem_nil, or_false] at hm
 rcases hm with rfl | rfl
 ·exact ⟨by show 1 ≤ _; omega, h0.wok, h0.wok⟩
 ·exact ⟨by show 1 ≤ _; omega, h1.wok, h0.wok⟩
theorem fb_okw : fb.okw := by
 refine ⟨by decide, fun b hb => ?_, fun j hj => ?_, fun d hd => ?_, by decide, by decide, by decide⟩
 ·simp only [fb, List.mem_cons, List.not_mem_nil, or_false] at hb
  rcases hb with rfl | rfl | rfl | rfl <;> exact bar_okw (by decide) (by omega)
 ·simp only [fb, List.mem_cons, List.not_mem_nil, or_false] at hj
  rcases hj with rfl | rfl | rfl | rfl <;> decide
 ·simp only [fb, List.mem_cons, List.not_mem_nil, or_false] at hd
  rcases hd with rfl; decide
theorem fb_ok : fb.ok := li_ok (by decide +kernel) fb_okw
theorem r0_ok : (⟨false, [], []⟩ : Rt).ok := ⟨ws_nil, ws_nil, Nat.zero_le _, Nat.zero_le _⟩
theorem q0_z : (⟨false, [], []⟩ : Rt).q = 0 := Rt.zero (fun h => h.2 rfl)
theorem ps0_lok : ps0.lok := by
 have h : Qb 96 (⟨false, [], []⟩ : Rt).q := by rw [q0_z]; exact Qb.zero.mono (by omega)
 exact ⟨⟨r0_ok, r0_ok, r0_ok⟩, h, h, h⟩
theorem rt1_ok : (rt 1).ok := (int_qs (n := 1) (by omega)).ok
theorem pl0_rs : RsOk pl0.l := by
 intro x hx
 simp only [Pl.l, pl0, List.mem_cons, List.not_mem_nil, or_false] at hx
 rcases hx with rfl | rfl | rfl | rfl
 ·exact ⟨fun r hr => by rw [List.mem_singleton.1 hr]; exact rt1_ok.wok, by show 1 ≤ _; omega⟩
 ·exact ⟨fun r hr => (by cases hr), (by show 0 ≤ _; omega)⟩
 ·exact ⟨fun r hr => (by cases hr), (by show 0 ≤ _; omega)⟩
 ·exact ⟨fun r hr => (by cases hr), (by show 0 ≤ _; omega)⟩
theorem as0_al : AL as0 := as_al (by decide +kernel) ⟨rs_nil, by decide, fun b hb => by simp only [as0, List.mem_cons, List.not_mem_nil, or_false] at hb; rcases hb with rfl | rfl | rfl | rfl <;> exact pl0_rs, by decide⟩
theorem as1_al : AL as1 := as_al (by decide +kernel) ⟨rs_nil, by decide, fun b hb => by simp only [as1, List.mem_cons, List.not_mem_nil, or_false] at hb; rcases hb with rfl; exact pl0_rs, by decide⟩
theorem mE0 : mE as1 [ps0] = 0 := by decide +kernel
theorem mB0 : mB as1 [ps0] = true := by decide +kernel
theorem ofE0 : ofE [ps0] = 0 := by decide +kernel
theorem ofL0 : asA (ofL [ps0]) = as1.av := by
 have h : ofL [ps0] = [posed ps0] := rfl
 have c1 : cosQ false 0 = 1 := by decide +kernel
 have s1 : sinQ false 0 = 0 := by decide +kernel
 have h2 : posed ps0 = ⟨[1], [], [], []⟩ := by
  show (⟨sh 0 (cosQ false (⟨false, [], []⟩ : Rt).q : Rat), sh 0 (sinQ false (⟨false, [], []⟩ : Rt).q : Rat), sh 0 ((⟨false, [], []⟩ : Rt).q : Rat), sh 0 ((⟨false, [], []⟩ : Rt).q : Rat)⟩ : Pq) = _
  rw [q0_z, c1, s1]; rfl
 rw [h, h2]; rfl
theorem CellsSub.ofL {l l' : List AV} (h : SubL l l') (ho : l'.all AV.one = true) : CellsSub (.agg l) (.agg l') :=
 ⟨h.len, fun j x y hx hy => ⟨List.all_eq_true.1 ho y (List.mem_of_getElem? hy), h.get j x y hx hy⟩⟩
theorem Sub.lst1 {sz : Nat} {e e' : AV} (h : CellsSub e e') : Sub (.lst sz [e]) (.lst sz [e']) := by
 refine Sub.lst rfl (fun i x y hx hy => ?_)
 match i, hx, hy with
 | 0, hx, hy => cases hx; cases hy; exact h
theorem sub_nb : Sub (.v (.bool false)) (bl false) := .refl _
theorem sub_nw : Sub (.v (.slice none 0 0)) (ws []) := .nil _ _ _
theorem sub_ps0 : CellsSub (.agg [.v (.bool false), .v (.slice none 0 0), .v (.slice none 0 0), .v (.bool false), .v (.bool false), .v (.slice none 0 0), .v (.slice none 0 0), .v (.bool false), .v (.slice none 0 0), .v (.slice none 0 0)]) ps0.av :=
 .ofL (.cons sub_nb (.cons sub_nw (.cons sub_nw (.cons sub_nb (.cons sub_nb (.cons sub_nw (.cons sub_nw (.cons sub_nb (.cons sub_nw (.cons sub_nw .nil)))))))))) rfl
theorem sub_t0 : CellsSub (.agg [.v (.bool false), .v (.slice none 0 0), .v (.slice none 0 0), .v (.bool false)]) t0.av :=
 .ofL (.cons sub_nb (.cons sub_nw (.cons sub_nw (.cons sub_nb .nil)))) rfl
theorem c_l25_place (s : ByteArray) (x y : Int) (hx : -9223372036854775808 ≤ x ∧ x ≤ 9223372036854775807) (hy : -9223372036854775808 ≤ y ∧ y ≤ 9223372036854775807) : FnC Tryz.prog 116 [.v (.string s), i64 x, i64 y] (Mk.av ⟨s, rt (x : Rat), rt (y : Rat)⟩) := by
 refine gF0 Tryz.func116 ?_
 refine gc (c_r02_Of x hx) ?_
 refine gc (c_r02_Of y hy) ?_
 refine gE1 ?_
 first | rfl | (simp; done)
theorem c_l25_bar (s : ByteArray) (n : Int) (hn : -9223372036854775808 ≤ n ∧ n ≤ 9223372036854775807) : FnC Tryz.prog 57 [.v (.string s), i64 n] (barB s n).av := by
 refine gF0 Tryz.func57 ?_
 refine gc (c_l25_place _ 0 0 (by omega) (by omega)) ?_
 refine gc (c_l25_place _ n 0 hn (by omega)) ?_
 refine gE1 ?_
 first | rfl | (simp; done)
theorem c_l25_FourBar : FnC Tryz.prog 27 [] fb.av := by
 refine gF0 Tryz.func27 ?_
 refine gc (c_l25_bar _ 4 (by omega)) ?_
 refine gc (c_l25_bar _ 3 (by omega)) ?_
 refine gc (c_l25_bar _ 5 (by omega)) ?_
 refine gc (c_l25_bar _ 6 (by omega)) ?_
 refine gE1 ?_
 first | rfl | (simp; done)
theorem c_l28_awake : FnC Tryz.prog 6 [] (bl true) := by
 have hv := c_certify_Verify fb_ok [t0] (fun x hx => by rw [List.mem_singleton.1 hx]; exact ⟨r0_ok, by show Qb 1000 (⟨false, [], []⟩ : Rt).q; rw [q0_z]; exact Qb.zero.mono (by omega)⟩) (by decide) as0_al
 rw [fb_bad, if_pos rfl, fb_flt] at hv
 have ho := c_certify_Of [ps0] (fun p hp => by rw [List.mem_singleton.1 hp]; exact ps0_lok) (by decide)
 rw [ofE0, ofL0] at ho
 have hm := c_certify_Matches as1 as1_al [ps0] (fun p hp => by rw [List.mem_singleton.1 hp]; exact ps0_lok) (by decide)
 rw [mE0, mB0] at hm
 have sp : Sub (.lst 10 [.agg [.v (.bool false), .v (.slice none 0 0), .v (.slice none 0 0), .v (.bool false), .v (.bool false), .v (.slice none 0 0), .v (.slice none 0 0), .v (.bool false), .v (.slice none 0 0), .v (.slice none 0 0)]]) (.lst 10 ([ps0].map Pse.av)) := Sub.lst1 sub_ps0
 have st : Sub (.lst 4 [.agg [.v (.bool false), .v (.slice none 0 0), .v (.slice none 0 0), .v (.bool false)]]) (.lst 4 ([t0].map Tn.av)) := Sub.lst1 sub_t0
 refine gF0 Tryz.func6 ?_
 refine gc c_r26_Frame ?_
 refine gc c_l25_FourBar ?_
 refine gc (Con.subA (.cons (.refl _) (.cons st (.cons (.agg (.cons (.nil _ _ _) (.cons (.refl _) (.cons (.nil _ _ _) .nil))) rfl) .nil))) hv) ?_
 refine gD ?_
 refine gc (Con.subA (.cons sp .nil) ho) ?_
 refine gc (Con.subA (.cons (.refl _) (.cons sp .nil)) hm) ?_
 refine gs (s_guard rfl rfl rfl (fun h => s_eq2 (.opt rfl (o1 h)) (.opt rfl (o1 h)) (by kernel_rfl) rfl)) ?_
 refine gE1 ?_
 rfl
end Go.Lw
namespace Go.Lw
open Go.Proofs
def li0 : Li := ⟨⟨#[]⟩, [], [], []⟩
theorem tw0 : Tw [] 40000 := (chk_tw (rs := []) as0_al.tr (by decide +kernel)).1
end Go.Lw
namespace Go.Lw
open Go.Proofs
def lowR (r : Rt) : Bool := !(cond (cond (cond (icmp .gtr (r.num.length : Int) 1) true (icmp .gtr (r.den.length : Int) 1)) true (cond (icmp .eql (r.num.length : Int) 1) (icmp .gtr (wordW r.num 0 : Int) 400) false)) true
  (cond (icmp .eql (r.den.length : Int) 1) (icmp .gtr (wordW r.den 0 : Int) 20) false))
def tnB (x : Tn) : Bool := decide (x.t.num.length ≤ 1 ∧ x.t.den.length ≤ 1)
def mk1 (m : Mk) : Bool := decide (m.x.num.length ≤ 1 ∧ m.x.den.length ≤ 1 ∧ m.y.num.length ≤ 1 ∧ m.y.den.length ≤ 1)
def lowT (xs : List Tn) : Bool := xs.all (fun x => [x.t].all lowR)
def lowP (ps : List Mk) : Bool := ps.all (fun p => [p.x, p.y].all lowR)
def lowL (l : Li) : Bool := l.bodies.all (fun b => lowP b.pts)
def resB (l : Li) (xs : List Tn) : Bool :=
  cond (cond (icmp .neq (splitE l : Int) 0) true (icmp .leq (((splitG l).length : Int) - l.drivers.length) 1)) true (cond (icmp .eql (((splitG l).length : Int) - l.drivers.length) 2) (lowT xs && lowL l) false)
def l27B (l : Li) (xs : List Tn) : Bool :=
  (liB l && decide (xs.length ≤ 20)) && (xs.all tnB && (l.bodies.all (fun b => b.pts.all mk1) && (if liE l = 0 then resB l xs else true)))
end Go.Lw
namespace Go.Lw
open Go.Proofs
end Go.Lw
namespace Go.Lw
open Go.Proofs
theorem r4_map (ps : List Pse) : (ps.map Pse.r4).map R4.pq = ps.map posed := by rw [List.map_map]; rfl
theorem lok_r4 {p : Pse} (h : p.lok) : p.r4.ok := ⟨(qb_cos h.t).mono (by omega), (qb_sin h.t).mono (by omega), h.x.mono (by omega), h.y.mono (by omega)⟩
theorem same_posed {p : Pse} (h : p.lok) : FnC Tryz.prog 17 [.agg [.lst 1 []], (posed p).av, .agg [nA [1], nA [], nA [], nA []]] (bl (frB p.r4)) := by
 have hp := posed_ok (n := 0) (by omega) h
 have hf := frame_ok (n := 0) (by omega)
 have h1 := c_r26_SamePlaced tw0 (hp.c.mono (by omega)) (hp.s.mono (by omega)) (hp.x.mono (by omega)) (hp.y.mono (by omega)) hf.c hf.s hf.x hf.y (by omega)
 have e : (eqT [] (dec 0 (posed p).c) (dec 0 frameQ.c) && eqT [] (dec 0 (posed p).s) (dec 0 frameQ.s) && eqT [] (dec 0 (posed p).x) (dec 0 frameQ.x) && eqT [] (dec 0 (posed p).y) (dec 0 frameQ.y)) = frB p.r4 := by
  rw [show dec 0 (posed p).c = p.r4.c from dec_sh 0 _, show dec 0 (posed p).s = p.r4.s from dec_sh 0 _, show dec 0 (posed p).x = p.r4.x from dec_sh 0 _, show dec 0 (posed p).y = p.r4.y from dec_sh 0 _]
  unfold frB
  rw [← eq_q, ← eq_q, ← eq_q, ← eq_q]; rfl
 rw [← e]; exact h1
theorem fits_1 {e n m : Nat} (h : cond (icmp .neq (e : Int) 0) true (icmp .neq (n : Int) (m : Int)) = true) : decide (e = 0 ∧ n = m) = false := by
 refine decide_eq_false (fun ⟨h1, h2⟩ => ?_)
 subst h1; subst h2
 simp [icmp] at h
theorem fits_2 {e n m : Nat} (h : cond (icmp .neq (e : Int) 0) true (icmp .neq (n : Int) (m : Int)) = false) : e = 0 ∧ n = m := by
 cases h1 : icmp .neq (e : Int) 0
 ·rw [h1] at h; exact ⟨neq_f h1, by have := neq_f' h; omega⟩
 ·rw [h1] at h; cases h
theorem c_l26_Fits {l : Li} (hl : l.ok) (ps : List Pse) (hps : ∀ p ∈ ps, p.lok) (hpl : ps.length ≤ 20) : FnC Tryz.prog 19 [drawnA l ps] (bl (fitB l ps)) := by
 have hlb := hl.lb
 have hlj := hl.lj
 have hrp : ∀ b ∈ ps.map Pse.r4, b.ok := fun b hb => by obtain ⟨p, hp, rfl⟩ := List.mem_map.1 hb; exact lok_r4 (hps p hp)
 refine gF0 Tryz.func19 ?_
 refine gc (c_r19_Check l hl) ?_
 refine glG ?_
 refine glG ?_
 refine gC (fun ht23 => ?_) (fun ht23 => ?_)
 ·have h1 := fits_1 ht23
  refine gE1 ?_
  unfold fitB; rw [h1]; rfl
 ·have h1 := fits_2 ht23
  have h10 : decide (liE l = 0 ∧ ps.length = l.bodies.length) = true := decide_eq_true h1
  refine gl ?_
  refine gL1 [1, 25, 26] [1] (fun (i : Nat) => [(27, some (i64 i))]) (fun _ => []) (fun i => i ≤ ps.length ∧ (ps.take i).all Pse.ok = true) (fun i => ps.length - i) 0 ⟨Nat.zero_le _, rfl⟩ ?_
  rintro i ⟨hi, hj⟩ K1 hK1
  refine gC (fun ht28 => ?_) (fun ht28 => ?_)
  ·have hin := lss_t ht28
   obtain ⟨p, hp⟩ := getx hin
   have hpo := hps p (List.mem_of_getElem? hp)
   refine gi (getmap hp) ?_
   refine gc (c_r17_Valid p hpo.ok.t hpo.ok.x hpo.ok.y) ?_
   refine gC (fun ht33 => ?_) (fun ht33 => ?_)
   ·have h2 := all_miss hp (not_t ht33)
    refine gE1 ?_
    unfold fitB; rw [h10, h2]; rfl
   ·have h2 := not_f ht33
    refine ga (i64_add1 (by unfold maxL; omega)) ?_
    exact gK1 hK1 (i + 1) ⟨hin, all_step hj hp h2⟩
  ·have hall := all_end (lss_end hi ht28) hj
   have hok : ∀ p ∈ ps, p.ok = true := List.all_eq_true.1 hall
   have hlen : (ps.map Pse.r4).length = l.bodies.length := by rw [List.length_map, h1.2]
   have hg := asr_good hl h1.1 hrp hlen
   obtain ⟨p0, hp0⟩ := getx (l := ps) (i := 0) (by have := (li_parts h1.1).2.2.2.2; omega)
   refine gc (c_r25_Split l hl h1.1) ?_
   refine gC (fun ht42 => ?_) (fun ht42 => ?_)
   ·have h3 := neq_t ht42
    refine gE1 ?_
    unfold fitB; rw [h10, hall, decide_eq_false h3]; rfl
   ·have h3 := neq_f ht42
    refine gc (c_l26_Rational ps hps hpl hok) ?_
    refine gi (getmap (show (ps.map posed)[0]? = some (posed p0) by rw [List.getElem?_map, hp0]; rfl)) ?_
    refine gc c_r26_Frame ?_
    refine gc (same_posed (hps p0 (List.mem_of_getElem? hp0))) ?_
    refine gD ?_
    refine gC (fun ht54 => ?_) (fun ht54 => ?_)
    ·have h4 := not_t ht54
     refine gE1 ?_
     unfold fitB; rw [h10, hall, decide_eq_true h3, getD_of hp0, h4]; rfl
    ·have h4 := not_f ht54
     refine gl ?_
     refine gL1 [1, 7, 57, 58] [1, 7] (fun (i : Nat) => [(59, some (i64 i))]) (fun _ => []) (fun i => i ≤ l.joints.length ∧ (l.joints.take i).all (fun j => jointB l (asr (ps.map Pse.r4)) j) = true) (fun i => l.joints.length - i) 0 ⟨Nat.zero_le _, rfl⟩ ?_
     rintro i ⟨hi2, hj2⟩ K2 hK2
     refine gC (fun ht60 => ?_) (fun ht60 => ?_)
     ·have hin := lss_t ht60
      obtain ⟨j, hjt⟩ := getx hin
      have hh := c_l26_Holds hg hjt
      rw [asr_av, r4_map] at hh
      refine gi (getmap hjt) ?_
      refine gc hh ?_
      refine gC (fun ht68 => ?_) (fun ht68 => ?_)
      ·have h5 := all_miss (p := fun j => jointB l (asr (ps.map Pse.r4)) j) hjt (not_t ht68)
       refine gE1 ?_
       unfold fitB; rw [h10, hall, decide_eq_true h3, getD_of hp0, h4, h5]; rfl
      ·have h5 := not_f ht68
       refine ga (i64_add1 (by unfold maxL; omega)) ?_
       exact gK1 hK2 (i + 1) ⟨hin, all_step hj2 hjt h5⟩
     ·have h6 := all_end (lss_end hi2 ht60) hj2
      refine gE1 ?_
      unfold fitB; rw [h10, hall, decide_eq_true h3, getD_of hp0, h4, h6]; rfl
theorem fz_asm {bs : List R4} : AV.fz 900 4 ((bs.map R4.pq).map Pq.av) (.agg [.lst 1 [], .ms 900 4 0 bs.length, .lst 1 []]) = (asr bs).av := by
 rw [asr_av]
 show AV.agg [.lst 1 [], AV.fz 900 4 _ (.ms 900 4 0 bs.length), .lst 1 []] = _
 rw [fz_in (by simp), List.drop_zero, List.take_of_length_le (by simp)]; rfl
abbrev rowR (bs : List R4) : Hp := [(900, some (.row 4 ((bs.map R4.pq).map Pq.av)))]
abbrev asO (n : Nat) : AV := .agg [.lst 1 [], .ms 900 4 0 n, .lst 1 []]
theorem bV {l : Li} (hl : l.ok) (xs : List Tn) (hx : ∀ x ∈ xs, x.t.ok ∧ Qb 1000 x.t.q) (hxl : xs.length ≤ 281474976710656) {bs : List R4} (hb : ∀ b ∈ bs, b.ok) (hbl : bs.length ≤ 20) (hbad : badE l xs = 0) {F : Nat × Nat} (hF : flt l xs (asr bs) = F) :
  Con Tryz.prog 9 [l.av, .lst 4 (xs.map Tn.av), asO bs.length] (rowR bs) (.tup [bl (decide (F.1 = 0)), fltA F, errA 0]) (rowR bs) := by
 have h := c_certify_Verify hl xs hx hxl (asr_al hb hbl)
 rw [hbad, if_pos rfl, hF] at h
 refine Con.borrowF (args := [l.av, .lst 4 (xs.map Tn.av), (asr bs).av]) 900 4 _ rfl rfl rfl (fun j x' hj => ?_) rfl (fun k x h => by cases h) h
 match j, hj with
 | 0, hj => cases hj; exact .inl rfl
 | 1, hj => cases hj; exact .inl rfl
 | 2, hj => cases hj; exact .inr (by rw [fz_asm]; rfl)
theorem bS {l : Li} {bs : List R4} (hg : Good l (asr bs)) : Con Tryz.prog 23 [l.av, asO bs.length] (rowR bs) (bl true) (rowR bs) := by
 refine Con.borrowF (args := [l.av, (asr bs).av]) 900 4 _ rfl rfl rfl (fun j x' hj => ?_) rfl (fun k x h => by cases h) (c_l27_Sound hg)
 match j, hj with
 | 0, hj => cases hj; exact .inl rfl
 | 1, hj => cases hj; exact .inr (by rw [fz_asm]; rfl)
theorem lw3_1 {d : Bool} (h : cond (!true) true (!d) = false) : d = true := by cases d <;> simp_all
theorem lw3_3 {d f g : Bool} (h : cond (cond (cond (!true) true (!d)) true (!f)) true (!g) = false) : d = true ∧ f = true ∧ g = true := by cases d <;> cases f <;> cases g <;> simp_all
theorem lw3_4 {d f g s : Bool} (h : cond (cond (cond (cond (!true) true (!d)) true (!f)) true (!g)) true s = false) : d = true ∧ f = true ∧ g = true ∧ s = false := by cases d <;> cases f <;> cases g <;> cases s <;> simp_all
theorem dr_parts {l : Li} {ps : List Pse} (h : drB l ps = true) (hw : l.okw) (hps : ∀ p ∈ ps, p.wok) : l.ok ∧ (∀ p ∈ ps, p.lok) ∧ ps.length ≤ 20 ∧ l.drivers.length ≤ 30 := by
 unfold drB at h
 simp only [Bool.and_eq_true, List.all_eq_true, decide_eq_true_eq] at h
 refine ⟨li_ok h.2.2 hw, fun p hp => ps_lok (h.1 p hp) (hps p hp), h.2.1, ?_⟩
 have := h.2.2
 unfold liB at this
 simp only [Bool.and_eq_true, decide_eq_true_eq] at this
 exact this.2.2.2
theorem by_ok {r : Rt} (h : lightB [] [[r]] = true) (hw : r.wok) : r.ok ∧ Qb 96 r.q := by
 unfold lightB at h
 rw [if_pos (.inl (Nat.zero_le _))] at h
 unfold briefB at h
 rw [List.nil_append, List.all_eq_true] at h
 obtain ⟨_, h1, o1⟩ := brief_x (h _ (List.mem_cons_self ..)) (by omega) (by omega) (fun x hx => by rw [List.mem_singleton.1 hx]; exact hw)
 exact ⟨o1 _ (by simp), h1 _ (by simp [lq])⟩
theorem sgn_ne {q : Rat} (h : icmp .eql (sgnQ q) 0 = false) : q ≠ 0 := by
 intro h1; subst h1
 cases h
theorem pin_t {j : Jt} {k : Nat} (h : cond (icmp .eql j.kind 0) (cond (icmp .eql j.a (k : Int)) true (icmp .eql j.b (k : Int))) false = true) : j.kind = 0 ∧ (j.a = (k : Int) ∨ j.b = (k : Int)) := by
 simp only [icmp] at h
 cases h1 : j.kind == 0
 ·rw [h1] at h; cases h
 ·rw [h1] at h
  refine ⟨by simpa using h1, ?_⟩
  cases h2 : j.a == (k : Int)
  ·rw [h2] at h; exact .inr (by simpa using h)
  ·exact .inl (by simpa using h2)
theorem leq_t9 {m i : Nat} (h : m ≤ i) : icmp .leq (m : Int) (i : Int) = true := decide_eq_true (by omega)
theorem mod_nat {a b : Nat} : (a : Int).tmod (b : Int) = ((a % b : Nat) : Int) := by rw [Int.natCast_emod, Int.tmod_eq_emod_of_nonneg (by omega)]
theorem c_law_Moved (l : Li) (hw : l.okw) (ps : List Pse) (hps : ∀ p ∈ ps, p.wok) (hpl : ps.length ≤ 281474976710656) (bd : Nat) (hbd : bd < 256) (r : Rt) (hr : r.wok) : FnC Tryz.prog 5 [drawnA l ps, u8 bd, r.av] (bl true) := by
 have hrr : RsOk [[r]] := fun x hx => by rw [List.mem_singleton.1 hx]; exact ⟨fun y hy => by rw [List.mem_singleton.1 hy]; exact hr, by show 1 ≤ _; omega⟩
 refine gF0 Tryz.func5 ?_
 refine gc c_l28_awake ?_
 refine gcG (fun _ => (c_l26_Light l ps hw hps hpl)) ?_
 refine gcG (fun h => (by have hd := dr_parts (lw3_1 h) hw hps; exact c_l26_Fits hd.1 ps hd.2.1 hd.2.2.1)) ?_
 refine gcG (fun _ => (Con.subA (.cons (.agg (.cons (.nil _ _ _) .nil) rfl) (.cons (.refl _) .nil)) (c_l11_Light [] [[r]] rs_nil hrr (by show 0 ≤ _; omega) (by show 1 ≤ _; omega)))) ?_
 refine gcG (fun h => (c_r02_Sign r (by_ok (lw3_3 h).2.2 hr).1)) ?_
 refine gC (fun ht40 => ?_) (fun ht40 => ?_)
 ·refine gc c_l28_awake ?_
  refine gE1 ?_
  first | rfl | (simp; done)
 ·obtain ⟨g1, g2, g3, g4⟩ := lw3_4 ht40
  obtain ⟨hl, hlok, hp20, hd30⟩ := dr_parts g1 hw hps
  obtain ⟨hro, hrq⟩ := by_ok g3 hr
  have hq := sgn_ne g4
  obtain ⟨hli, hlen, hok, hfr, hjs⟩ := fit_parts g2
  have h8 := (li_parts hli).2.2.2.2
  have hlj := hl.lj
  have htx : ∀ x ∈ trn l ps, x.t.ok ∧ Qb 1000 x.t.q ∧ x.err = 0 := fun x hx => by
   obtain ⟨d, hd, rfl⟩ := List.mem_map.1 hx
   obtain ⟨i, hi, rfl⟩ := List.mem_iff_getElem.1 hd
   have hb := inB_t (dr_in hli (List.getElem?_eq_getElem hi))
   obtain ⟨p, hp⟩ := getx (l := ps) (i := l.drivers[i].body.toNat) (by omega)
   rw [getD_of hp]
   have hm := List.mem_of_getElem? hp
   exact ⟨(hlok p hm).ok.t, (hlok p hm).t.mono (by omega), (pok_parts (hok p hm)).1⟩
  have htl : (trn l ps).length = l.drivers.length := List.length_map _
  have hbad : badE l (trn l ps) = 0 := badE_0 hli htl (fun x hx => (htx x hx).2.2)
  have hrp : ∀ b ∈ ps.map Pse.r4, b.ok := fun b hb => by obtain ⟨p, hp, rfl⟩ := List.mem_map.1 hb; exact lok_r4 (hlok p hp)
  obtain ⟨bs, hbs⟩ : ∃ bs, bs = ps.map Pse.r4 := ⟨_, rfl⟩
  have hbl : bs.length = ps.length := by rw [hbs, List.length_map]
  have hbq : (ps.map posed).map Pq.av = (bs.map R4.pq).map Pq.av := by rw [hbs, r4_map]
  rw [← hbs] at hrp
  have hun : ∀ b ∈ bs, b.c * b.c + b.s * b.s = 1 := fun b hb => by rw [hbs] at hb; obtain ⟨p, _, rfl⟩ := List.mem_map.1 hb; exact unit_pose p
  have hblen : bs.length = l.bodies.length := by omega
  have hof := c_certify_OfO ps hlok hp20 hok
  rw [hbq, ← hbl] at hof
  have hv1 := bV hl (trn l ps) (fun x hx => ⟨(htx x hx).1, (htx x hx).2.1⟩) (by omega) hrp (by omega) hbad (show flt l (trn l ps) (asr bs) = (0, 0) by rw [hbs]; exact flt_fit g2)
  have hs1 := bS (asr_good hl hli hrp hblen)
  refine gt (s_callH hof (.cons (.tmp rfl) .nil) (by first | exact hH0 | exact hH1 rfl | exact hH2 rfl rfl) rfl rfl) ?_
  refine gc (c_l27_Turns hl hli ps hlen hp20 hd30) ?_
  refine gt (s_callR hv1 (.cons (.tmp rfl) (.cons (.tmp rfl) (.cons (.tmp rfl) .nil))) rfl rfl rfl) ?_
  refine gu (s_guard rfl rfl rfl (fun h => s_callR hs1 (.cons (.opt rfl (o1 h)) (.cons (.opt rfl (o1 h)) .nil)) rfl rfl rfl)) ?_
  refine gC (fun ht80 => ?_) (fun ht80 => ?_) (st1 := (7, 0))
  ·cases ht80
  ·obtain ⟨k, hk⟩ : ∃ k, k = bd % bs.length := ⟨_, rfl⟩
   have hkl : k < bs.length := by rw [hk]; exact Nat.mod_lt _ (by omega)
   obtain ⟨b, hb⟩ := getx hkl
   have hbo := hrp b (List.mem_of_getElem? hb)
   have hbx : Qb 96 b.x := by
    obtain ⟨p, hp⟩ := getx (l := ps) (i := k) (by omega)
    have h9 : bs[k]? = some p.r4 := by rw [hbs, List.getElem?_map, hp]; rfl
    rw [hb] at h9; cases h9
    exact (hlok p (List.mem_of_getElem? hp)).x
   have hgb : ((bs.map R4.pq).map Pq.av)[k]? = some b.pq.av := getmap (show (bs.map R4.pq)[k]? = some b.pq by rw [List.getElem?_map, hb]; rfl)
   have hxn := (nm_q (n := 0) (by omega) hbo.x).mono (f := 4000) (by omega)
   have hyn := (nm_q (n := 0) (by omega) hrq).mono (f := 4000) (by omega)
   have e9 : T.add 0 (dec 0 (sh 0 (b.x : Rat))) (dec 0 (sh 0 (r.q : Rat))) = (b.x + r.q : Rat) := by
    rw [show dec 0 (sh 0 (b.x : Rat)) = b.x from dec_sh 0 _, show dec 0 (sh 0 (r.q : Rat)) = r.q from dec_sh 0 _]; rfl
   have hpl9 : FnC Tryz.prog 24 [towA [], nA (sh 0 (b.x : Rat)), nA (sh 0 (r.q : Rat))] (nA (sh 0 (b.x + r.q : Rat))) := by rw [← e9]; exact c_r11_Plus tw0 hxn hyn (by omega)
   refine gv (i64_in (by omega)) ?_
   refine gs (s_remW (.tmp rfl) (.tmp rfl) (by omega) (show _ = ((k : Nat) : Int) by rw [hk]; exact mod_nat) rfl) ?_
   refine gs (s_idxMs0 (n := k) (.tmp rfl) (.tmp rfl) T31 rfl T62 rfl (by omega) (by omega) rfl) ?_
   refine gs (s_loadEptr (.tmp rfl) rfl hgb T60 rfl rfl rfl) ?_
   refine gc (c_r04_Of r hro (hrq.qs (by omega))) ?_
   refine gc hpl9 ?_
   refine gs (s_idxMs0 (n := k) (.tmp rfl) (.tmp rfl) T31 rfl T62 rfl (by omega) (by omega) rfl) ?_
   refine gs (s_stEptr (e' := (mv b r.q).pq.av) (.tmp rfl) rfl hgb (.tmp rfl) rfl rfl T60 rfl rfl rfl) ?_
   refine gD ?_ (10, 0)
   refine gW (Wk.of (sl := [(3, some (.ptr 3 0)), (9, some (.lst 4 ((trn l ps).map Tn.av))), (11, some (.ptr 11 0)), (13, some (i64 k)), (7, some (.ptr 7 0))]) (hp := [(3, some (.box (drawnA l ps).cells)), (7, some (.box (asO bs.length).cells)), (11, some (.box [i64 (0 : Nat), i64 (0 : Nat)])), (900, some (.row 4 (((moved bs k r.q).map R4.pq).map Pq.av)))]) (by repeat (first | exact SlW.nil | refine SlW.k ?_)) (.cons rfl (.refl _) (.cons rfl (.refl _) (.cons rfl (.refl _) (.cons rfl (BlkSub.of (by unfold moved; rw [List.map_set, List.map_set, getD_of hb])) .nil))))) ?_ (10, 0)
   obtain ⟨F, hF⟩ : ∃ F, flt l (trn l ps) (asr (moved bs k r.q)) = F := ⟨_, rfl⟩
   have hmo := moved_ok (q := r.q) hrp hb ⟨hbo.c, hbo.s, (hbx.add hrq).mono (by omega), hbo.y⟩
   have hv2 := bV hl (trn l ps) (fun x hx => ⟨(htx x hx).1, (htx x hx).2.1⟩) (by omega) hmo (by rw [moved_len]; omega) hbad hF
   rw [moved_len] at hv2
   refine go ?_
   refine gt (s_callR hv2 (.cons (.tmp rfl) (.cons (.tmp rfl) (.cons (.tmp rfl) .nil))) rfl rfl rfl) ?_
   refine gC (fun ht113 => ?_) (fun ht113 => ?_) (st1 := (12, 0))
   ·cases ht113
   ·refine gC (fun ht115 => ?_) (fun ht115 => ?_)
    ·have hk0 : k = 0 := by have := eql_t ht115; omega
     subst hk0
     have hF2 := flt_frame (l := l) (xs := trn l ps) hun hblen (by omega) (by rw [hbs, getD_of (show (ps.map Pse.r4)[0]? = some (ps.getD 0 default).r4 by rw [List.getElem?_map, List.getD_eq_getElem?_getD, List.getElem?_eq_getElem (by omega)]; rfl)]; exact hfr) hq
     rw [hF] at hF2
     subst hF2
     refine gs (s_guard rfl rfl rfl (fun h => s_eq2 (.opt rfl (o1 h)) (.opt rfl (o1 h)) (by kernel_rfl) rfl)) ?_
     refine gE1 ?_
     rfl
    ·have hk0 : k ≠ 0 := by have := eql_f ht115; omega
     refine gl ?_
     refine gL1 [10, 11, 13, 125, 126] [11] (fun (i : Nat) => [(127, some (i64 i))]) (fun _ => []) (fun i => i ≤ l.joints.length) (fun i => l.joints.length - i) 0 (Nat.zero_le _) ?_
     rintro i hi K1 hK1
     refine gC (fun ht128 => ?_) (fun ht128 => ?_)
     ·have hin := lss_t ht128
      obtain ⟨j, hj⟩ := getx hin
      refine gi (getmap hj) ?_
      refine gC (fun ht146 => ?_) (fun ht146 => ?_)
      ·obtain ⟨h9, h10⟩ := pin_t ht146
       obtain ⟨m, hm, hF3⟩ := flt_pin (xs := trn l ps) hli hun hblen (by rw [hbs, getD_of (show (ps.map Pse.r4)[0]? = some (ps.getD 0 default).r4 by rw [List.getElem?_map, List.getD_eq_getElem?_getD, List.getElem?_eq_getElem (by omega)]; rfl)]; exact hfr) hkl hk0 hj h9 h10 hq (by rw [hbs]; exact hjs j (List.mem_of_getElem? hj))
       rw [hF] at hF3
       subst hF3
       refine gE1 ?_
       exact congrArg bl (leq_t9 hm)
      ·refine ga (i64_add1 (by unfold maxL; omega)) ?_
       exact gK1 hK1 (i + 1) hin
     ·refine gE1 ?_
      first | rfl | (simp; done)
end Go.Lw
namespace Go.Lw
open Go.Proofs Go.Proofs.YtnjialefedaceaaGreat
open Go.ChangeShapes Go.WideShapes Go.ChangeAt Go.RowKit
set_option maxRecDepth 100000 in
theorem certifyMoved_lifted (os : Os) (started : os.Started) (H : Type) (enc : TypeId × Value → H) :
  ReturnsInHanded {} Tryz.checked os 5 .any (Rows.certifyMovedSpec.pre6 enc Tryz.prog Tryz.f5 Rows.certifyMovedRow.domain false) (Rows.certifyMovedSpec.post enc Tryz.prog Tryz.f5 false true false false) := by
 refine returnsInHanded_of_change_sized (C := Tryz.checked) own started (by kernel_rfl) Tryz.func5
  (ChangeSpec.witness6 (enc := enc) (C := Tryz.checked) false ⟨#[], #[.agg #[.string ⟨#[]⟩, .slice none 0 0, .slice none 0 0, .slice none 0 0, .slice none 0 0], .int .u8 0, .agg #[.bool false, .slice none 0 0, .slice none 0 0]], []⟩ 8 (by kernel_rfl) (by kernel_rfl) (by kernel_rfl) (by kernel_rfl)) ?_
 intro W base args ds gs before hval0 hW hcnd hwt0 _
 have hval : ∀ (j : Nat) t v, Tryz.f5.params[j]? = some t → args[j]? = some v → Value.okWide Tryz.prog W .any base t v := hval0
 have hwt : (DataW.weightsEach Tryz.prog (Tryz.f5.params.toList ++ Rows.certifyMovedSpec.plain.varTypes Tryz.prog) (ds ++ gs)).all (· ≤ reachBytes) = true := hwt0
 have hW' := hW
 obtain ⟨p, q, hA0, hV, rfl, hfz, hnd⟩ := hW
 have hA : DataW.TrodAll enc Tryz.prog W 0 (fun _ => true) true Tryz.f5.params.toList args.toList ds p := hA0
 rw [Tryz.params5] at hA hval hwt
 obtain ⟨v0, v1, v2, d0, d1, d2, p0, p1, p2, rfl, rfl, rfl, h0, h1, h2⟩ := trodAll_three hA
 obtain ⟨rfl, rfl⟩ := trodVars_none hV
 clear hA0 hval0 hwt0
 have hlt : ∀ x ∈ p0 ++ p1 ++ p2, x.block < W.heap.size := fun x hx => hW'.lt x (by simpa using hx)
 have hw0 : ∀ n ∈ d0.weights Tryz.prog 51, n ≤ reachBytes := fun n hn => by
  have := List.all_eq_true.1 hwt n (DataW.weights_mem_each (j := 0) rfl rfl n hn)
  simpa using this
 have hw1 : ∀ n ∈ d1.weights Tryz.prog 5, n ≤ reachBytes := fun n hn => by
  have := List.all_eq_true.1 hwt n (DataW.weights_mem_each (j := 1) rfl rfl n hn)
  simpa using this
 have hw2 : ∀ n ∈ d2.weights Tryz.prog 68, n ≤ reachBytes := fun n hn => by
  have := List.all_eq_true.1 hwt n (DataW.weights_mem_each (j := 2) rfl rfl n hn)
  simpa using this
 obtain ⟨x0, q0, r0⟩ := arg_agg Tryz.underlying51 op_drawn (hval 0 51 v0 rfl rfl) h0 hw0
 obtain ⟨x1, q1, r1⟩ := arg_one op_u8 (fun _ => rfl) (notAgg_int Tryz.underlying5 (hval 1 5 v1 rfl rfl)) h1 hw1
 obtain ⟨x2, q2, r2⟩ := arg_agg Tryz.underlying68 op_ratA (hval 2 68 v2 rfl rfl) h2 hw2
 have hc := FnC.calls (W := W) (vs := #[v0, v1, v2]) (c_law_Moved x0.1 q0.1 x0.2 q0.2.1 q0.2.2 x1 q1 x2 q2) rfl (fun j v x hv hx => by
  match j, hv, hx with
  | 0, hv, hx => cases hv; cases hx; exact r0
  | 1, hv, hx => cases hv; cases hx; exact r1
  | 2, hv, hx => cases hv; cases hx; exact r2)
 refine hc.mono fun e W' ⟨he, hb⟩ => ?_
 subst he
 refine ⟨_, rfl, post_of_below hW' rfl rfl (fun _ _ _ => trodAll_mk1 (shut_bool Tryz.underlying4 _)) (fun sp hsp => ?_) rfl hb (ok_one (by kernel_rfl) rfl (okWide_bool_mk Tryz.underlying4 _))⟩
 rw [Tryz.params5]
 have hs : ∀ x ∈ p0 ++ p1 ++ p2, sp x.block = true := fun x hx => hsp x (by simpa using hx)
 have g0 := arg_back (sp' := sp) (by kernel_rfl) (of_decide_eq_true (by kernel_rfl)) h0 hb (fun x hx => hlt x (by simp [hx])) (fun x hx => hs x (by simp [hx]))
 have g1 := arg_back (sp' := sp) (by kernel_rfl) (of_decide_eq_true (by kernel_rfl)) h1 hb (fun x hx => hlt x (by simp [hx])) (fun x hx => hs x (by simp [hx]))
 have g2 := arg_back (sp' := sp) (by kernel_rfl) (of_decide_eq_true (by kernel_rfl)) h2 hb (fun x hx => hlt x (by simp [hx])) (fun x hx => hs x (by simp [hx]))
 have g := trodAll_mk3 g0 g1 g2
 rw [show p0 ++ p1 ++ p2 ++ [] = p0 ++ (p1 ++ p2) from by simp]
 exact g
theorem certifyMoved_holds : Rows.CertifyMovedSaid :=
 OpenClaim.holds_of_wide 5 Tryz.f5 rfl rfl rfl rfl rfl rfl rfl ⟨rfl, rfl, rfl, rfl, rfl⟩ rfl rfl rfl rfl rfl (by kernel_rfl) Tryz.func5 (by kernel_rfl)
  (of_decide_eq_true (by kernel_rfl)) (by unfold Func.isWrapper; first | (rw [if_pos (by decide +kernel)]; kernel_rfl) | (rw [if_neg (by decide +kernel)]; exact ⟨rfl, rfl⟩))
  (fun os started H enc _ => certifyMoved_lifted os started H enc)
end Go.Lw
namespace Go.Proofs.YtnjialefedaceaaGreat
theorem certifyMoved_proved : Rows.CertifyMovedSaid := Go.Lw.certifyMoved_holds
end Go.Proofs.YtnjialefedaceaaGreat
