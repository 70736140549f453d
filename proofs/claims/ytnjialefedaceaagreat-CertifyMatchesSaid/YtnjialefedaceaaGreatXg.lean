/- CertifyMatches: for any assembly and any poses the law returns true and leaves its arguments as they were. No condition. Part 7 of 7: the statement -/
import Derived.Test.YtnjialefedaceaaGreatXf
set_option linter.unusedVariables false
namespace Go.Lw
open Go.Proofs
theorem c_certify_equalC {ts : List (List Rat)} {r e f : Nat} (tw : Tw ts r) {x : List Rat} (hx : Nm ts.length e x) {v : Rat} (hv : Qb f v) (he : e + 2 * f ≤ 900000000) :
  FnC Tryz.prog 136 [towA ts, nA x, qA v] (bl (eqT ts (dec ts.length x) (dec ts.length (sh 0 (v : Rat))))) := by
 refine con_of0 (N := 23) (rs := [.tmp 6]) Tryz.func136 rfl rfl rfl rfl ?_
 refine sr fun K1 hK1=>?_
 refine bX ?_
 refine bX ?_
 refine aC ?_
 refine hK1 _ ?_
 refine awp_seq ?_; intro K2 hK2
 refine awp_region_draw mixedP ?_
 refine lP T30 ?_
 refine mT ?_
 refine lP T68 ?_
 refine ar0 (s_call (tw_Of (hv.qs (by omega))) (.cons (.tmp rfl) .nil) rfl rfl) ?_
 refine ar0 (s_call (tw_Cmp tw hx (nm_q tw.five hv) (by omega)) (.cons (.tmp rfl) (.cons (.tmp rfl) (.cons (.tmp rfl) .nil))) rfl rfl) ?_
 refine mT ?_
 refine ar0 (s_extract (.tmp rfl) rfl rfl) ?_
 refine ar0 (s_extract (.tmp rfl) rfl rfl) ?_
 refine aT ?_
 refine aT ?_
 refine ⟨by kernel_rfl, ?_⟩
 refine hK2 _ ?_
 refine sr fun K3 hK3=>?_
 refine mT ?_
 refine ar0 (s_errEq (.tmp rfl) (by first | exact .inl rfl | exact .inr ⟨_, _, rfl⟩ | exact errV_or _) T41 rfl rfl) ?_
 refine mT ?_
 refine ar0 (s_guard rfl rfl rfl (fun h => s_move (.tmp rfl) rfl)) ?_
 refine ar0 (s_guard rfl rfl rfl (fun h => s_cmp (.opt rfl (o1 h)) (.const _) rfl rfl)) ?_
 refine ar0 (s_pick (.tmp rfl) (fun hp => .opt rfl (o1 hp)) (fun _ => .const _) rfl) ?_
 refine aT ?_
 refine hK3 _ ?_
 refine awp_ret ⟨_, (.cons (.tmp rfl) .nil), ?_⟩
 exact fin_eq1 (by exact congrArg bl (sgn_dec _))
theorem c_certify_equalE {rs : List (List Rt)} {r e f : Nat} (h0 : TR rs r) (h1 : chkE rs = 0) {x : List Rt} (hx : NR x e) (hn : numE rs.length x ≠ 0) {v : Rat} (hv : Qb f v) (he : e + 2 * f ≤ 900000000) :
  FnC Tryz.prog 136 [towR rs, nR x, qA v] (bl false) := by
 have hf := (nm_q (n := 0) (by omega) hv).rt (by omega)
 have hc := c_tower_Cmp rs r h0 x ((sh 0 (v : Rat)).map rt) e (f + f) hx hf (by omega)
 rw [nR_rt] at hc
 have h2 : chksE rs [x, (sh 0 (v : Rat)).map rt] ≠ 0 := fun h => hn ((chks_ok h).2 x (by simp))
 refine con_of0 (N := 23) (rs := [.tmp 6]) Tryz.func136 rfl rfl rfl rfl ?_
 refine sr fun K1 hK1=>?_
 refine bX ?_
 refine bX ?_
 refine aC ?_
 refine hK1 _ ?_
 refine awp_seq ?_; intro K2 hK2
 refine awp_region_draw mixedP ?_
 refine lP T30 ?_
 refine mT ?_
 refine lP T68 ?_
 refine ar0 (s_call (tw_Of (hv.qs (by omega))) (.cons (.tmp rfl) .nil) rfl rfl) ?_
 refine ar0 (s_call hc (.cons (.tmp rfl) (.cons (.tmp rfl) (.cons (.tmp rfl) .nil))) rfl rfl) ?_
 refine mT ?_
 refine ar0 (s_extract (.tmp rfl) rfl rfl) ?_
 refine ar0 (s_extract (.tmp rfl) rfl rfl) ?_
 refine aT ?_
 refine aT ?_
 refine ⟨by kernel_rfl, ?_⟩
 refine hK2 _ ?_
 refine sr fun K3 hK3=>?_
 refine mT ?_
 refine ar0 (s_errEq (.tmp rfl) (by first | exact .inl rfl | exact .inr ⟨_, _, rfl⟩ | exact errV_or _) T41 rfl rfl) ?_
 refine mT ?_
 refine ar0 (s_guard rfl rfl rfl (fun h => s_move (.tmp rfl) rfl)) ?_
 refine ar0 (s_guard rfl rfl rfl (fun h => s_cmp (.opt rfl (o1 h)) (.const _) rfl rfl)) ?_
 refine ar0 (s_pick (.tmp rfl) (fun hp => .opt rfl (o1 hp)) (fun _ => .const _) rfl) ?_
 refine aT ?_
 refine hK3 _ ?_
 refine awp_ret ⟨_, (.cons (.tmp rfl) .nil), ?_⟩
 exact fin_eq1 (by rw [isNil_err, decide_eq_false h2]; rfl)
/-- A number and a rational one. -/
def eqR (rs : List (List Rt)) (x : List Rt) (v : Rat) : Bool := decide (numE rs.length x = 0) && eqT (llq rs) (decL (llq rs) x) (dec (llq rs).length (sh 0 (v : Rat)))
theorem c_certify_equal {rs : List (List Rt)} {r e f : Nat} (h0 : TR rs r) (h1 : chkE rs = 0) {x : List Rt} (hx : NR x e) {v : Rat} (hv : Qb f v) (he : e + 2 * f ≤ 900000000) :
  FnC Tryz.prog 136 [towR rs, nR x, qA v] (bl (eqR rs x v)) := by
 unfold eqR
 by_cases hn : numE rs.length x = 0
 ·rw [decide_eq_true hn, Bool.true_and]
  obtain ⟨tw, hta⟩ := chk_tw h0 h1
  obtain ⟨e1, e2⟩ := hx.num hn
  have hl : (llq rs).length = rs.length := List.length_map _
  rw [hta, e1]
  exact c_certify_equalC tw ⟨tw.five, by rw [hl]; exact e2, hx.cb⟩ hv he
 ·rw [decide_eq_false hn, Bool.false_and]
  exact c_certify_equalE h0 h1 hx hn hv he
def stillB (rs : List (List Rt)) (b : Pl) : Bool := eqR rs b.c 1 && eqR rs b.s 0 && eqR rs b.x 0 && eqR rs b.y 0
theorem c_certify_still {rs : List (List Rt)} {r : Nat} (h0 : TR rs r) (h1 : chkE rs = 0) {b : Pl} (hb : ∀ x ∈ b.l, NR x 4000) : FnC Tryz.prog 74 [towR rs, b.av] (bl (stillB rs b)) := by
 have hq : ∀ x ∈ b.l, FnC Tryz.prog 136 [towR rs, nR x, .agg [.v (.bool false), .v (.slice none 0 0), .v (.slice none 0 0)]] (bl (eqR rs x 0)) := fun x hx =>
  Con.subA (.cons (.refl _) (.cons (.refl _) (.cons sub_q0 .nil))) (c_certify_equal h0 h1 (hb x hx) Qb.zero (by omega))
 refine con_of0 (N := 33) (rs := [.tmp 4]) Tryz.func74 rfl rfl rfl rfl ?_
 refine sr fun K1 hK1=>?_
 refine bX ?_
 refine bX ?_
 refine aC ?_
 refine hK1 _ ?_
 refine sr fun K2 hK2=>?_
 refine ar0 (s_build .nil T68 rfl rfl rfl rfl rfl) ?_
 refine al T68 ?_
 refine sP T68 ?_
 refine hK2 _ ?_
 refine awp_seq ?_; intro K3 hK3
 refine awp_region_draw mixedP ?_
 refine lP T30 ?_
 refine fP T62 ?_
 refine lP T60 ?_
 refine ar0 (s_call (c_fraction_Of 1 (by omega)) (.cons (.const _) .nil) rfl rfl) ?_
 refine ar0 (s_call (show FnC Tryz.prog 136 [towR rs, nR b.c, qA ((1 : Int) : Rat)] (bl (eqR rs b.c 1)) from c_certify_equal h0 h1 (hb b.c (by simp [Pl.l])) Qb.one (by omega)) (.cons (.tmp rfl) (.cons (.tmp rfl) (.cons (.tmp rfl) .nil))) rfl rfl) ?_
 refine mT ?_
 refine ar0 (s_guard rfl rfl rfl (fun h => s_loadPtr (.tmp rfl) rfl T30 rfl rfl rfl)) ?_
 refine ar0 (s_guard rfl rfl rfl (fun h => s_fldPtr (.tmp rfl) T62 rfl rfl rfl rfl)) ?_
 refine ar0 (s_guard rfl rfl rfl (fun h => s_loadPtr (.opt rfl (o1 h)) rfl T60 rfl rfl rfl)) ?_
 refine ar0 (s_guard rfl rfl rfl (fun h => s_loadPtr (.tmp rfl) rfl T68 rfl rfl rfl)) ?_
 refine ar0 (s_guard rfl rfl rfl (fun h => s_call (hq b.s (by simp [Pl.l])) (.cons (.opt rfl (o1 h)) (.cons (.opt rfl (o1 h)) (.cons (.opt rfl (o1 h)) .nil))) rfl rfl)) ?_
 refine ar0 (s_pick (.tmp rfl) (fun hp => .opt rfl (o1 hp)) (fun _ => .const _) rfl) ?_
 refine mT ?_
 refine ar0 (s_guard rfl rfl rfl (fun h => s_loadPtr (.tmp rfl) rfl T30 rfl rfl rfl)) ?_
 refine ar0 (s_guard rfl rfl rfl (fun h => s_fldPtr (.tmp rfl) T62 rfl rfl rfl rfl)) ?_
 refine ar0 (s_guard rfl rfl rfl (fun h => s_loadPtr (.opt rfl (o1 h)) rfl T60 rfl rfl rfl)) ?_
 refine ar0 (s_guard rfl rfl rfl (fun h => s_loadPtr (.tmp rfl) rfl T68 rfl rfl rfl)) ?_
 refine ar0 (s_guard rfl rfl rfl (fun h => s_call (hq b.x (by simp [Pl.l])) (.cons (.opt rfl (o1 h)) (.cons (.opt rfl (o1 h)) (.cons (.opt rfl (o1 h)) .nil))) rfl rfl)) ?_
 refine ar0 (s_pick (.tmp rfl) (fun hp => .opt rfl (o1 hp)) (fun _ => .const _) rfl) ?_
 refine mT ?_
 refine ar0 (s_guard rfl rfl rfl (fun h => s_loadPtr (.tmp rfl) rfl T30 rfl rfl rfl)) ?_
 refine ar0 (s_guard rfl rfl rfl (fun h => s_fldPtr (.tmp rfl) T62 rfl rfl rfl rfl)) ?_
 refine ar0 (s_guard rfl rfl rfl (fun h => s_loadPtr (.opt rfl (o1 h)) rfl T60 rfl rfl rfl)) ?_
 refine ar0 (s_guard rfl rfl rfl (fun h => s_loadPtr (.tmp rfl) rfl T68 rfl rfl rfl)) ?_
 refine ar0 (s_guard rfl rfl rfl (fun h => s_call (hq b.y (by simp [Pl.l])) (.cons (.opt rfl (o1 h)) (.cons (.opt rfl (o1 h)) (.cons (.opt rfl (o1 h)) .nil))) rfl rfl)) ?_
 refine ar0 (s_pick (.tmp rfl) (fun hp => .opt rfl (o1 hp)) (fun _ => .const _) rfl) ?_
 refine aT ?_
 refine ⟨by kernel_rfl, ?_⟩
 refine hK3 _ ?_
 refine awp_ret ⟨_, (.cons (.tmp rfl) .nil), ?_⟩
 exact fin_eq1 (by exact congrArg bl (and_cond4 _ _ _ _))
theorem c_certify_unit {rs : List (List Rt)} (h0 : TR rs 40000) (h1 : chkE rs = 0) {b : Pl} (hb : ∀ x ∈ b.l, NR x 4000) : FnC Tryz.prog 73 [towR rs, b.av] (bl (decide (chksE rs b.l = 0) && unitB (llq rs) b)) := by
 have kb := kb4
 obtain ⟨tw, hta⟩ := chk_tw h0 h1
 have h5 : rs.length ≤ 5 := by have := tw.five; rwa [List.length_map] at this
 have hll : (llq rs).length = rs.length := List.length_map _
 refine con_of0 (N := 49) (rs := [.tmp 4]) Tryz.func73 rfl rfl rfl rfl ?_
 refine sr fun K1 hK1=>?_
 refine bX ?_
 refine bX ?_
 refine aC ?_
 refine hK1 _ ?_
 refine awp_seq ?_; intro K2 hK2
 refine sr fun K3 hK3=>?_
 refine fP T62 ?_
 refine lP T60 ?_
 refine fP T62 ?_
 refine lP T60 ?_
 refine fP T62 ?_
 refine lP T60 ?_
 refine fP T62 ?_
 refine lP T60 ?_
 refine ar0 (s_buildLst rfl (.cons (.tmp rfl) (.cons (.tmp rfl) (.cons (.tmp rfl) (.cons (.tmp rfl) .nil)))) T28 rfl T60 rfl rfl rfl rfl rfl rfl rfl rfl) ?_
 refine ar0 (s_lenLst (.tmp rfl) T28 rfl rfl) ?_
 refine ar0 (s_move (.const _) rfl) ?_
 refine hK3 _ ?_
 refine awp_block ?_
 refine awp_loop (fun n_ s_ => ∃ (k : Nat), 4 - k = n_ ∧ (k ≤ 4 ∧ ∀ x ∈ b.l.take k, numE rs.length x = 0) ∧ s_ = (⟨[(2, some (.ptr 2 0)), (3, some (.ptr 3 0)), (18, some (.lst 1 (b.l.map nR))), (19, some (i64 4)), (20, some (i64 k))], [(2, some (.box (towR rs).cells)), (3, some (.box b.av.cells))]⟩ : AS))
  (n := ((fun (k : Nat) => 4 - k) (0))) (s' := ((fun (k : Nat) => (⟨[(2, some (.ptr 2 0)), (3, some (.ptr 3 0)), (18, some (.lst 1 (b.l.map nR))), (19, some (i64 4)), (20, some (i64 k))], [(2, some (.box (towR rs).cells)), (3, some (.box b.av.cells))]⟩ : AS)) (0)))
  (Wk.of (.k (.k (.k (.k (.k .nil))))) (.cons rfl (.refl _) (.cons rfl (.refl _) .nil))) ⟨0, rfl, ⟨Nat.zero_le _, fun x hx => by simp at hx⟩, rfl⟩ ?_
 intro n_ s_ hI K4 hK4
 obtain ⟨k, rfl, ⟨hk, hkj⟩, rfl⟩ := hI
 refine sr fun K5 hK5=>?_
 refine ar0 (s_cmp (.tmp rfl) (.tmp rfl) rfl rfl) ?_
 refine hK5 _ ?_
 refine awp_seq ?_; intro K6 hK6
 refine awp_cond (.tmp rfl) (fun ht21 => ?_) (fun ht21 => ?_)
 ·have hkn : k < 4 := lss_t (b := 4) ht21
  obtain ⟨x, hx⟩ : ∃ x, b.l[k]? = some x := getx (l := b.l) hkn
  have hxn := hb x (List.mem_of_getElem? hx)
  have hone : chksE rs [x] = numE rs.length x := chks_one h1
  refine awp_skip (hK6 _ ?_)
  refine awp_seq ?_; intro K7 hK7
  refine awp_block ?_
  refine sr fun K8 hK8=>?_
  refine ar0 (s_idxLst (.tmp rfl) (.tmp rfl) T28 rfl T60 rfl (by omega) (getmap hx) rfl) ?_
  refine ar0 (s_loadIptr (.tmp rfl) T60 rfl rfl rfl) ?_
  refine aT ?_
  refine hK8 _ ?_
  refine sr fun K9 hK9=>?_
  refine lP T30 ?_
  refine mT ?_
  refine ar0 (s_call (c_tower_Valid rs 40000 h0 x 4000 hxn) (.cons (.tmp rfl) (.cons (.tmp rfl) .nil)) rfl rfl) ?_
  refine ar0 (s_not (.tmp rfl) rfl) ?_
  refine hK9 _ ?_
  refine awp_cond (.tmp rfl) (fun ht27 => ?_) (fun ht27 => ?_)
  ·have h4 := of_decide_eq_false (not_t ht27)
   rw [hone] at h4
   refine sr fun K10 hK10=>?_
   refine aC ?_
   refine hK10 _ ?_
   refine awp_ret ⟨_, (.cons (.tmp rfl) .nil), ?_⟩
   exact fin_eq1 (by rw [chks_at h1 hx hkj h4, decide_eq_false h4]; rfl)
  ·have h4 := of_decide_eq_true (not_f ht27)
   rw [hone] at h4
   refine awp_skip (hK7 _ ?_)
   refine awp_region ?_
   refine ar0 (s_arithW (.tmp rfl) (.const _) rfl (i64_add1 (by unfold maxL; omega)) rfl) ?_
   refine mT ?_
   refine hK4 _ ((fun (k : Nat) => (⟨[(2, some (.ptr 2 0)), (3, some (.ptr 3 0)), (18, some (.lst 1 (b.l.map nR))), (19, some (i64 4)), (20, some (i64 k))], [(2, some (.box (towR rs).cells)), (3, some (.box b.av.cells))]⟩ : AS)) (k + 1)) ((fun (k : Nat) => 4 - k) (k + 1)) (Wk.of (.k (.k (.k (.k (.k .nil))))) (.cons rfl (.refl _) (.cons rfl (.refl _) .nil))) ⟨k + 1, rfl, ⟨hkn, fun y hy => by rw [take_succ_get hx] at hy; rcases List.mem_append.1 hy with h9 | h9; exact hkj y h9; (rw [List.mem_singleton.1 h9]; exact h4)⟩, rfl⟩ (by first | omega | (dsimp only; omega))
 ·have hkn : k = 4 := lss_end (b := 4) hk ht21
  subst hkn
  have h4 : chksE rs b.l = 0 := chks_of h1 hkj
  obtain ⟨hba, hbo⟩ := pl_canon h4 hb h5
  rw [← hll] at hbo
  have hdn := dot_nm tw hbo.c hbo.s hbo.c hbo.s
  have hdot := c_point_Dot tw hbo.c hbo.s hbo.c hbo.s (by omega)
  have heq := c_certify_equalC tw hdn Qb.one (by omega)
  rw [dec_sh] at heq
  refine awp_exit ?_
  refine hK2 _ ?_
  refine awp_weaken (Wk.of (sl := [(2, some (.ptr 2 0)), (3, some (.ptr 3 0))]) (hp := [(2, some (.box (towA (llq rs)).cells)), (3, some (.box (Pq.av ⟨lq b.c, lq b.s, lq b.x, lq b.y⟩).cells))]) (.k (.k .nil)) (.cons rfl (BlkSub.of (congrArg (fun v => Blk.box (AV.cells v)) hta)) (.cons rfl (BlkSub.of (congrArg (fun v => Blk.box (AV.cells v)) hba)) .nil))) ?_
  refine sr fun K11 hK11=>?_
  refine fP T62 ?_
  refine lP T60 ?_
  refine fP T62 ?_
  refine lP T60 ?_
  refine ar0 (s_build (.cons (.tmp rfl) (.cons (.tmp rfl) .nil)) T151 rfl rfl rfl rfl rfl) ?_
  refine al T151 ?_
  refine sP T151 ?_
  refine hK11 _ ?_
  refine sr fun K12 hK12=>?_
  refine lP T30 ?_
  refine lP T151 ?_
  refine lP T151 ?_
  refine ar0 (s_call hdot (.cons (.tmp rfl) (.cons (.tmp rfl) (.cons (.tmp rfl) .nil))) rfl rfl) ?_
  refine mT ?_
  refine ar0 (s_extract (.tmp rfl) rfl rfl) ?_
  refine ar0 (s_extract (.tmp rfl) rfl rfl) ?_
  refine aT ?_
  refine aT ?_
  refine hK12 _ ?_
  refine awp_seq ?_; intro K13 hK13
  refine awp_region_draw mixedP ?_
  refine mT ?_
  refine ar0 (s_errEq (.tmp rfl) (by first | exact .inl rfl | exact .inr ⟨_, _, rfl⟩ | exact errV_or _) T41 rfl rfl) ?_
  refine mT ?_
  refine ar0 (s_guard rfl rfl rfl (fun h => s_loadPtr (.tmp rfl) rfl T30 rfl rfl rfl)) ?_
  refine ar0 (s_guard rfl rfl rfl (fun h => s_move (.tmp rfl) rfl)) ?_
  refine ar0 (s_guard rfl rfl rfl (fun h => s_call (c_fraction_Of 1 (by omega)) (.cons (.const _) .nil) rfl rfl)) ?_
  refine ar0 (s_guard rfl rfl rfl (fun h => s_call heq (.cons (.opt rfl (o1 h)) (.cons (.opt rfl (o1 h)) (.cons (.opt rfl (o1 h)) .nil))) rfl rfl)) ?_
  refine ar0 (s_pick (.tmp rfl) (fun hp => .opt rfl (o1 hp)) (fun _ => .const _) rfl) ?_
  refine aT ?_
  refine ⟨by kernel_rfl, ?_⟩
  refine hK13 _ ?_
  refine awp_ret ⟨_, (.cons (.tmp rfl) .nil), ?_⟩
  exact fin_eq1 (by rw [h4]; rfl)
theorem c_certify_turned {ts : List (List Rat)} (tw : Tw ts 40000) {b : Pl} (hb : Pq.ok ts.length 4000 ⟨lq b.c, lq b.s, lq b.x, lq b.y⟩) {x : Tn} (hx : x.t.ok) (he : x.err = 0) (hq : Qb 1000 x.t.q) :
  FnC Tryz.prog 80 [towA ts, Pq.av ⟨lq b.c, lq b.s, lq b.x, lq b.y⟩, x.av] (bl (turnB ts b x)) := by
 have hc := c_turn_Cos x hx hq (by omega)
 rw [if_pos he, he] at hc
 have hs := c_turn_Sin x hx hq (by omega)
 rw [if_pos he, he] at hs
 refine con_of0 (N := 38) (rs := [.tmp 6]) Tryz.func80 rfl rfl rfl rfl ?_
 refine sr fun K1 hK1=>?_
 refine bX ?_
 refine bX ?_
 refine bX ?_
 refine aC ?_
 refine hK1 _ ?_
 refine sr fun K2 hK2=>?_
 refine lP T81 ?_
 refine ar0 (s_call hc (.cons (.tmp rfl) .nil) rfl rfl) ?_
 refine mT ?_
 refine ar0 (s_extract (.tmp rfl) rfl rfl) ?_
 refine ar0 (s_extract (.tmp rfl) rfl rfl) ?_
 refine al T68 ?_
 refine sP T68 ?_
 refine aT ?_
 refine hK2 _ ?_
 refine awp_seq ?_; intro K3 hK3
 refine sr fun K4 hK4=>?_
 refine mT ?_
 refine ar0 (s_errNe (.tmp rfl) (by first | exact .inl rfl | exact .inr ⟨_, _, rfl⟩ | exact errV_or _) T41 rfl rfl) ?_
 refine hK4 _ ?_
 refine awp_cond (.tmp rfl) (fun ht16 => ?_) (fun ht16 => ?_)
 ·cases ht16
 ·skip
  refine awp_skip (hK3 _ ?_)
  refine sr fun K5 hK5=>?_
  refine lP T81 ?_
  refine ar0 (s_call hs (.cons (.tmp rfl) .nil) rfl rfl) ?_
  refine mT ?_
  refine ar0 (s_extract (.tmp rfl) rfl rfl) ?_
  refine ar0 (s_extract (.tmp rfl) rfl rfl) ?_
  refine al T68 ?_
  refine sP T68 ?_
  refine aT ?_
  refine hK5 _ ?_
  refine sr fun K6 hK6=>?_
  refine mT ?_
  refine ar0 (s_errEq (.tmp rfl) (by first | exact .inl rfl | exact .inr ⟨_, _, rfl⟩ | exact errV_or _) T41 rfl rfl) ?_
  refine mT ?_
  refine ar0 (s_guard rfl rfl rfl (fun h => s_loadPtr (.tmp rfl) rfl T30 rfl rfl rfl)) ?_
  refine ar0 (s_guard rfl rfl rfl (fun h => s_fldPtr (.tmp rfl) T62 rfl rfl rfl rfl)) ?_
  refine ar0 (s_guard rfl rfl rfl (fun h => s_loadPtr (.opt rfl (o1 h)) rfl T60 rfl rfl rfl)) ?_
  refine ar0 (s_guard rfl rfl rfl (fun h => s_loadPtr (.tmp rfl) rfl T68 rfl rfl rfl)) ?_
  refine ar0 (s_guard rfl rfl rfl (fun h => s_call (c_certify_equalC tw hb.c (qb_cos hq) (by omega)) (.cons (.opt rfl (o1 h)) (.cons (.opt rfl (o1 h)) (.cons (.opt rfl (o1 h)) .nil))) rfl rfl)) ?_
  refine ar0 (s_pick (.tmp rfl) (fun hp => .opt rfl (o1 hp)) (fun _ => .const _) rfl) ?_
  refine mT ?_
  refine ar0 (s_guard rfl rfl rfl (fun h => s_loadPtr (.tmp rfl) rfl T30 rfl rfl rfl)) ?_
  refine ar0 (s_guard rfl rfl rfl (fun h => s_fldPtr (.tmp rfl) T62 rfl rfl rfl rfl)) ?_
  refine ar0 (s_guard rfl rfl rfl (fun h => s_loadPtr (.opt rfl (o1 h)) rfl T60 rfl rfl rfl)) ?_
  refine ar0 (s_guard rfl rfl rfl (fun h => s_loadPtr (.tmp rfl) rfl T68 rfl rfl rfl)) ?_
  refine ar0 (s_guard rfl rfl rfl (fun h => s_call (c_certify_equalC tw hb.s (qb_sin hq) (by omega)) (.cons (.opt rfl (o1 h)) (.cons (.opt rfl (o1 h)) (.cons (.opt rfl (o1 h)) .nil))) rfl rfl)) ?_
  refine ar0 (s_pick (.tmp rfl) (fun hp => .opt rfl (o1 hp)) (fun _ => .const _) rfl) ?_
  refine aT ?_
  refine hK6 _ ?_
  refine awp_ret ⟨_, (.cons (.tmp rfl) .nil), ?_⟩
  exact fin_eq1 (by exact congrArg bl (and_cond _ _))
theorem c_certify_at {l : Li} {a : As} (hg : Good l a) {body pt : Int} (h1 : inB body l.bodies.length = true) (h2 : inB pt (ptsAt l body).length = true) :
  FnC Tryz.prog 138 [l.av, a.av, i64 body, i64 pt] (.tup [ptA (sh (llq a.rs).length (ptAt l a body pt).1) (sh (llq a.rs).length (ptAt l a body pt).2), .v .nilIface]) := by
 obtain ⟨n, k, bd, m, b, hp⟩ := hg.at h1 h2
 obtain ⟨tw, hta, h5, hll⟩ := hg.tw
 have kb := kb4
 obtain ⟨hba, hbo⟩ := hg.pl hp.gb
 have hlb := hg.lo.lb
 have hn := hp.hn
 have hk := hp.hk
 rw [hp.eq]
 subst hn
 subst hk
 have hat : FnC Tryz.prog 192 [towR a.rs, b.av, m.x.av, m.y.av] (.tup [ptA (sh (llq a.rs).length (atP (llq a.rs) b m).1) (sh (llq a.rs).length (atP (llq a.rs) b m).2), .v .nilIface]) := by
  rw [hta, hba, hp.mx, hp.my]
  exact c_point_At tw hbo.c hbo.s hbo.x hbo.y hp.qx hp.qy (by omega)
 refine con_of0 (N := 34) (rs := [.cell 8 151, .tmp 9]) Tryz.func138 rfl rfl rfl rfl ?_
 refine sr fun K1 hK1=>?_
 refine bX ?_
 refine bX ?_
 refine al T151 ?_
 refine aC ?_
 refine hK1 _ ?_
 refine sr fun K2 hK2=>?_
 refine fP T26 ?_
 refine lP T22 ?_
 refine mT ?_
 refine ar0 (s_idxLst (.tmp rfl) (.tmp rfl) T22 rfl T89 rfl (by omega) (getmap hp.gbd) rfl) ?_
 refine ar0 (s_fldIptr (.tmp rfl) T89 rfl rfl rfl rfl) ?_
 refine ar0 (s_loadIptr (.tmp rfl) T87 rfl rfl rfl) ?_
 refine mT ?_
 refine ar0 (s_idxLst (.tmp rfl) (.tmp rfl) T87 rfl T91 rfl (by omega) (getmap hp.gm) rfl) ?_
 refine ar0 (s_loadIptr (.tmp rfl) T91 rfl rfl rfl) ?_
 refine al T91 ?_
 refine sP T91 ?_
 refine hK2 _ ?_
 refine awp_seq ?_; intro K3 hK3
 refine awp_region_draw mixedP ?_
 refine fP T34 ?_
 refine lP T30 ?_
 refine fP T34 ?_
 refine lP T31 ?_
 refine mT ?_
 refine ar0 (s_idxLst (.tmp rfl) (.tmp rfl) T31 rfl T62 rfl (by omega) (getmap hp.gb) rfl) ?_
 refine ar0 (s_loadIptr (.tmp rfl) T62 rfl rfl rfl) ?_
 refine fP T91 ?_
 refine lP T68 ?_
 refine fP T91 ?_
 refine lP T68 ?_
 refine ar0 (s_call hat (.cons (.tmp rfl) (.cons (.tmp rfl) (.cons (.tmp rfl) (.cons (.tmp rfl) .nil)))) rfl rfl) ?_
 refine ar0 (s_extract (.tmp rfl) rfl rfl) ?_
 refine ar0 (s_extract (.tmp rfl) rfl rfl) ?_
 refine sP T151 ?_
 refine aT ?_
 refine ⟨by kernel_rfl, ?_⟩
 refine hK3 _ ?_
 refine awp_ret ⟨_, (.cons (.cell rfl rfl T151 rfl rfl) (.cons (.tmp rfl) .nil)), ?_⟩
 exact fin_eq (by first | rfl | (simp; done))
theorem at_nms {l : Li} {a : As} (hg : Good l a) {body pt : Int} (h1 : inB body l.bodies.length = true) (h2 : inB pt (ptsAt l body).length = true) :
  Nm (llq a.rs).length 6000000 (sh (llq a.rs).length (ptAt l a body pt).1) ∧ Nm (llq a.rs).length 6000000 (sh (llq a.rs).length (ptAt l a body pt).2) := by
 obtain ⟨n, k, bd, m, b, hp⟩ := hg.at h1 h2
 obtain ⟨tw, hta, h5, hll⟩ := hg.tw
 have kb := kb4
 rw [hp.eq]
 have h := at_nm tw (hg.pl hp.gb).2 hp.qx hp.qy
 exact ⟨h.1.mono (by omega), h.2.mono (by omega)⟩
theorem c_certify_holds {l : Li} {a : As} (hg : Good l a) {i : Nat} {j : Jt} (hj : l.joints[i]? = some j) : FnC Tryz.prog 77 [l.av, a.av, j.av] (bl (jointB l a j)) := by
 obtain ⟨tw, hta, h5, hll⟩ := hg.tw
 have kb := kb4
 obtain ⟨i1, i2, i3, i4, i5⟩ := jt_in hg.li hj
 have np := at_nms hg i1 i3
 have nq := at_nms hg i2 i4
 have hsame := c_point_Same tw np.1 np.2 nq.1 nq.2 (by omega)
 simp only [dec_sh] at hsame
 rw [← hta] at hsame
 refine con_of0 (N := 81) (rs := [.tmp 6]) Tryz.func77 rfl rfl rfl rfl ?_
 refine sr fun K1 hK1=>?_
 refine bX ?_
 refine bX ?_
 refine bX ?_
 refine aC ?_
 refine hK1 _ ?_
 refine sr fun K2 hK2=>?_
 refine lP T26 ?_
 refine lP T34 ?_
 refine fP T76 ?_
 refine lP T3 ?_
 refine fP T76 ?_
 refine lP T3 ?_
 refine ar0 (s_call (c_certify_at hg i1 i3) (.cons (.tmp rfl) (.cons (.tmp rfl) (.cons (.tmp rfl) (.cons (.tmp rfl) .nil)))) rfl rfl) ?_
 refine mT ?_
 refine ar0 (s_extract (.tmp rfl) rfl rfl) ?_
 refine ar0 (s_extract (.tmp rfl) rfl rfl) ?_
 refine al T151 ?_
 refine sP T151 ?_
 refine aT ?_
 refine hK2 _ ?_
 refine awp_seq ?_; intro K3 hK3
 refine sr fun K4 hK4=>?_
 refine mT ?_
 refine ar0 (s_errNe (.tmp rfl) (by first | exact .inl rfl | exact .inr ⟨_, _, rfl⟩ | exact errV_or _) T41 rfl rfl) ?_
 refine hK4 _ ?_
 refine awp_cond (.tmp rfl) (fun ht25 => ?_) (fun ht25 => ?_)
 ·cases ht25
 ·skip
  refine awp_skip (hK3 _ ?_)
  refine sr fun K5 hK5=>?_
  refine lP T26 ?_
  refine lP T34 ?_
  refine fP T76 ?_
  refine lP T3 ?_
  refine fP T76 ?_
  refine lP T3 ?_
  refine ar0 (s_call (c_certify_at hg i2 i4) (.cons (.tmp rfl) (.cons (.tmp rfl) (.cons (.tmp rfl) (.cons (.tmp rfl) .nil)))) rfl rfl) ?_
  refine mT ?_
  refine ar0 (s_extract (.tmp rfl) rfl rfl) ?_
  refine ar0 (s_extract (.tmp rfl) rfl rfl) ?_
  refine al T151 ?_
  refine sP T151 ?_
  refine aT ?_
  refine hK5 _ ?_
  refine awp_seq ?_; intro K6 hK6
  refine sr fun K7 hK7=>?_
  refine mT ?_
  refine ar0 (s_errNe (.tmp rfl) (by first | exact .inl rfl | exact .inr ⟨_, _, rfl⟩ | exact errV_or _) T41 rfl rfl) ?_
  refine hK7 _ ?_
  refine awp_cond (.tmp rfl) (fun ht37 => ?_) (fun ht37 => ?_)
  ·cases ht37
  ·skip
   refine awp_skip (hK6 _ ?_)
   refine awp_seq ?_; intro K8 hK8
   refine sr fun K9 hK9=>?_
   refine fP T76 ?_
   refine lP T3 ?_
   refine ar0 (s_cmp (.tmp rfl) (.const _) rfl rfl) ?_
   refine hK9 _ ?_
   refine awp_cond (.tmp rfl) (fun ht40 => ?_) (fun ht40 => ?_)
   ·have hk : j.kind = 0 := eql_t ht40
    refine sr fun K10 hK10=>?_
    refine fP T34 ?_
    refine lP T30 ?_
    refine lP T151 ?_
    refine lP T151 ?_
    refine ar0 (s_call hsame (.cons (.tmp rfl) (.cons (.tmp rfl) (.cons (.tmp rfl) .nil))) rfl rfl) ?_
    refine mT ?_
    refine ar0 (s_extract (.tmp rfl) rfl rfl) ?_
    refine ar0 (s_extract (.tmp rfl) rfl rfl) ?_
    refine aT ?_
    refine aT ?_
    refine hK10 _ ?_
    refine sr fun K11 hK11=>?_
    refine mT ?_
    refine ar0 (s_errEq (.tmp rfl) (by first | exact .inl rfl | exact .inr ⟨_, _, rfl⟩ | exact errV_or _) T41 rfl rfl) ?_
    refine mT ?_
    refine ar0 (s_guard rfl rfl rfl (fun h => s_move (.tmp rfl) rfl)) ?_
    refine ar0 (s_pick (.tmp rfl) (fun hp => .opt rfl (o1 hp)) (fun _ => .const _) rfl) ?_
    refine aT ?_
    refine hK11 _ ?_
    refine awp_ret ⟨_, (.cons (.tmp rfl) .nil), ?_⟩
    exact fin_eq1 (by unfold jointB; rw [if_pos hk]; exact congrArg bl (Bool.decide_and _ _))
   ·have hk : j.kind ≠ 0 := eql_f ht40
    have nr := at_nms hg i2 (i5 hk)
    have hor := c_point_Orient tw nq.1 nq.2 nr.1 nr.2 np.1 np.2 (by omega)
    simp only [dec_sh] at hor
    rw [← hta] at hor
    refine awp_skip (hK8 _ ?_)
    refine sr fun K12 hK12=>?_
    refine lP T26 ?_
    refine lP T34 ?_
    refine fP T76 ?_
    refine lP T3 ?_
    refine fP T76 ?_
    refine lP T3 ?_
    refine ar0 (s_call (c_certify_at hg i2 (i5 hk)) (.cons (.tmp rfl) (.cons (.tmp rfl) (.cons (.tmp rfl) (.cons (.tmp rfl) .nil)))) rfl rfl) ?_
    refine mT ?_
    refine ar0 (s_extract (.tmp rfl) rfl rfl) ?_
    refine ar0 (s_extract (.tmp rfl) rfl rfl) ?_
    refine al T151 ?_
    refine sP T151 ?_
    refine aT ?_
    refine hK12 _ ?_
    refine awp_seq ?_; intro K13 hK13
    refine sr fun K14 hK14=>?_
    refine mT ?_
    refine ar0 (s_errNe (.tmp rfl) (by first | exact .inl rfl | exact .inr ⟨_, _, rfl⟩ | exact errV_or _) T41 rfl rfl) ?_
    refine hK14 _ ?_
    refine awp_cond (.tmp rfl) (fun ht65 => ?_) (fun ht65 => ?_)
    ·cases ht65
    ·skip
     refine awp_skip (hK13 _ ?_)
     refine sr fun K15 hK15=>?_
     refine fP T34 ?_
     refine lP T30 ?_
     refine lP T151 ?_
     refine lP T151 ?_
     refine lP T151 ?_
     refine ar0 (s_call hor (.cons (.tmp rfl) (.cons (.tmp rfl) (.cons (.tmp rfl) (.cons (.tmp rfl) .nil)))) rfl rfl) ?_
     refine mT ?_
     refine ar0 (s_extract (.tmp rfl) rfl rfl) ?_
     refine ar0 (s_extract (.tmp rfl) rfl rfl) ?_
     refine aT ?_
     refine aT ?_
     refine hK15 _ ?_
     refine sr fun K16 hK16=>?_
     refine mT ?_
     refine ar0 (s_errEq (.tmp rfl) (by first | exact .inl rfl | exact .inr ⟨_, _, rfl⟩ | exact errV_or _) T41 rfl rfl) ?_
     refine mT ?_
     refine ar0 (s_guard rfl rfl rfl (fun h => s_move (.tmp rfl) rfl)) ?_
     refine ar0 (s_guard rfl rfl rfl (fun h => s_cmp (.opt rfl (o1 h)) (.const _) rfl rfl)) ?_
     refine ar0 (s_pick (.tmp rfl) (fun hp => .opt rfl (o1 hp)) (fun _ => .const _) rfl) ?_
     refine aT ?_
     refine hK16 _ ?_
     refine awp_ret ⟨_, (.cons (.tmp rfl) .nil), ?_⟩
     exact fin_eq1 (by unfold jointB; rw [if_neg hk]; exact congrArg bl (sgn_dec _))
end Go.Lw
namespace Go.Lw
open Go.Proofs
end Go.Lw
namespace Go.Lw
open Go.Proofs
theorem c_first_Placed (bs : List Pl) (hl : bs.length ≤ 281474976710656) (f : FuncId) (c : List AV) (ok : Nat → Bool)
  (hf : ∀ (i : Nat) (b : Pl), bs[i]? = some b → (∀ j, j < i → ok j = true) → FnC Tryz.prog f ([i64 i, b.av] ++ [.iptr c]) (bl (!ok i))) :
  FnC Tryz.prog 71 [.lst 4 (bs.map Pl.av), .fn f [.iptr c]] (i64 (ixI (firstB bs.length ok))) := by
 refine con_of0 (N := 20) (rs := [.tmp 4]) Tryz.func71 rfl rfl rfl rfl ?_
 refine sr fun K1 hK1=>?_
 refine aC ?_
 refine hK1 _ ?_
 refine awp_seq ?_; intro K2 hK2
 refine sr fun K3 hK3=>?_
 refine mT ?_
 refine ar0 (s_lenMap (.tmp rfl) T31 rfl rfl) ?_
 refine ar0 (s_move (.const _) rfl) ?_
 refine hK3 _ ?_
 refine awp_block ?_
 refine awp_loop (fun n_ s_ => ∃ (i : Nat), bs.length - i = n_ ∧ (i ≤ bs.length ∧ ∀ j, j < i → ok j = true) ∧ s_ = (⟨[(1, some (.fn f [.iptr c])), (7, some (.lst 4 (bs.map Pl.av))), (8, some (i64 bs.length)), (9, some (i64 i))], []⟩ : AS))
  (n := ((fun (i : Nat) => bs.length - i) (0))) (s' := ((fun (i : Nat) => (⟨[(1, some (.fn f [.iptr c])), (7, some (.lst 4 (bs.map Pl.av))), (8, some (i64 bs.length)), (9, some (i64 i))], []⟩ : AS)) (0)))
  (Wk.of (.k (.k (.k (.k .nil)))) .nil) ⟨0, rfl, ⟨Nat.zero_le _, fun j h => by omega⟩, rfl⟩ ?_
 intro n_ s_ hI K4 hK4
 obtain ⟨i, rfl, ⟨hi, hj⟩, rfl⟩ := hI
 refine sr fun K5 hK5=>?_
 refine ar0 (s_cmp (.tmp rfl) (.tmp rfl) rfl rfl) ?_
 refine hK5 _ ?_
 refine awp_seq ?_; intro K6 hK6
 refine awp_cond (.tmp rfl) (fun ht10 => ?_) (fun ht10 => ?_)
 ·have hin := lss_t ht10
  obtain ⟨b, hb⟩ := getx hin
  refine awp_skip (hK6 _ ?_)
  refine awp_seq ?_; intro K7 hK7
  refine awp_block ?_
  refine sr fun K8 hK8=>?_
  refine mT ?_
  refine ar0 (s_idxLst (.tmp rfl) (.tmp rfl) T31 rfl T62 rfl (by omega) (getmap hb) rfl) ?_
  refine ar0 (s_loadIptr (.tmp rfl) T62 rfl rfl rfl) ?_
  refine al T62 ?_
  refine aT ?_
  refine sP T62 ?_
  refine hK8 _ ?_
  refine sr fun K9 hK9=>?_
  refine mT ?_
  refine mT ?_
  refine lP T62 ?_
  refine ar (s_callV (.tmp rfl) (hf i b hb hj) (.cons (.tmp rfl) (.cons (.tmp rfl) .nil)) (by first | exact hH0 | exact hH1 rfl | exact hH2 rfl rfl) rfl rfl) (newOk_of rfl) ?_
  refine hK9 _ ?_
  refine awp_cond (.tmp rfl) (fun ht17 => ?_) (fun ht17 => ?_)
  ·have h2 := not_t ht17
   refine sr fun K10 hK10=>?_
   refine mT ?_
   refine aT ?_
   refine hK10 _ ?_
   refine awp_ret ⟨_, (.cons (.tmp rfl) .nil), ?_⟩
   exact fin_eq1 (by rw [firstB_at hin hj h2]; rfl)
  ·have h2 := not_f ht17
   refine awp_skip (hK7 _ ?_)
   refine awp_region ?_
   refine ar0 (s_arithW (.tmp rfl) (.const _) rfl (i64_add1 (by unfold maxL; omega)) rfl) ?_
   refine mT ?_
   refine hK4 _ ((fun (i : Nat) => (⟨[(1, some (.fn f [.iptr c])), (7, some (.lst 4 (bs.map Pl.av))), (8, some (i64 bs.length)), (9, some (i64 i))], []⟩ : AS)) (i + 1)) ((fun (i : Nat) => bs.length - i) (i + 1)) (Wk.of (.k (.k (.k (.k .nil)))) .nil) ⟨i + 1, rfl, ⟨hin, fun j h9 => by rcases Nat.lt_or_ge j i with g | g; exact hj j g; (have : j = i := by omega); subst this; exact h2⟩, rfl⟩ (by first | omega | (dsimp only; omega))
 ·have hin := lss_end hi ht10
  subst hin
  refine awp_exit ?_
  refine hK2 _ ?_
  refine sr fun K11 hK11=>?_
  refine aC ?_
  refine hK11 _ ?_
  refine awp_ret ⟨_, (.cons (.tmp rfl) .nil), ?_⟩
  exact fin_eq1 (by rw [firstB_all hj]; rfl)
theorem c_first_Joint (bs : List Jt) (hl : bs.length ≤ 281474976710656) (f : FuncId) (c d : List AV) (ok : Nat → Bool)
  (hf : ∀ (i : Nat) (b : Jt), bs[i]? = some b → (∀ j, j < i → ok j = true) → FnC Tryz.prog f ([i64 i, b.av] ++ [.iptr c, .iptr d]) (bl (!ok i))) :
  FnC Tryz.prog 75 [.lst 7 (bs.map Jt.av), .fn f [.iptr c, .iptr d]] (i64 (ixI (firstB bs.length ok))) := by
 refine con_of0 (N := 20) (rs := [.tmp 4]) Tryz.func75 rfl rfl rfl rfl ?_
 refine sr fun K1 hK1=>?_
 refine aC ?_
 refine hK1 _ ?_
 refine awp_seq ?_; intro K2 hK2
 refine sr fun K3 hK3=>?_
 refine mT ?_
 refine ar0 (s_lenMap (.tmp rfl) T23 rfl rfl) ?_
 refine ar0 (s_move (.const _) rfl) ?_
 refine hK3 _ ?_
 refine awp_block ?_
 refine awp_loop (fun n_ s_ => ∃ (i : Nat), bs.length - i = n_ ∧ (i ≤ bs.length ∧ ∀ j, j < i → ok j = true) ∧ s_ = (⟨[(1, some (.fn f [.iptr c, .iptr d])), (7, some (.lst 7 (bs.map Jt.av))), (8, some (i64 bs.length)), (9, some (i64 i))], []⟩ : AS))
  (n := ((fun (i : Nat) => bs.length - i) (0))) (s' := ((fun (i : Nat) => (⟨[(1, some (.fn f [.iptr c, .iptr d])), (7, some (.lst 7 (bs.map Jt.av))), (8, some (i64 bs.length)), (9, some (i64 i))], []⟩ : AS)) (0)))
  (Wk.of (.k (.k (.k (.k .nil)))) .nil) ⟨0, rfl, ⟨Nat.zero_le _, fun j h => by omega⟩, rfl⟩ ?_
 intro n_ s_ hI K4 hK4
 obtain ⟨i, rfl, ⟨hi, hj⟩, rfl⟩ := hI
 refine sr fun K5 hK5=>?_
 refine ar0 (s_cmp (.tmp rfl) (.tmp rfl) rfl rfl) ?_
 refine hK5 _ ?_
 refine awp_seq ?_; intro K6 hK6
 refine awp_cond (.tmp rfl) (fun ht10 => ?_) (fun ht10 => ?_)
 ·have hin := lss_t ht10
  obtain ⟨b, hb⟩ := getx hin
  refine awp_skip (hK6 _ ?_)
  refine awp_seq ?_; intro K7 hK7
  refine awp_block ?_
  refine sr fun K8 hK8=>?_
  refine mT ?_
  refine ar0 (s_idxLst (.tmp rfl) (.tmp rfl) T23 rfl T76 rfl (by omega) (getmap hb) rfl) ?_
  refine ar0 (s_loadIptr (.tmp rfl) T76 rfl rfl rfl) ?_
  refine al T76 ?_
  refine aT ?_
  refine sP T76 ?_
  refine hK8 _ ?_
  refine sr fun K9 hK9=>?_
  refine mT ?_
  refine mT ?_
  refine lP T76 ?_
  refine ar (s_callV (.tmp rfl) (hf i b hb hj) (.cons (.tmp rfl) (.cons (.tmp rfl) .nil)) (by first | exact hH0 | exact hH1 rfl | exact hH2 rfl rfl) rfl rfl) (newOk_of rfl) ?_
  refine hK9 _ ?_
  refine awp_cond (.tmp rfl) (fun ht17 => ?_) (fun ht17 => ?_)
  ·have h2 := not_t ht17
   refine sr fun K10 hK10=>?_
   refine mT ?_
   refine aT ?_
   refine hK10 _ ?_
   refine awp_ret ⟨_, (.cons (.tmp rfl) .nil), ?_⟩
   exact fin_eq1 (by rw [firstB_at hin hj h2]; rfl)
  ·have h2 := not_f ht17
   refine awp_skip (hK7 _ ?_)
   refine awp_region ?_
   refine ar0 (s_arithW (.tmp rfl) (.const _) rfl (i64_add1 (by unfold maxL; omega)) rfl) ?_
   refine mT ?_
   refine hK4 _ ((fun (i : Nat) => (⟨[(1, some (.fn f [.iptr c, .iptr d])), (7, some (.lst 7 (bs.map Jt.av))), (8, some (i64 bs.length)), (9, some (i64 i))], []⟩ : AS)) (i + 1)) ((fun (i : Nat) => bs.length - i) (i + 1)) (Wk.of (.k (.k (.k (.k .nil)))) .nil) ⟨i + 1, rfl, ⟨hin, fun j h9 => by rcases Nat.lt_or_ge j i with g | g; exact hj j g; (have : j = i := by omega); subst this; exact h2⟩, rfl⟩ (by first | omega | (dsimp only; omega))
 ·have hin := lss_end hi ht10
  subst hin
  refine awp_exit ?_
  refine hK2 _ ?_
  refine sr fun K11 hK11=>?_
  refine aC ?_
  refine hK11 _ ?_
  refine awp_ret ⟨_, (.cons (.tmp rfl) .nil), ?_⟩
  exact fin_eq1 (by rw [firstB_all hj]; rfl)
theorem c_first_Driver (bs : List Dr) (hl : bs.length ≤ 281474976710656) (f : FuncId) (c d : List AV) (ok : Nat → Bool)
  (hf : ∀ (i : Nat) (b : Dr), bs[i]? = some b → (∀ j, j < i → ok j = true) → FnC Tryz.prog f ([i64 i, b.av] ++ [.iptr c, .iptr d]) (bl (!ok i))) :
  FnC Tryz.prog 78 [.lst 2 (bs.map Dr.av), .fn f [.iptr c, .iptr d]] (i64 (ixI (firstB bs.length ok))) := by
 refine con_of0 (N := 20) (rs := [.tmp 4]) Tryz.func78 rfl rfl rfl rfl ?_
 refine sr fun K1 hK1=>?_
 refine aC ?_
 refine hK1 _ ?_
 refine awp_seq ?_; intro K2 hK2
 refine sr fun K3 hK3=>?_
 refine mT ?_
 refine ar0 (s_lenMap (.tmp rfl) T24 rfl rfl) ?_
 refine ar0 (s_move (.const _) rfl) ?_
 refine hK3 _ ?_
 refine awp_block ?_
 refine awp_loop (fun n_ s_ => ∃ (i : Nat), bs.length - i = n_ ∧ (i ≤ bs.length ∧ ∀ j, j < i → ok j = true) ∧ s_ = (⟨[(1, some (.fn f [.iptr c, .iptr d])), (7, some (.lst 2 (bs.map Dr.av))), (8, some (i64 bs.length)), (9, some (i64 i))], []⟩ : AS))
  (n := ((fun (i : Nat) => bs.length - i) (0))) (s' := ((fun (i : Nat) => (⟨[(1, some (.fn f [.iptr c, .iptr d])), (7, some (.lst 2 (bs.map Dr.av))), (8, some (i64 bs.length)), (9, some (i64 i))], []⟩ : AS)) (0)))
  (Wk.of (.k (.k (.k (.k .nil)))) .nil) ⟨0, rfl, ⟨Nat.zero_le _, fun j h => by omega⟩, rfl⟩ ?_
 intro n_ s_ hI K4 hK4
 obtain ⟨i, rfl, ⟨hi, hj⟩, rfl⟩ := hI
 refine sr fun K5 hK5=>?_
 refine ar0 (s_cmp (.tmp rfl) (.tmp rfl) rfl rfl) ?_
 refine hK5 _ ?_
 refine awp_seq ?_; intro K6 hK6
 refine awp_cond (.tmp rfl) (fun ht10 => ?_) (fun ht10 => ?_)
 ·have hin := lss_t ht10
  obtain ⟨b, hb⟩ := getx hin
  refine awp_skip (hK6 _ ?_)
  refine awp_seq ?_; intro K7 hK7
  refine awp_block ?_
  refine sr fun K8 hK8=>?_
  refine mT ?_
  refine ar0 (s_idxLst (.tmp rfl) (.tmp rfl) T24 rfl T105 rfl (by omega) (getmap hb) rfl) ?_
  refine ar0 (s_loadIptr (.tmp rfl) T105 rfl rfl rfl) ?_
  refine al T105 ?_
  refine aT ?_
  refine sP T105 ?_
  refine hK8 _ ?_
  refine sr fun K9 hK9=>?_
  refine mT ?_
  refine mT ?_
  refine lP T105 ?_
  refine ar (s_callV (.tmp rfl) (hf i b hb hj) (.cons (.tmp rfl) (.cons (.tmp rfl) .nil)) (by first | exact hH0 | exact hH1 rfl | exact hH2 rfl rfl) rfl rfl) (newOk_of rfl) ?_
  refine hK9 _ ?_
  refine awp_cond (.tmp rfl) (fun ht17 => ?_) (fun ht17 => ?_)
  ·have h2 := not_t ht17
   refine sr fun K10 hK10=>?_
   refine mT ?_
   refine aT ?_
   refine hK10 _ ?_
   refine awp_ret ⟨_, (.cons (.tmp rfl) .nil), ?_⟩
   exact fin_eq1 (by rw [firstB_at hin hj h2]; rfl)
  ·have h2 := not_f ht17
   refine awp_skip (hK7 _ ?_)
   refine awp_region ?_
   refine ar0 (s_arithW (.tmp rfl) (.const _) rfl (i64_add1 (by unfold maxL; omega)) rfl) ?_
   refine mT ?_
   refine hK4 _ ((fun (i : Nat) => (⟨[(1, some (.fn f [.iptr c, .iptr d])), (7, some (.lst 2 (bs.map Dr.av))), (8, some (i64 bs.length)), (9, some (i64 i))], []⟩ : AS)) (i + 1)) ((fun (i : Nat) => bs.length - i) (i + 1)) (Wk.of (.k (.k (.k (.k .nil)))) .nil) ⟨i + 1, rfl, ⟨hin, fun j h9 => by rcases Nat.lt_or_ge j i with g | g; exact hj j g; (have : j = i := by omega); subst this; exact h2⟩, rfl⟩ (by first | omega | (dsimp only; omega))
 ·have hin := lss_end hi ht10
  subst hin
  refine awp_exit ?_
  refine hK2 _ ?_
  refine sr fun K11 hK11=>?_
  refine aC ?_
  refine hK11 _ ?_
  refine awp_ret ⟨_, (.cons (.tmp rfl) .nil), ?_⟩
  exact fin_eq1 (by rw [firstB_all hj]; rfl)
theorem fault1_cond {a : As} (ha : AL a) (h1 : chkE a.rs = 0) {i : Nat} {b : Pl} (hbn : ∀ x ∈ b.l, NR x 4000) :
  cond (!(decide (chksE a.rs b.l = 0) && unitB (llq a.rs) b)) true (cond (icmp .eql (i : Int) 0) (!stillB a.rs b) false) = !bodyB a.rs i b := by
 unfold bodyB
 by_cases h : chksE a.rs b.l = 0
 ·have hs : stillB a.rs b = sameP (llq a.rs) b frameQ := by
   have h2 := (chks_ok h).2
   unfold stillB eqR sameP
   rw [h2 b.c (by simp [Pl.l]), h2 b.s (by simp [Pl.l]), h2 b.x (by simp [Pl.l]), h2 b.y (by simp [Pl.l])]
   rfl
  rw [hs, decide_eq_true h, Bool.true_and, Bool.true_and]
  have e : icmp .eql (i : Int) 0 = !decide (0 < i) := by
   rw [int_eqb, ← decide_not]; exact decide_eq_decide.2 (by omega)
  rw [e]
  cases unitB (llq a.rs) b <;> cases decide (0 < i) <;> cases sameP (llq a.rs) b frameQ <;> rfl
 ·rw [decide_eq_false h]; rfl
theorem c_fault1 {a : As} (ha : AL a) (h1 : chkE a.rs = 0) {i : Nat} {b : Pl} (hb : a.bs[i]? = some b) : FnC Tryz.prog 72 [i64 i, b.av, .iptr a.av.cells] (bl (!bodyB a.rs i b)) := by
 have hbn := ha.nr b (List.mem_of_getElem? hb)
 refine con_of0 (N := 22) (rs := [.tmp 5]) Tryz.func72 rfl rfl rfl rfl ?_
 refine sr fun K1 hK1=>?_
 refine bX ?_
 refine aC ?_
 refine hK1 _ ?_
 refine sr fun K2 hK2=>?_
 refine ar0 (s_fldIptr (.tmp rfl) T34 rfl rfl rfl rfl) ?_
 refine ar0 (s_loadIptr (.tmp rfl) T30 rfl rfl rfl) ?_
 refine lP T62 ?_
 refine ar0 (s_call (c_certify_unit ha.tr h1 hbn) (.cons (.tmp rfl) (.cons (.tmp rfl) .nil)) rfl rfl) ?_
 refine ar0 (s_not (.tmp rfl) rfl) ?_
 refine mT ?_
 refine ar0 (s_guard rfl rfl rfl (fun h => s_move (.tmp rfl) rfl)) ?_
 refine ar0 (s_guard rfl rfl rfl (fun h => s_cmp (.opt rfl (o1 h)) (.const _) rfl rfl)) ?_
 refine ar0 (s_guard rfl rfl rfl (fun h => s_move (.opt rfl (o1 h)) rfl)) ?_
 refine ar0 (s_guardO rfl rfl rfl (fun h h2 => s_fldIptr (.tmp rfl) T34 rfl rfl rfl rfl)) ?_
 refine ar0 (s_guardO rfl rfl rfl (fun h h2 => s_loadIptr (.opt rfl (o2 h h2)) T30 rfl rfl rfl)) ?_
 refine ar0 (s_guardO rfl rfl rfl (fun h h2 => s_loadPtr (.tmp rfl) rfl T62 rfl rfl rfl)) ?_
 refine ar0 (s_guardO rfl rfl rfl (fun h h2 => s_call (c_certify_still ha.tr h1 hbn) (.cons (.opt rfl (o2 h h2)) (.cons (.opt rfl (o2 h h2)) .nil)) rfl rfl)) ?_
 refine ar0 (s_guardO rfl rfl rfl (fun h h2 => s_not (.opt rfl (o2 h h2)) rfl)) ?_
 refine ar0 (s_guard rfl rfl rfl (fun h => s_pick (.opt rfl (o1 h)) (fun hp => .opt rfl (o2 (o1 h) hp)) (fun _ => .const _) rfl)) ?_
 refine ar0 (s_pick (.tmp rfl) (fun _ => .const _) (fun hp => .opt rfl (o1 hp)) rfl) ?_
 refine aT ?_
 refine hK2 _ ?_
 refine awp_ret ⟨_, (.cons (.tmp rfl) .nil), ?_⟩
 exact fin_eq1 (by exact congrArg bl (fault1_cond ha h1 hbn))
theorem c_fault2 {l : Li} {a : As} (hg : Good l a) {i : Nat} {j : Jt} (hj : l.joints[i]? = some j) : FnC Tryz.prog 76 [i64 i, j.av, .iptr l.av.cells, .iptr a.av.cells] (bl (!jointB l a j)) := by
 refine con_of0 (N := 12) (rs := [.tmp 6]) Tryz.func76 rfl rfl rfl rfl ?_
 refine sr fun K1 hK1=>?_
 refine bX ?_
 refine aC ?_
 refine hK1 _ ?_
 refine sr fun K2 hK2=>?_
 refine ar0 (s_loadIptr (.tmp rfl) T26 rfl rfl rfl) ?_
 refine ar0 (s_loadIptr (.tmp rfl) T34 rfl rfl rfl) ?_
 refine lP T76 ?_
 refine ar0 (s_call (c_certify_holds hg hj) (.cons (.tmp rfl) (.cons (.tmp rfl) (.cons (.tmp rfl) .nil))) rfl rfl) ?_
 refine ar0 (s_not (.tmp rfl) rfl) ?_
 refine aT ?_
 refine hK2 _ ?_
 refine awp_ret ⟨_, (.cons (.tmp rfl) .nil), ?_⟩
 exact fin_eq1 (by rfl)
theorem c_fault3 {l : Li} {a : As} (hg : Good l a) {xs : List Tn} (hx : ∀ x ∈ xs, x.t.ok ∧ x.err = 0 ∧ Qb 1000 x.t.q) (hxl : xs.length = l.drivers.length) {i : Nat} {d : Dr} (hd : l.drivers[i]? = some d) :
  FnC Tryz.prog 79 [i64 i, d.av, .iptr a.av.cells, .iptr [.lst 4 (xs.map Tn.av)]] (bl (!driverB l xs a i)) := by
 have hld := hg.lo.ld
 have hin := (List.getElem?_eq_some_iff.1 hd).1
 obtain ⟨tw, hta, h5, hll⟩ := hg.tw
 have hbl := hg.al.bl
 obtain ⟨n, b, x, hq⟩ := hg.dr hx hxl hd
 obtain ⟨dname, dbody⟩ := d
 have hqn : dbody = n := hq.hn
 subst hqn
 have hqb : ({ name := dname, body := (n : Int) } : Dr).body = (n : Int) := rfl
 have hnl := (List.getElem?_eq_some_iff.1 hq.gb).1
 have hxo := hx x (List.mem_of_getElem? hq.gx)
 have ht : FnC Tryz.prog 80 [towR a.rs, b.av, x.av] (bl (turnB (llq a.rs) b x)) := by rw [hta, hq.av]; exact c_certify_turned tw hq.po hxo.1 hxo.2.1 hxo.2.2
 refine con_of0 (N := 21) (rs := [.tmp 6]) Tryz.func79 rfl rfl rfl rfl ?_
 refine sr fun K1 hK1=>?_
 refine bX ?_
 refine aC ?_
 refine hK1 _ ?_
 refine awp_seq ?_; intro K2 hK2
 refine awp_region_draw mixedP ?_
 refine ar0 (s_fldIptr (.tmp rfl) T34 rfl rfl rfl rfl) ?_
 refine ar0 (s_loadIptr (.tmp rfl) T30 rfl rfl rfl) ?_
 refine ar0 (s_fldIptr (.tmp rfl) T34 rfl rfl rfl rfl) ?_
 refine ar0 (s_loadIptr (.tmp rfl) T31 rfl rfl rfl) ?_
 refine fP T105 ?_
 refine lP T3 ?_
 refine ar0 (s_idxLst (.tmp rfl) (.tmp rfl) T31 rfl T62 rfl (by omega) (getmap hq.gb) rfl) ?_
 refine ar0 (s_loadIptr (.tmp rfl) T62 rfl rfl rfl) ?_
 refine ar0 (s_loadIptr (.tmp rfl) T27 rfl rfl rfl) ?_
 refine mT ?_
 refine ar0 (s_idxLst (.tmp rfl) (.tmp rfl) T27 rfl T81 rfl (by omega) (getmap hq.gx) rfl) ?_
 refine ar0 (s_loadIptr (.tmp rfl) T81 rfl rfl rfl) ?_
 refine ar0 (s_call ht (.cons (.tmp rfl) (.cons (.tmp rfl) (.cons (.tmp rfl) .nil))) rfl rfl) ?_
 refine ar0 (s_not (.tmp rfl) rfl) ?_
 refine aT ?_
 refine ⟨by kernel_rfl, ?_⟩
 refine hK2 _ ?_
 refine awp_ret ⟨_, (.cons (.tmp rfl) .nil), ?_⟩
 exact fin_eq1 (by rw [hq.eq]; rfl)
theorem c_certify_fault {l : Li} (hl : l.ok) (hli : liE l = 0) (xs : List Tn) (hx : ∀ x ∈ xs, x.t.ok ∧ x.err = 0 ∧ Qb 1000 x.t.q) (hxl : xs.length = l.drivers.length) {a : As} (ha : AL a) : FnC Tryz.prog 35 [l.av, .lst 4 (xs.map Tn.av), a.av] (fltA (flt l xs a)) := by
 have hbl := ha.bl
 refine con_of0 (N := 49) (rs := [.cell 6 39]) Tryz.func35 rfl rfl rfl rfl ?_
 refine sr fun K1 hK1=>?_
 refine bX ?_
 refine bX ?_
 refine bX ?_
 refine al T39 ?_
 refine hK1 _ ?_
 refine awp_weaken ((Wk.freezeB (k := 3) rfl rfl).trans <| (Wk.freezeB (k := 4) rfl rfl).trans <| (Wk.freezeB (k := 5) rfl rfl).trans <| Wk.of (sl := [(3, some (.iptr l.av.cells)), (4, some (.iptr [.lst 4 (xs.map Tn.av)])), (5, some (.iptr a.av.cells)), (6, some (.ptr 6 0))]) (hp := [(6, some (.box [i64 0, i64 0]))]) (.k (.k (.k (.k .nil)))) (.cons rfl (.refl _) .nil)) ?_
 refine awp_seq ?_; intro K2 hK2
 refine sr fun K3 hK3=>?_
 refine ar0 (s_fldIptr (.tmp rfl) T34 rfl rfl rfl rfl) ?_
 refine ar0 (s_loadIptr (.tmp rfl) T30 rfl rfl rfl) ?_
 refine ar0 (s_call (c_tower_Check a.rs 40000 ha.tr) (.cons (.tmp rfl) .nil) rfl rfl) ?_
 refine ar0 (s_errNe (.tmp rfl) (by first | exact .inl rfl | exact .inr ⟨_, _, rfl⟩ | exact errV_or _) T41 rfl rfl) ?_
 refine mT ?_
 refine ar0 (s_guard rfl rfl rfl (fun h => s_fldIptr (.tmp rfl) T34 rfl rfl rfl rfl)) ?_
 refine ar0 (s_guard rfl rfl rfl (fun h => s_loadIptr (.opt rfl (o1 h)) T31 rfl rfl rfl)) ?_
 refine ar0 (s_guard rfl rfl rfl (fun h => s_lenMap (.opt rfl (o1 h)) T31 rfl rfl)) ?_
 refine ar0 (s_guard rfl rfl rfl (fun h => s_fldIptr (.tmp rfl) T26 rfl rfl rfl rfl)) ?_
 refine ar0 (s_guard rfl rfl rfl (fun h => s_loadIptr (.opt rfl (o1 h)) T22 rfl rfl rfl)) ?_
 refine ar0 (s_guard rfl rfl rfl (fun h => s_lenMap (.opt rfl (o1 h)) T22 rfl rfl)) ?_
 refine ar0 (s_guard rfl rfl rfl (fun h => s_cmp (.opt rfl (o1 h)) (.opt rfl (o1 h)) rfl rfl)) ?_
 refine ar0 (s_pick (.tmp rfl) (fun _ => .const _) (fun hp => .opt rfl (o1 hp)) rfl) ?_
 refine hK3 _ ?_
 refine awp_cond (.tmp rfl) (fun ht22 => ?_) (fun ht22 => ?_)
 ·have h1 : chkE a.rs ≠ 0 ∨ a.bs.length ≠ l.bodies.length := fl2_t ht22
  refine sr fun K4 hK4=>?_
  refine ar0 (s_build (.cons (.const _) .nil) T39 rfl rfl rfl rfl rfl) ?_
  refine sP T39 ?_
  refine hK4 _ ?_
  refine awp_ret ⟨_, (.cons (.cell rfl rfl T39 rfl rfl) .nil), ?_⟩
  exact fin_eq (by rw [flt_1 h1]; rfl)
 ·have h1 : ¬ (chkE a.rs ≠ 0 ∨ a.bs.length ≠ l.bodies.length) := fl2_f ht22
  have hc : chkE a.rs = 0 := Decidable.not_not.1 (fun h => h1 (.inl h))
  have hln : a.bs.length = l.bodies.length := Decidable.not_not.1 (fun h => h1 (.inr h))
  refine awp_skip (hK2 _ ?_)
  refine sr fun K5 hK5=>?_
  refine ar0 (s_fldIptr (.tmp rfl) T34 rfl rfl rfl rfl) ?_
  refine ar0 (s_loadIptr (.tmp rfl) T31 rfl rfl rfl) ?_
  refine ar0 (s_mkFn (.cons (.tmp rfl) .nil) rfl) ?_
  refine ar0 (s_call (c_first_Placed a.bs (by omega) 72 a.av.cells (fun i => bodyB a.rs i (a.bs.getD i default)) (fun i b hb _ => by have h := c_fault1 ha hc hb; rw [← getD_of (d := default) hb] at h ⊢; exact h)) (.cons (.tmp rfl) (.cons (.tmp rfl) .nil)) rfl rfl) ?_
  refine aT ?_
  refine hK5 _ ?_
  refine awp_seq ?_; intro K6 hK6
  refine sr fun K7 hK7=>?_
  refine mT ?_
  refine ar0 (s_cmp (.tmp rfl) (.const _) rfl rfl) ?_
  refine hK7 _ ?_
  refine awp_cond (.tmp rfl) (fun ht29 => ?_) (fun ht29 => ?_)
  ·obtain ⟨i, hi⟩ := ix_t ht29
   refine sr fun K8 hK8=>?_
   refine mT ?_
   refine ar0 (s_build (.cons (.const _) (.cons (.tmp rfl) .nil)) T39 rfl rfl rfl rfl rfl) ?_
   refine sP T39 ?_
   refine hK8 _ ?_
   refine awp_ret ⟨_, (.cons (.cell rfl rfl T39 rfl rfl) .nil), ?_⟩
   exact fin_eq (by rw [flt_2 h1 hi, hi]; rfl)
  ·have f1 := ix_f ht29
   have hg := good_of hl hli ha hc hln (firstB_none f1)
   refine awp_skip (hK6 _ ?_)
   refine awp_seq ?_; intro K9 hK9
   refine sr fun K10 hK10=>?_
   refine ar0 (s_fldIptr (.tmp rfl) T26 rfl rfl rfl rfl) ?_
   refine ar0 (s_loadIptr (.tmp rfl) T23 rfl rfl rfl) ?_
   refine ar0 (s_mkFn (.cons (.tmp rfl) (.cons (.tmp rfl) .nil)) rfl) ?_
   refine ar0 (s_call (c_first_Joint l.joints hl.lj 76 l.av.cells a.av.cells (fun i => jointB l a (l.joints.getD i default)) (fun i j hj _ => by have h := c_fault2 hg hj; rw [← getD_of (d := default) hj] at h ⊢; exact h)) (.cons (.tmp rfl) (.cons (.tmp rfl) .nil)) rfl rfl) ?_
   refine aT ?_
   refine hK10 _ ?_
   refine sr fun K11 hK11=>?_
   refine mT ?_
   refine ar0 (s_cmp (.tmp rfl) (.const _) rfl rfl) ?_
   refine hK11 _ ?_
   refine awp_cond (.tmp rfl) (fun ht37 => ?_) (fun ht37 => ?_)
   ·obtain ⟨i, hi⟩ := ix_t ht37
    refine sr fun K12 hK12=>?_
    refine mT ?_
    refine ar0 (s_build (.cons (.const _) (.cons (.tmp rfl) .nil)) T39 rfl rfl rfl rfl rfl) ?_
    refine sP T39 ?_
    refine hK12 _ ?_
    refine awp_ret ⟨_, (.cons (.cell rfl rfl T39 rfl rfl) .nil), ?_⟩
    exact fin_eq (by rw [flt_3 h1 f1 hi, hi]; rfl)
   ·have f2 := ix_f ht37
    refine awp_skip (hK9 _ ?_)
    refine sr fun K13 hK13=>?_
    refine ar0 (s_fldIptr (.tmp rfl) T26 rfl rfl rfl rfl) ?_
    refine ar0 (s_loadIptr (.tmp rfl) T24 rfl rfl rfl) ?_
    refine ar0 (s_mkFn (.cons (.tmp rfl) (.cons (.tmp rfl) .nil)) rfl) ?_
    refine ar0 (s_call (c_first_Driver l.drivers hl.ld 79 a.av.cells [.lst 4 (xs.map Tn.av)] (driverB l xs a) (fun i d hd _ => c_fault3 hg hx hxl hd)) (.cons (.tmp rfl) (.cons (.tmp rfl) .nil)) rfl rfl) ?_
    refine aT ?_
    refine hK13 _ ?_
    refine awp_seq ?_; intro K14 hK14
    refine sr fun K15 hK15=>?_
    refine mT ?_
    refine ar0 (s_cmp (.tmp rfl) (.const _) rfl rfl) ?_
    refine hK15 _ ?_
    refine awp_cond (.tmp rfl) (fun ht45 => ?_) (fun ht45 => ?_)
    ·obtain ⟨i, hi⟩ := ix_t ht45
     refine sr fun K16 hK16=>?_
     refine mT ?_
     refine ar0 (s_build (.cons (.const _) (.cons (.tmp rfl) .nil)) T39 rfl rfl rfl rfl rfl) ?_
     refine sP T39 ?_
     refine hK16 _ ?_
     refine awp_ret ⟨_, (.cons (.cell rfl rfl T39 rfl rfl) .nil), ?_⟩
     exact fin_eq (by rw [flt_4 h1 f1 f2 hi, hi]; rfl)
    ·have f3 := ix_f ht45
     refine awp_skip (hK14 _ ?_)
     refine sr fun K17 hK17=>?_
     refine ar0 (s_build .nil T39 rfl rfl rfl rfl rfl) ?_
     refine sP T39 ?_
     refine hK17 _ ?_
     refine awp_ret ⟨_, (.cons (.cell rfl rfl T39 rfl rfl) .nil), ?_⟩
     exact fin_eq (by rw [flt_0 h1 f1 f2 f3]; rfl)
theorem c_certify_Verify {l : Li} (hl : l.ok) (xs : List Tn) (hx : ∀ x ∈ xs, x.t.ok ∧ Qb 1000 x.t.q) (hxl : xs.length ≤ 281474976710656) {a : As} (ha : AL a) :
  FnC Tryz.prog 9 [l.av, .lst 4 (xs.map Tn.av), a.av] (.tup [bl (decide (badE l xs = 0) && decide ((flt l xs a).1 = 0)), fltA (if badE l xs = 0 then flt l xs a else (0, 0)), errA (badE l xs)]) := by
 have hld := hl.ld
 refine con_of0 (N := 49) (rs := [.tmp 6, .cell 7 39, .tmp 8]) Tryz.func9 rfl rfl rfl rfl ?_
 refine sr fun K1 hK1=>?_
 refine bX ?_
 refine bX ?_
 refine aC ?_
 refine al T39 ?_
 refine aC ?_
 refine hK1 _ ?_
 refine awp_seq ?_; intro K2 hK2
 refine sr fun K3 hK3=>?_
 refine lP T26 ?_
 refine ar0 (s_call (c_model_Check l hl) (.cons (.tmp rfl) .nil) rfl rfl) ?_
 refine aT ?_
 refine hK3 _ ?_
 refine sr fun K4 hK4=>?_
 refine mT ?_
 refine ar0 (s_errNe (.tmp rfl) (by first | exact .inl rfl | exact .inr ⟨_, _, rfl⟩ | exact errV_or _) T41 rfl rfl) ?_
 refine hK4 _ ?_
 refine awp_cond (.tmp rfl) (fun ht17 => ?_) (fun ht17 => ?_)
 ·have h1 := nNil_t ht17
  have hb : badE l xs ≠ 0 := by rw [badE_li h1]; exact h1
  refine sr fun K5 hK5=>?_
  refine ar0 (s_build .nil T39 rfl rfl rfl rfl rfl) ?_
  refine mT ?_
  refine aC ?_
  refine sP T39 ?_
  refine aT ?_
  refine hK5 _ ?_
  refine awp_ret ⟨_, (.cons (.tmp rfl) (.cons (.cell rfl rfl T39 rfl rfl) (.cons (.tmp rfl) .nil))), ?_⟩
  exact fin_eq (by rw [if_neg hb, decide_eq_false hb, badE_li h1]; rfl)
 ·have h1 := nNil_f ht17
  refine awp_skip (hK2 _ ?_)
  refine awp_seq ?_; intro K6 hK6
  refine sr fun K7 hK7=>?_
  refine mT ?_
  refine ar0 (s_lenMap (.tmp rfl) T27 rfl rfl) ?_
  refine fP T26 ?_
  refine lP T24 ?_
  refine ar0 (s_lenMap (.tmp rfl) T24 rfl rfl) ?_
  refine ar0 (s_cmp (.tmp rfl) (.tmp rfl) rfl rfl) ?_
  refine hK7 _ ?_
  refine awp_cond (.tmp rfl) (fun ht25 => ?_) (fun ht25 => ?_)
  ·have h2 : xs.length ≠ l.drivers.length := by have := neq_t' ht25; omega
   have hb : badE l xs ≠ 0 := by rw [badE_len h1 h2]; decide
   refine sr fun K8 hK8=>?_
   refine ar0 (s_build .nil T39 rfl rfl rfl rfl rfl) ?_
   refine ar0 (s_mkIface (.const _) rfl T97 rfl) ?_
   refine aC ?_
   refine sP T39 ?_
   refine aT ?_
   refine hK8 _ ?_
   refine awp_ret ⟨_, (.cons (.tmp rfl) (.cons (.cell rfl rfl T39 rfl rfl) (.cons (.tmp rfl) .nil))), ?_⟩
   exact fin_eq (by rw [if_neg hb, decide_eq_false hb, badE_len h1 h2]; rfl)
  ·have h2 : xs.length = l.drivers.length := by have := neq_f' ht25; omega
   refine awp_skip (hK6 _ ?_)
   refine awp_seq ?_; intro K9 hK9
   refine sr fun K10 hK10=>?_
   refine mT ?_
   refine ar0 (s_lenMap (.tmp rfl) T27 rfl rfl) ?_
   refine ar0 (s_move (.const _) rfl) ?_
   refine hK10 _ ?_
   refine awp_block ?_
   refine awp_loop (fun n_ s_ => ∃ (i : Nat), xs.length - i = n_ ∧ (i ≤ xs.length ∧ ∀ x ∈ xs.take i, x.err = 0) ∧ s_ = (⟨[(1, some (.lst 4 (xs.map Tn.av))), (3, some (.ptr 3 0)), (5, some (.ptr 5 0)), (7, some (.ptr 7 0)), (28, some (.lst 4 (xs.map Tn.av))), (29, some (i64 xs.length)), (30, some (i64 i))], [(3, some (.box l.av.cells)), (5, some (.box a.av.cells)), (7, some (.box [i64 0, i64 0]))]⟩ : AS))
    (n := ((fun (i : Nat) => xs.length - i) (0))) (s' := ((fun (i : Nat) => (⟨[(1, some (.lst 4 (xs.map Tn.av))), (3, some (.ptr 3 0)), (5, some (.ptr 5 0)), (7, some (.ptr 7 0)), (28, some (.lst 4 (xs.map Tn.av))), (29, some (i64 xs.length)), (30, some (i64 i))], [(3, some (.box l.av.cells)), (5, some (.box a.av.cells)), (7, some (.box [i64 0, i64 0]))]⟩ : AS)) (0)))
    (Wk.of (.k (.k (.k (.k (.k (.k (.k .nil))))))) (.cons rfl (.refl _) (.cons rfl (.refl _) (.cons rfl (.refl _) .nil)))) ⟨0, rfl, ⟨Nat.zero_le _, fun x hx => by simp at hx⟩, rfl⟩ ?_
   intro n_ s_ hI K11 hK11
   obtain ⟨i, rfl, ⟨hi, hj⟩, rfl⟩ := hI
   refine sr fun K12 hK12=>?_
   refine ar0 (s_cmp (.tmp rfl) (.tmp rfl) rfl rfl) ?_
   refine hK12 _ ?_
   refine awp_seq ?_; intro K13 hK13
   refine awp_cond (.tmp rfl) (fun ht31 => ?_) (fun ht31 => ?_)
   ·have hin := lss_t ht31
    obtain ⟨x, hxx⟩ := getx hin
    refine awp_skip (hK13 _ ?_)
    refine awp_seq ?_; intro K14 hK14
    refine awp_block ?_
    refine sr fun K15 hK15=>?_
    refine ar0 (s_idxLst (.tmp rfl) (.tmp rfl) T27 rfl T81 rfl (by omega) (getmap hxx) rfl) ?_
    refine ar0 (s_loadIptr (.tmp rfl) T81 rfl rfl rfl) ?_
    refine al T81 ?_
    refine sP T81 ?_
    refine hK15 _ ?_
    refine sr fun K16 hK16=>?_
    refine lP T81 ?_
    refine ar0 (s_call (c_turn_Check x (hx x (List.mem_of_getElem? hxx)).1) (.cons (.tmp rfl) .nil) rfl rfl) ?_
    refine aT ?_
    refine hK16 _ ?_
    refine sr fun K17 hK17=>?_
    refine mT ?_
    refine ar0 (s_errNe (.tmp rfl) (by first | exact .inl rfl | exact .inr ⟨_, _, rfl⟩ | exact errV_or _) T41 rfl rfl) ?_
    refine hK17 _ ?_
    refine awp_cond (.tmp rfl) (fun ht37 => ?_) (fun ht37 => ?_)
    ·have h3 := nNil_t ht37
     have hb : badE l xs ≠ 0 := by rw [badE_x h1 h2 hxx hj h3]; exact h3
     refine sr fun K18 hK18=>?_
     refine ar0 (s_build .nil T39 rfl rfl rfl rfl rfl) ?_
     refine mT ?_
     refine aC ?_
     refine sP T39 ?_
     refine aT ?_
     refine hK18 _ ?_
     refine awp_ret ⟨_, (.cons (.tmp rfl) (.cons (.cell rfl rfl T39 rfl rfl) (.cons (.tmp rfl) .nil))), ?_⟩
     exact fin_eq (by rw [if_neg hb, decide_eq_false hb, badE_x h1 h2 hxx hj h3]; rfl)
    ·have h3 := nNil_f ht37
     refine awp_skip (hK14 _ ?_)
     refine awp_region ?_
     refine ar0 (s_arithW (.tmp rfl) (.const _) rfl (i64_add1 (by unfold maxL; omega)) rfl) ?_
     refine mT ?_
     refine hK11 _ ((fun (i : Nat) => (⟨[(1, some (.lst 4 (xs.map Tn.av))), (3, some (.ptr 3 0)), (5, some (.ptr 5 0)), (7, some (.ptr 7 0)), (28, some (.lst 4 (xs.map Tn.av))), (29, some (i64 xs.length)), (30, some (i64 i))], [(3, some (.box l.av.cells)), (5, some (.box a.av.cells)), (7, some (.box [i64 0, i64 0]))]⟩ : AS)) (i + 1)) ((fun (i : Nat) => xs.length - i) (i + 1)) (Wk.of (.k (.k (.k (.k (.k (.k (.k .nil))))))) (.cons rfl (.refl _) (.cons rfl (.refl _) (.cons rfl (.refl _) .nil)))) ⟨i + 1, rfl, ⟨hin, fun y hy => by rw [take_succ_get hxx] at hy; rcases List.mem_append.1 hy with h9 | h9; exact hj y h9; (rw [List.mem_singleton.1 h9]; exact h3)⟩, rfl⟩ (by first | omega | (dsimp only; omega))
   ·have hin := lss_end hi ht31
    subst hin
    rw [List.take_length] at hj
    have hb := badE_0 h1 h2 hj
    refine awp_exit ?_
    refine hK9 _ ?_
    refine sr fun K19 hK19=>?_
    refine lP T26 ?_
    refine mT ?_
    refine lP T34 ?_
    refine ar0 (s_call (c_certify_fault hl h1 xs (fun x h9 => ⟨(hx x h9).1, hj x h9, (hx x h9).2⟩) h2 ha) (.cons (.tmp rfl) (.cons (.tmp rfl) (.cons (.tmp rfl) .nil))) rfl rfl) ?_
    refine al T39 ?_
    refine sP T39 ?_
    refine hK19 _ ?_
    refine awp_seq ?_; intro K20 hK20
    refine awp_region_draw mixedP ?_
    refine lP T39 ?_
    refine ar0 (s_build .nil T39 rfl rfl rfl rfl rfl) ?_
    refine ar0 (s_eq2 (.tmp rfl) (.tmp rfl) (by kernel_rfl) rfl) ?_
    refine lP T39 ?_
    refine aT ?_
    refine sP T39 ?_
    refine aC ?_
    refine ⟨by kernel_rfl, ?_⟩
    refine hK20 _ ?_
    refine awp_ret ⟨_, (.cons (.tmp rfl) (.cons (.cell rfl rfl T39 rfl rfl) (.cons (.tmp rfl) .nil))), ?_⟩
    exact fin_eq (by rw [hb, if_pos rfl, ver_cond]; rfl)
end Go.Lw
namespace Go.Lw
open Go.Proofs
def barB (s : ByteArray) (n : Int) : Bd := ⟨s, [⟨⟨#[97]⟩, rt ((0 : Int) : Rat), rt ((0 : Int) : Rat)⟩, ⟨⟨#[98]⟩, rt (n : Rat), rt ((0 : Int) : Rat)⟩]⟩
def fb : Li := ⟨⟨#[102, 111, 117, 114, 98, 97, 114]⟩, [barB ⟨#[102, 114, 97, 109, 101]⟩ 4, barB ⟨#[99, 114, 97, 110, 107]⟩ 3, barB ⟨#[99, 111, 117, 112, 108, 101, 114]⟩ 5, barB ⟨#[114, 111, 99, 107, 101, 114]⟩ 6],
  [⟨⟨#[111]⟩, 0, 1, 0, 0, 0, 0⟩, ⟨⟨#[112]⟩, 0, 2, 0, 1, 1, 0⟩, ⟨⟨#[113]⟩, 0, 3, 0, 0, 1, 0⟩, ⟨⟨#[114]⟩, 0, 2, 1, 3, 1, 0⟩], [⟨⟨#[100]⟩, 1⟩]⟩
def t0 : Tn := ⟨⟨false, [], []⟩, false⟩
def pl0 : Pl := ⟨[rt 1], [], [], []⟩
def as0 : As := ⟨[], [pl0, pl0, pl0, pl0], []⟩
def ps0 : Pse := ⟨t0, ⟨⟨false, [], []⟩, ⟨false, [], []⟩⟩⟩
def as1 : As := ⟨[], [pl0], []⟩
theorem eqS_data (a b : ByteArray) : eqS a b = (a.data.toList == b.data.toList) := by
 unfold eqS; rw [Go.ByteArray.toList_eq, Go.ByteArray.toList_eq]
theorem fb_li : liE fb = 0 := by
 have h1 : bdsE fb = 0 := by
  unfold bdsE firstN bdE dupB mkE
  simp only [eqS_data]
  decide +kernel
 have h2 : jtsE fb = 0 := by
  unfold jtsE firstN jtE dupB
  simp only [eqS_data]
  decide +kernel
 have h3 : drsE fb = 0 := by
  unfold drsE firstN drE dupB
  simp only [eqS_data]
  decide +kernel
 unfold liE
 rw [h1, h2, h3]
 decide +kernel
theorem fb_bad : badE fb [t0] = 0 := badE_0 fb_li rfl (fun y hy => by rw [List.mem_singleton.1 hy]; decide +kernel)
theorem fb_flt : flt fb [t0] as0 = (3, 1) := by decide +kernel
theorem bar_okw {s : ByteArray} (hs : s.size ≤ 281474976710656) {n : Int} (hn : -9223372036854775808 ≤ n ∧ n ≤ 9223372036854775807) :
  (barB s n).name.size ≤ 281474976710656 ∧ (barB s n).pts.length ≤ 281474976710656 ∧ ∀ m ∈ (barB s n).pts, m.name.size ≤ 281474976710656 ∧ m.x.wok ∧ m.y.wok := by
 have h0 : (rt ((0 : Int) : Rat)).ok := (int_qs (by omega)).ok
 have h1 : (rt (n : Rat)).ok := (int_qs hn).ok
 refine ⟨hs, by show 2 ≤ _; omega, fun m hm => ?_⟩
 simp only [barB, List.mem_cons, List.not_mem_nil, or_false] at hm
 rcases hm with rfl | rfl
 ·exact ⟨by show 1 ≤ _; omega, h0.wok, h0.wok⟩
 ·exact ⟨by show 1 ≤ _; omega, h1.wok, h0.wok⟩
theorem fb_okw : fb.okw := by
 refine ⟨by decide, fun b hb => ?_, fun j hj => ?_, fun d hd => ?_, by decide, by decide, by decide⟩
 ·simp only [fb, List.mem_cons, List.not_mem_nil, or_false] at hb
  rcases hb with rfl | rfl | rfl | rfl <;> exact bar_okw (by decide) (by omega)
 ·simp only [fb, List.mem_cons, List.not_mem_nil, or_false] at hj
  rcases hj with rfl | rfl | rfl | rfl <;> decide
 ·simp only [fb, List.mem_cons, List.not_mem_nil, or_false] at hd
  rcases hd with rfl; decide
theorem fb_ok : fb.ok := li_ok (by decide +kernel) fb_okw
theorem r0_ok : (⟨false, [], []⟩ : Rt).ok := ⟨ws_nil, ws_nil, Nat.zero_le _, Nat.zero_le _⟩
theorem q0_z : (⟨false, [], []⟩ : Rt).q = 0 := Rt.zero (fun h => h.2 rfl)
theorem ps0_lok : ps0.lok := by
 have h : Qb 96 (⟨false, [], []⟩ : Rt).q := by rw [q0_z]; exact Qb.zero.mono (by omega)
 exact ⟨⟨r0_ok, r0_ok, r0_ok⟩, h, h, h⟩
theorem rt1_ok : (rt 1).ok := (int_qs (n := 1) (by omega)).ok
theorem pl0_rs : RsOk pl0.l := by
 intro x hx
 simp only [Pl.l, pl0, List.mem_cons, List.not_mem_nil, or_false] at hx
 rcases hx with rfl | rfl | rfl | rfl
 ·exact ⟨fun r hr => by rw [List.mem_singleton.1 hr]; exact rt1_ok.wok, by show 1 ≤ _; omega⟩
 ·exact ⟨fun r hr => (by cases hr), (by show 0 ≤ _; omega)⟩
 ·exact ⟨fun r hr => (by cases hr), (by show 0 ≤ _; omega)⟩
 ·exact ⟨fun r hr => (by cases hr), (by show 0 ≤ _; omega)⟩
theorem as0_al : AL as0 := as_al (by decide +kernel) ⟨rs_nil, by decide, fun b hb => by simp only [as0, List.mem_cons, List.not_mem_nil, or_false] at hb; rcases hb with rfl | rfl | rfl | rfl <;> exact pl0_rs, by decide⟩
theorem as1_al : AL as1 := as_al (by decide +kernel) ⟨rs_nil, by decide, fun b hb => by simp only [as1, List.mem_cons, List.not_mem_nil, or_false] at hb; rcases hb with rfl; exact pl0_rs, by decide⟩
theorem mE0 : mE as1 [ps0] = 0 := by decide +kernel
theorem mB0 : mB as1 [ps0] = true := by decide +kernel
theorem ofE0 : ofE [ps0] = 0 := by decide +kernel
theorem ofL0 : asA (ofL [ps0]) = as1.av := by
 have h : ofL [ps0] = [posed ps0] := rfl
 have c1 : cosQ false 0 = 1 := by decide +kernel
 have s1 : sinQ false 0 = 0 := by decide +kernel
 have h2 : posed ps0 = ⟨[1], [], [], []⟩ := by
  show (⟨sh 0 (cosQ false (⟨false, [], []⟩ : Rt).q : Rat), sh 0 (sinQ false (⟨false, [], []⟩ : Rt).q : Rat), sh 0 ((⟨false, [], []⟩ : Rt).q : Rat), sh 0 ((⟨false, [], []⟩ : Rt).q : Rat)⟩ : Pq) = _
  rw [q0_z, c1, s1]; rfl
 rw [h, h2]; rfl
theorem CellsSub.ofL {l l' : List AV} (h : SubL l l') (ho : l'.all AV.one = true) : CellsSub (.agg l) (.agg l') :=
 ⟨h.len, fun j x y hx hy => ⟨List.all_eq_true.1 ho y (List.mem_of_getElem? hy), h.get j x y hx hy⟩⟩
theorem Sub.lst1 {sz : Nat} {e e' : AV} (h : CellsSub e e') : Sub (.lst sz [e]) (.lst sz [e']) := by
 refine Sub.lst rfl (fun i x y hx hy => ?_)
 match i, hx, hy with
 | 0, hx, hy => cases hx; cases hy; exact h
theorem sub_nb : Sub (.v (.bool false)) (bl false) := .refl _
theorem sub_nw : Sub (.v (.slice none 0 0)) (ws []) := .nil _ _ _
theorem sub_ps0 : CellsSub (.agg [.v (.bool false), .v (.slice none 0 0), .v (.slice none 0 0), .v (.bool false), .v (.bool false), .v (.slice none 0 0), .v (.slice none 0 0), .v (.bool false), .v (.slice none 0 0), .v (.slice none 0 0)]) ps0.av :=
 .ofL (.cons sub_nb (.cons sub_nw (.cons sub_nw (.cons sub_nb (.cons sub_nb (.cons sub_nw (.cons sub_nw (.cons sub_nb (.cons sub_nw (.cons sub_nw .nil)))))))))) rfl
theorem sub_t0 : CellsSub (.agg [.v (.bool false), .v (.slice none 0 0), .v (.slice none 0 0), .v (.bool false)]) t0.av :=
 .ofL (.cons sub_nb (.cons sub_nw (.cons sub_nw (.cons sub_nb .nil)))) rfl
theorem c_l25_place (s : ByteArray) (x y : Int) (hx : -9223372036854775808 ≤ x ∧ x ≤ 9223372036854775807) (hy : -9223372036854775808 ≤ y ∧ y ≤ 9223372036854775807) : FnC Tryz.prog 116 [.v (.string s), i64 x, i64 y] (Mk.av ⟨s, rt (x : Rat), rt (y : Rat)⟩) := by
 refine con_of0 (N := 13) (rs := [.cell 6 91]) Tryz.func116 rfl rfl rfl rfl ?_
 refine sr fun K1 hK1=>?_
 refine al T91 ?_
 refine hK1 _ ?_
 refine sr fun K2 hK2=>?_
 refine mT ?_
 refine mT ?_
 refine ar0 (s_call (c_r02_Of x hx) (.cons (.tmp rfl) .nil) rfl rfl) ?_
 refine mT ?_
 refine ar0 (s_call (c_r02_Of y hy) (.cons (.tmp rfl) .nil) rfl rfl) ?_
 refine ar0 (s_build (.cons (.tmp rfl) (.cons (.tmp rfl) (.cons (.tmp rfl) .nil))) T91 rfl rfl rfl rfl rfl) ?_
 refine sP T91 ?_
 refine hK2 _ ?_
 refine awp_ret ⟨_, (.cons (.cell rfl rfl T91 rfl rfl) .nil), ?_⟩
 exact fin_eq (by first | rfl | (simp; done))
theorem c_l25_bar (s : ByteArray) (n : Int) (hn : -9223372036854775808 ≤ n ∧ n ≤ 9223372036854775807) : FnC Tryz.prog 57 [.v (.string s), i64 n] (barB s n).av := by
 refine con_of0 (N := 11) (rs := [.cell 4 89]) Tryz.func57 rfl rfl rfl rfl ?_
 refine sr fun K1 hK1=>?_
 refine al T89 ?_
 refine hK1 _ ?_
 refine sr fun K2 hK2=>?_
 refine mT ?_
 refine ar0 (s_call (c_l25_place _ 0 0 (by omega) (by omega)) (.cons (.const _) (.cons (.const _) (.cons (.const _) .nil))) rfl rfl) ?_
 refine mT ?_
 refine ar0 (s_call (c_l25_place _ n 0 hn (by omega)) (.cons (.const _) (.cons (.tmp rfl) (.cons (.const _) .nil))) rfl rfl) ?_
 refine ar0 (s_buildLst rfl (.cons (.tmp rfl) (.cons (.tmp rfl) .nil)) T87 rfl T91 rfl rfl rfl rfl rfl rfl rfl rfl) ?_
 refine ar0 (s_build (.cons (.tmp rfl) (.cons (.tmp rfl) .nil)) T89 rfl rfl rfl rfl rfl) ?_
 refine sP T89 ?_
 refine hK2 _ ?_
 refine awp_ret ⟨_, (.cons (.cell rfl rfl T89 rfl rfl) .nil), ?_⟩
 exact fin_eq (by first | rfl | (simp; done))
theorem c_l25_FourBar : FnC Tryz.prog 27 [] fb.av := by
 refine con_of0 (N := 14) (rs := [.cell 0 26]) Tryz.func27 rfl rfl rfl rfl ?_
 refine sr fun K1 hK1=>?_
 refine al T26 ?_
 refine hK1 _ ?_
 refine sr fun K2 hK2=>?_
 refine ar0 (s_call (c_l25_bar _ 4 (by omega)) (.cons (.const _) (.cons (.const _) .nil)) rfl rfl) ?_
 refine ar0 (s_call (c_l25_bar _ 3 (by omega)) (.cons (.const _) (.cons (.const _) .nil)) rfl rfl) ?_
 refine ar0 (s_call (c_l25_bar _ 5 (by omega)) (.cons (.const _) (.cons (.const _) .nil)) rfl rfl) ?_
 refine ar0 (s_call (c_l25_bar _ 6 (by omega)) (.cons (.const _) (.cons (.const _) .nil)) rfl rfl) ?_
 refine ar0 (s_buildLst rfl (.cons (.tmp rfl) (.cons (.tmp rfl) (.cons (.tmp rfl) (.cons (.tmp rfl) .nil)))) T22 rfl T89 rfl rfl rfl rfl rfl rfl rfl rfl) ?_
 refine ar0 (s_build (.cons (.const _) (.cons (.const _) (.cons (.const _) (.cons (.const _) (.cons (.const _) .nil))))) T76 rfl rfl rfl rfl rfl) ?_
 refine ar0 (s_build (.cons (.const _) (.cons (.const _) (.cons (.const _) (.cons (.const _) (.cons (.const _) .nil))))) T76 rfl rfl rfl rfl rfl) ?_
 refine ar0 (s_build (.cons (.const _) (.cons (.const _) (.cons (.const _) (.cons (.const _) (.cons (.const _) .nil))))) T76 rfl rfl rfl rfl rfl) ?_
 refine ar0 (s_build (.cons (.const _) (.cons (.const _) (.cons (.const _) (.cons (.const _) (.cons (.const _) .nil))))) T76 rfl rfl rfl rfl rfl) ?_
 refine ar0 (s_buildLst rfl (.cons (.tmp rfl) (.cons (.tmp rfl) (.cons (.tmp rfl) (.cons (.tmp rfl) .nil)))) T23 rfl T76 rfl rfl rfl rfl rfl rfl rfl rfl) ?_
 refine ar0 (s_build (.cons (.const _) (.cons (.const _) .nil)) T105 rfl rfl rfl rfl rfl) ?_
 refine ar0 (s_buildLst rfl (.cons (.tmp rfl) .nil) T24 rfl T105 rfl rfl rfl rfl rfl rfl rfl rfl) ?_
 refine ar0 (s_build (.cons (.const _) (.cons (.tmp rfl) (.cons (.tmp rfl) (.cons (.tmp rfl) .nil)))) T26 rfl rfl rfl rfl rfl) ?_
 refine sP T26 ?_
 refine hK2 _ ?_
 refine awp_ret ⟨_, (.cons (.cell rfl rfl T26 rfl rfl) .nil), ?_⟩
 exact fin_eq (by first | rfl | (simp; done))
theorem c_l28_awake : FnC Tryz.prog 6 [] (bl true) := by
 have hv := c_certify_Verify fb_ok [t0] (fun x hx => by rw [List.mem_singleton.1 hx]; exact ⟨r0_ok, by show Qb 1000 (⟨false, [], []⟩ : Rt).q; rw [q0_z]; exact Qb.zero.mono (by omega)⟩) (by decide) as0_al
 rw [fb_bad, if_pos rfl, fb_flt] at hv
 have ho := c_certify_Of [ps0] (fun p hp => by rw [List.mem_singleton.1 hp]; exact ps0_lok) (by decide)
 rw [ofE0, ofL0] at ho
 have hm := c_certify_Matches as1 as1_al [ps0] (fun p hp => by rw [List.mem_singleton.1 hp]; exact ps0_lok) (by decide)
 rw [mE0, mB0] at hm
 have sp : Sub (.lst 10 [.agg [.v (.bool false), .v (.slice none 0 0), .v (.slice none 0 0), .v (.bool false), .v (.bool false), .v (.slice none 0 0), .v (.slice none 0 0), .v (.bool false), .v (.slice none 0 0), .v (.slice none 0 0)]]) (.lst 10 ([ps0].map Pse.av)) := Sub.lst1 sub_ps0
 have st : Sub (.lst 4 [.agg [.v (.bool false), .v (.slice none 0 0), .v (.slice none 0 0), .v (.bool false)]]) (.lst 4 ([t0].map Tn.av)) := Sub.lst1 sub_t0
 refine con_of0 (N := 59) (rs := [.tmp 0]) Tryz.func6 rfl rfl rfl rfl ?_
 refine sr fun K1 hK1=>?_
 refine aC ?_
 refine hK1 _ ?_
 refine sr fun K2 hK2=>?_
 refine ar0 (s_call c_r26_Frame .nil rfl rfl) ?_
 refine al T62 ?_
 refine sP T62 ?_
 refine hK2 _ ?_
 refine awp_seq ?_; intro K3 hK3
 refine awp_region_draw mixedP ?_
 refine ar0 (s_call c_l25_FourBar .nil rfl rfl) ?_
 refine ar0 (s_build .nil T81 rfl rfl rfl rfl rfl) ?_
 refine ar0 (s_buildLst rfl (.cons (.tmp rfl) .nil) T27 rfl T81 rfl rfl rfl rfl rfl rfl rfl rfl) ?_
 refine lP T62 ?_
 refine lP T62 ?_
 refine lP T62 ?_
 refine lP T62 ?_
 refine ar0 (s_buildLst rfl (.cons (.tmp rfl) (.cons (.tmp rfl) (.cons (.tmp rfl) (.cons (.tmp rfl) .nil)))) T31 rfl T62 rfl rfl rfl rfl rfl rfl rfl rfl) ?_
 refine ar0 (s_build (.cons (.tmp rfl) .nil) T34 rfl rfl rfl rfl rfl) ?_
 refine ar0 (s_call (Con.subA (.cons (.refl _) (.cons st (.cons (.agg (.cons (.nil _ _ _) (.cons (.refl _) (.cons (.nil _ _ _) .nil))) rfl) .nil))) hv) (.cons (.tmp rfl) (.cons (.tmp rfl) (.cons (.tmp rfl) .nil))) rfl rfl) ?_
 refine mT ?_
 refine ar0 (s_extract (.tmp rfl) rfl rfl) ?_
 refine ar0 (s_extract (.tmp rfl) rfl rfl) ?_
 refine ar0 (s_extract (.tmp rfl) rfl rfl) ?_
 refine al T39 ?_
 refine aT ?_
 refine sP T39 ?_
 refine aT ?_
 refine ⟨by kernel_rfl, ?_⟩
 refine hK3 _ ?_
 refine sr fun K4 hK4=>?_
 refine ar0 (s_build .nil T85 rfl rfl rfl rfl rfl) ?_
 refine ar0 (s_buildLst rfl (.cons (.tmp rfl) .nil) T48 rfl T85 rfl rfl rfl rfl rfl rfl rfl rfl) ?_
 refine ar0 (s_call (Con.subA (.cons sp .nil) ho) (.cons (.tmp rfl) .nil) rfl rfl) ?_
 refine mT ?_
 refine ar0 (s_extract (.tmp rfl) rfl rfl) ?_
 refine ar0 (s_extract (.tmp rfl) rfl rfl) ?_
 refine al T34 ?_
 refine sP T34 ?_
 refine aT ?_
 refine hK4 _ ?_
 refine sr fun K5 hK5=>?_
 refine lP T34 ?_
 refine ar0 (s_build .nil T85 rfl rfl rfl rfl rfl) ?_
 refine ar0 (s_buildLst rfl (.cons (.tmp rfl) .nil) T48 rfl T85 rfl rfl rfl rfl rfl rfl rfl rfl) ?_
 refine ar0 (s_call (Con.subA (.cons (.refl _) (.cons sp .nil)) hm) (.cons (.tmp rfl) (.cons (.tmp rfl) .nil)) rfl rfl) ?_
 refine mT ?_
 refine ar0 (s_extract (.tmp rfl) rfl rfl) ?_
 refine ar0 (s_extract (.tmp rfl) rfl rfl) ?_
 refine aT ?_
 refine aT ?_
 refine hK5 _ ?_
 refine sr fun K6 hK6=>?_
 refine mT ?_
 refine ar0 (s_errEq (.tmp rfl) (by first | exact .inl rfl | exact .inr ⟨_, _, rfl⟩ | exact errV_or _) T41 rfl rfl) ?_
 refine mT ?_
 refine ar0 (s_guard rfl rfl rfl (fun h => s_move (.tmp rfl) rfl)) ?_
 refine ar0 (s_guard rfl rfl rfl (fun h => s_errEq (.opt rfl (o1 h)) (by first | exact .inl rfl | exact .inr ⟨_, _, rfl⟩ | exact errV_or _) T41 rfl rfl)) ?_
 refine ar0 (s_pick (.tmp rfl) (fun hp => .opt rfl (o1 hp)) (fun _ => .const _) rfl) ?_
 refine mT ?_
 refine ar0 (s_guard rfl rfl rfl (fun h => s_move (.tmp rfl) rfl)) ?_
 refine ar0 (s_guard rfl rfl rfl (fun h => s_errEq (.opt rfl (o1 h)) (by first | exact .inl rfl | exact .inr ⟨_, _, rfl⟩ | exact errV_or _) T41 rfl rfl)) ?_
 refine ar0 (s_pick (.tmp rfl) (fun hp => .opt rfl (o1 hp)) (fun _ => .const _) rfl) ?_
 refine mT ?_
 refine ar0 (s_guard rfl rfl rfl (fun h => s_move (.tmp rfl) rfl)) ?_
 refine ar0 (s_guard rfl rfl rfl (fun h => s_not (.opt rfl (o1 h)) rfl)) ?_
 refine ar0 (s_pick (.tmp rfl) (fun hp => .opt rfl (o1 hp)) (fun _ => .const _) rfl) ?_
 refine mT ?_
 refine ar0 (s_guard rfl rfl rfl (fun h => s_move (.tmp rfl) rfl)) ?_
 refine ar0 (s_pick (.tmp rfl) (fun hp => .opt rfl (o1 hp)) (fun _ => .const _) rfl) ?_
 refine mT ?_
 refine ar0 (s_guard rfl rfl rfl (fun h => s_loadPtr (.tmp rfl) rfl T39 rfl rfl rfl)) ?_
 refine ar0 (s_guard rfl rfl rfl (fun h => s_build (.cons (.const _) (.cons (.const _) .nil)) T39 rfl rfl rfl rfl rfl)) ?_
 refine ar0 (s_guard rfl rfl rfl (fun h => s_eq2 (.opt rfl (o1 h)) (.opt rfl (o1 h)) (by kernel_rfl) rfl)) ?_
 refine ar0 (s_pick (.tmp rfl) (fun hp => .opt rfl (o1 hp)) (fun _ => .const _) rfl) ?_
 refine aT ?_
 refine hK6 _ ?_
 refine awp_ret ⟨_, (.cons (.tmp rfl) .nil), ?_⟩
 exact fin_eq1 (by rfl)
end Go.Lw
namespace Go.Lw
open Go.Proofs
def li0 : Li := ⟨⟨#[]⟩, [], [], []⟩
theorem li0_okw : li0.okw := ⟨by decide, fun b hb => (by cases hb), fun j hj => (by cases hj), fun d hd => (by cases hd), by decide, by decide, by decide⟩
theorem sub_dr0 {ps : List Pse} : Sub (.agg [.v (.string ⟨#[]⟩), .v (.slice none 0 0), .v (.slice none 0 0), .v (.slice none 0 0), .lst 10 (ps.map Pse.av)]) (drawnA li0 ps) :=
 .agg (.cons (.refl _) (.cons (.nil _ _ _) (.cons (.nil _ _ _) (.cons (.nil _ _ _) (.cons (.refl _) .nil))))) rfl
theorem tw0 : Tw [] 40000 := (chk_tw (rs := []) as0_al.tr (by decide +kernel)).1
theorem eq0 (x : Rat) : eqT [] x x = true := by
 refine decide_eq_true ?_
 show T.sgn (rtsOf []) 0 (T.add 0 x (T.neg 0 x)) = 0
 have e : T.add 0 x (T.neg 0 x) = (0 : Rat) := Rat.add_neg_cancel x
 rw [e]; rfl
theorem same0 {w : Pq} (hw : w.ok 0 1000) : FnC Tryz.prog 17 [.agg [.lst 1 []], w.av, w.av] (bl true) := by
 have h := c_r26_SamePlaced tw0 hw.c hw.s hw.x hw.y hw.c hw.s hw.x hw.y (by omega)
 rw [eq0, eq0, eq0, eq0] at h
 exact h
theorem ofL_ok {ps : List Pse} (h : ∀ p ∈ ps, p.lok) : ∀ w ∈ ofL ps, w.ok 0 1000 := by
 intro w hw
 unfold ofL at hw
 split at hw
 ·obtain ⟨p, hp, rfl⟩ := List.mem_map.1 hw
  exact posed_ok (by omega) (h p hp)
 ·cases hw
theorem lw2_t {p q : Bool} (h : cond (cond (!true) true (!p)) true (!q) = false) : p = true ∧ q = true := by cases p <;> cases q <;> simp_all
theorem lw2_c {m n : Nat} (h : cond (cond (icmp .neq (m : Int) (m : Int)) true (icmp .neq (0 : Int) 0)) true (icmp .neq (n : Int) (n : Int)) = true) : False := by
 simp [icmp] at h
theorem c_law_Matches (a : As) (ha : a.ok) (ps : List Pse) (hps : ∀ p ∈ ps, p.wok) (hpl : ps.length ≤ 281474976710656) : FnC Tryz.prog 4 [a.av, .lst 10 (ps.map Pse.av)] (bl true) := by
 refine con_of0 (N := 103) (rs := [.tmp 4]) Tryz.func4 rfl rfl rfl rfl ?_
 refine sr fun K1 hK1=>?_
 refine bX ?_
 refine aC ?_
 refine hK1 _ ?_
 refine awp_seq ?_; intro K2 hK2
 refine sr fun K3 hK3=>?_
 refine ar0 (s_call c_l28_awake .nil rfl rfl) ?_
 refine ar0 (s_not (.tmp rfl) rfl) ?_
 refine mT ?_
 refine ar0 (s_guard rfl rfl rfl (fun h => s_loadPtr (.tmp rfl) rfl T34 rfl rfl rfl)) ?_
 refine ar0 (s_guard rfl rfl rfl (fun h => s_call (c_l28_light a ha) (.cons (.opt rfl (o1 h)) .nil) rfl rfl)) ?_
 refine ar0 (s_guard rfl rfl rfl (fun h => s_not (.opt rfl (o1 h)) rfl)) ?_
 refine ar0 (s_pick (.tmp rfl) (fun _ => .const _) (fun hp => .opt rfl (o1 hp)) rfl) ?_
 refine mT ?_
 refine ar0 (s_guard rfl rfl rfl (fun h => s_move (.tmp rfl) rfl)) ?_
 refine ar0 (s_guard rfl rfl rfl (fun h => s_build (.cons (.opt rfl (o1 h)) .nil) T51 rfl rfl rfl rfl rfl)) ?_
 refine ar0 (s_guard rfl rfl rfl (fun h => s_call (Con.subA (.cons sub_dr0 .nil) (c_l26_Light li0 ps li0_okw hps hpl)) (.cons (.opt rfl (o1 h)) .nil) rfl rfl)) ?_
 refine ar0 (s_guard rfl rfl rfl (fun h => s_not (.opt rfl (o1 h)) rfl)) ?_
 refine ar0 (s_pick (.tmp rfl) (fun _ => .const _) (fun hp => .opt rfl (o1 hp)) rfl) ?_
 refine hK3 _ ?_
 refine awp_cond (.tmp rfl) (fun ht25 => ?_) (fun ht25 => ?_)
 ·skip
  refine sr fun K4 hK4=>?_
  refine ar0 (s_call c_l28_awake .nil rfl rfl) ?_
  refine aT ?_
  refine hK4 _ ?_
  refine awp_ret ⟨_, (.cons (.tmp rfl) .nil), ?_⟩
  exact fin_eq1 (by first | rfl | (simp; done))
 ·obtain ⟨h1, h2⟩ := lw2_t ht25
  have hal := as_al h1 ha
  unfold drB at h2
  simp only [Bool.and_eq_true, List.all_eq_true, decide_eq_true_eq] at h2
  obtain ⟨h3, h4, h5⟩ := h2
  have hlok : ∀ p ∈ ps, p.lok := fun p hp => ps_lok (h3 p hp) (hps p hp)
  have hoo := ofL_ok hlok
  have hol : (ofL ps).length ≤ 20 := by unfold ofL; split; (rw [List.length_map]; exact h4); exact Nat.zero_le _
  refine awp_skip (hK2 _ ?_)
  refine sr fun K5 hK5=>?_
  refine mT ?_
  refine ar0 (s_call (c_certify_Of ps hlok h4) (.cons (.tmp rfl) .nil) rfl rfl) ?_
  refine mT ?_
  refine ar0 (s_extract (.tmp rfl) rfl rfl) ?_
  refine ar0 (s_extract (.tmp rfl) rfl rfl) ?_
  refine al T34 ?_
  refine sP T34 ?_
  refine aT ?_
  refine hK5 _ ?_
  refine sr fun K6 hK6=>?_
  refine lP T34 ?_
  refine mT ?_
  refine ar0 (s_call (c_certify_Matches a hal ps hlok h4) (.cons (.tmp rfl) (.cons (.tmp rfl) .nil)) rfl rfl) ?_
  refine mT ?_
  refine ar0 (s_extract (.tmp rfl) rfl rfl) ?_
  refine ar0 (s_extract (.tmp rfl) rfl rfl) ?_
  refine aT ?_
  refine aT ?_
  refine hK6 _ ?_
  refine sr fun K7 hK7=>?_
  refine mT ?_
  refine ar0 (s_call (c_r28_Of ps hlok h4) (.cons (.tmp rfl) .nil) rfl rfl) ?_
  refine mT ?_
  refine ar0 (s_extract (.tmp rfl) rfl rfl) ?_
  refine ar0 (s_extract (.tmp rfl) rfl rfl) ?_
  refine al T34 ?_
  refine sP T34 ?_
  refine aT ?_
  refine hK7 _ ?_
  refine awp_seq ?_; intro K8 hK8
  refine sr fun K9 hK9=>?_
  refine mT ?_
  refine ar0 (s_call (c_base_Num (ofE ps)) (.cons (.tmp rfl) .nil) rfl rfl) ?_
  refine mT ?_
  refine ar0 (s_cmp (.tmp rfl) (.tmp rfl) rfl rfl) ?_
  refine mT ?_
  refine ar0 (s_guard rfl rfl rfl (fun h => s_fldPtr (.tmp rfl) T34 rfl rfl rfl rfl)) ?_
  refine ar0 (s_guard rfl rfl rfl (fun h => s_fldPtr (.opt rfl (o1 h)) T30 rfl rfl rfl rfl)) ?_
  refine ar0 (s_guard rfl rfl rfl (fun h => s_loadPtr (.opt rfl (o1 h)) rfl T28 rfl rfl rfl)) ?_
  refine ar0 (s_guard rfl rfl rfl (fun h => s_lenLst (.opt rfl (o1 h)) T28 rfl rfl)) ?_
  refine ar0 (s_guard rfl rfl rfl (fun h => s_fldPtr (.tmp rfl) T34 rfl rfl rfl rfl)) ?_
  refine ar0 (s_guard rfl rfl rfl (fun h => s_loadPtr (.opt rfl (o1 h)) rfl T32 rfl rfl rfl)) ?_
  refine ar0 (s_guard rfl rfl rfl (fun h => s_lenLst (.opt rfl (o1 h)) T32 rfl rfl)) ?_
  refine ar0 (s_guard rfl rfl rfl (fun h => s_arith (.opt rfl (o1 h)) (.opt rfl (o1 h)) rfl rfl)) ?_
  refine ar0 (s_guard rfl rfl rfl (fun h => s_cmp (.opt rfl (o1 h)) (.const _) rfl rfl)) ?_
  refine ar0 (s_pick (.tmp rfl) (fun _ => .const _) (fun hp => .opt rfl (o1 hp)) rfl) ?_
  refine mT ?_
  refine ar0 (s_guard rfl rfl rfl (fun h => s_fldPtr (.tmp rfl) T34 rfl rfl rfl rfl)) ?_
  refine ar0 (s_guard rfl rfl rfl (fun h => s_loadPtr (.opt rfl (o1 h)) rfl T31 rfl rfl rfl)) ?_
  refine ar0 (s_guard rfl rfl rfl (fun h => s_lenMap (.opt rfl (o1 h)) T31 rfl rfl)) ?_
  refine ar0 (s_guard rfl rfl rfl (fun h => s_fldPtr (.tmp rfl) T34 rfl rfl rfl rfl)) ?_
  refine ar0 (s_guard rfl rfl rfl (fun h => s_loadPtr (.opt rfl (o1 h)) rfl T31 rfl rfl rfl)) ?_
  refine ar0 (s_guard rfl rfl rfl (fun h => s_lenMap (.opt rfl (o1 h)) T31 rfl rfl)) ?_
  refine ar0 (s_guard rfl rfl rfl (fun h => s_cmp (.opt rfl (o1 h)) (.opt rfl (o1 h)) rfl rfl)) ?_
  refine ar0 (s_pick (.tmp rfl) (fun _ => .const _) (fun hp => .opt rfl (o1 hp)) rfl) ?_
  refine hK9 _ ?_
  refine awp_cond (.tmp rfl) (fun ht66 => ?_) (fun ht66 => ?_)
  ·exact (lw2_c ht66).elim
  ·skip
   refine awp_skip (hK8 _ ?_)
   refine awp_seq ?_; intro K10 hK10
   refine sr fun K11 hK11=>?_
   refine fP T34 ?_
   refine lP T31 ?_
   refine ar0 (s_lenMap (.tmp rfl) T31 rfl rfl) ?_
   refine ar0 (s_move (.const _) rfl) ?_
   refine hK11 _ ?_
   refine awp_block ?_
   refine awp_loop (fun n_ s_ => ∃ (i : Nat), (ofL ps).length - i = n_ ∧ (i ≤ (ofL ps).length) ∧ s_ = (⟨[(1, some (.lst 10 (ps.map Pse.av))), (2, some (.ptr 2 0)), (5, some (.ptr 5 0)), (7, some (bl (mB a ps))), (8, some (errA (mE a ps))), (9, some (.ptr 9 0)), (69, some (i64 (ofL ps).length)), (70, some (i64 i))], [(2, some (.box a.av.cells)), (5, some (.box (asA (ofL ps)).cells)), (9, some (.box (asA (ofL ps)).cells))]⟩ : AS))
    (n := ((fun (i : Nat) => (ofL ps).length - i) (0))) (s' := ((fun (i : Nat) => (⟨[(1, some (.lst 10 (ps.map Pse.av))), (2, some (.ptr 2 0)), (5, some (.ptr 5 0)), (7, some (bl (mB a ps))), (8, some (errA (mE a ps))), (9, some (.ptr 9 0)), (69, some (i64 (ofL ps).length)), (70, some (i64 i))], [(2, some (.box a.av.cells)), (5, some (.box (asA (ofL ps)).cells)), (9, some (.box (asA (ofL ps)).cells))]⟩ : AS)) (0)))
    (Wk.of (.k (.k (.k (.k (.k (.k (.k (.k .nil)))))))) (.cons rfl (.refl _) (.cons rfl (.refl _) (.cons rfl (.refl _) .nil)))) ⟨0, rfl, (Nat.zero_le _), rfl⟩ ?_
   intro n_ s_ hI K12 hK12
   obtain ⟨i, rfl, hi, rfl⟩ := hI
   refine sr fun K13 hK13=>?_
   refine ar0 (s_cmp (.tmp rfl) (.tmp rfl) rfl rfl) ?_
   refine hK13 _ ?_
   refine awp_seq ?_; intro K14 hK14
   refine awp_cond (.tmp rfl) (fun ht71 => ?_) (fun ht71 => ?_)
   ·have hin := lss_t ht71
    obtain ⟨w, hw⟩ := getx hin
    refine awp_skip (hK14 _ ?_)
    refine awp_seq ?_; intro K15 hK15
    refine awp_block ?_
    refine sr fun K16 hK16=>?_
    refine mT ?_
    refine aT ?_
    refine hK16 _ ?_
    refine awp_seq ?_; intro K17 hK17
    refine awp_region_draw mixedP ?_
    refine fP T34 ?_
    refine lP T30 ?_
    refine fP T34 ?_
    refine lP T31 ?_
    refine mT ?_
    refine ar0 (s_idxLst (.tmp rfl) (.tmp rfl) T31 rfl T62 rfl (by omega) (getmap hw) rfl) ?_
    refine ar0 (s_loadIptr (.tmp rfl) T62 rfl rfl rfl) ?_
    refine fP T34 ?_
    refine lP T31 ?_
    refine mT ?_
    refine ar0 (s_idxLst (.tmp rfl) (.tmp rfl) T31 rfl T62 rfl (by omega) (getmap hw) rfl) ?_
    refine ar0 (s_loadIptr (.tmp rfl) T62 rfl rfl rfl) ?_
    refine ar0 (s_call (same0 (hoo w (List.mem_of_getElem? hw))) (.cons (.tmp rfl) (.cons (.tmp rfl) (.cons (.tmp rfl) .nil))) rfl rfl) ?_
    refine ar0 (s_not (.tmp rfl) rfl) ?_
    refine ⟨by kernel_rfl, ?_⟩
    refine hK17 _ ?_
    refine awp_cond (.tmp rfl) (fun ht86 => ?_) (fun ht86 => ?_)
    ·cases ht86
    ·skip
     refine awp_skip (hK15 _ ?_)
     refine awp_region ?_
     refine ar0 (s_arithW (.tmp rfl) (.const _) rfl (i64_add1 (by unfold maxL; omega)) rfl) ?_
     refine mT ?_
     refine hK12 _ ((fun (i : Nat) => (⟨[(1, some (.lst 10 (ps.map Pse.av))), (2, some (.ptr 2 0)), (5, some (.ptr 5 0)), (7, some (bl (mB a ps))), (8, some (errA (mE a ps))), (9, some (.ptr 9 0)), (69, some (i64 (ofL ps).length)), (70, some (i64 i))], [(2, some (.box a.av.cells)), (5, some (.box (asA (ofL ps)).cells)), (9, some (.box (asA (ofL ps)).cells))]⟩ : AS)) (i + 1)) ((fun (i : Nat) => (ofL ps).length - i) (i + 1)) (Wk.of (.k (.k (.k (.k (.k (.k (.k (.k .nil)))))))) (.cons rfl (.refl _) (.cons rfl (.refl _) (.cons rfl (.refl _) .nil)))) ⟨i + 1, rfl, hin, rfl⟩ (by first | omega | (dsimp only; omega))
   ·skip
    refine awp_exit ?_
    refine hK10 _ ?_
    refine sr fun K18 hK18=>?_
    refine lP T34 ?_
    refine mT ?_
    refine ar0 (s_call (c_r28_Matches a hal ps hlok h4) (.cons (.tmp rfl) (.cons (.tmp rfl) .nil)) rfl rfl) ?_
    refine mT ?_
    refine ar0 (s_extract (.tmp rfl) rfl rfl) ?_
    refine ar0 (s_extract (.tmp rfl) rfl rfl) ?_
    refine aT ?_
    refine aT ?_
    refine hK18 _ ?_
    refine sr fun K19 hK19=>?_
    refine mT ?_
    refine mT ?_
    refine ar0 (s_boolEq (.tmp rfl) (.tmp rfl) T4 rfl rfl) ?_
    refine mT ?_
    refine ar0 (s_guard rfl rfl rfl (fun h => s_move (.tmp rfl) rfl)) ?_
    refine ar0 (s_guard rfl rfl rfl (fun h => s_call (c_base_Num (mE a ps)) (.cons (.opt rfl (o1 h)) .nil) rfl rfl)) ?_
    refine ar0 (s_guard rfl rfl rfl (fun h => s_move (.tmp rfl) rfl)) ?_
    refine ar0 (s_guard rfl rfl rfl (fun h => s_cmp (.opt rfl (o1 h)) (.opt rfl (o1 h)) rfl rfl)) ?_
    refine ar0 (s_pick (.tmp rfl) (fun hp => .opt rfl (o1 hp)) (fun _ => .const _) rfl) ?_
    refine aT ?_
    refine hK19 _ ?_
    refine awp_ret ⟨_, (.cons (.tmp rfl) .nil), ?_⟩
    exact fin_eq1 (by rw [show (mB a ps == mB a ps) = true from beq_self_eq_true _, show icmp .eql (mE a ps : Int) (mE a ps : Int) = true from beq_self_eq_true _]; rfl)
end Go.Lw
namespace Go.Lw
open Go.Proofs Go.Proofs.YtnjialefedaceaaGreat
open Go.ChangeShapes Go.WideShapes Go.ChangeAt Go.RowKit
theorem own : ownKnob Tryz.prog.godebug = none := by kernel_rfl
theorem laidOut : laidOutB Tryz.prog = true := by kernel_rfl
theorem cells_one_of {v : Value} (h : ∀ cs, v ≠ .agg cs) : v.cells = #[v] := by
 cases v <;> first | rfl | exact absurd rfl (h _)
theorem notAgg_slice {P : Program} {W : World} {r : Reach} {b0 : Nat} {t e : TypeId} {v : Value} (ht : P.underlying t = some (.slice e)) (hval : Value.okWide P W r b0 t v) : v.cells = #[v] := by
 refine cells_one_of (fun cs h => ?_)
 subst h
 unfold Value.okWide at hval
 rw [ht] at hval
 unfold Cell.okWide at hval
 rw [ht] at hval
 unfold Cell.ok at hval
 rw [ht] at hval
 exact hval
/-- Every place of an argument reads behind the call as before. -/
theorem arg_back {H : Type} {enc : TypeId × Value → H} {W W' : World} {t : TypeId} {v : Value} {d : DataW H} {ps : List MemPlace} {sp' : Nat → Bool} (hr : Tryz.prog.readableRec t = true) (ht : t < Tryz.prog.types.size)
  (h : DataW.Trod enc Tryz.prog W 0 (fun _ => true) true t v d ps) (hb : Below W.heap.size W W') (hlt : ∀ x ∈ ps, x.block < W.heap.size) (hs : ∀ p ∈ ps, sp' p.block = true) : DataW.Trod enc Tryz.prog W' 0 sp' true t v d ps :=
 WideElems.Trod_stays laidOut hr ht h (fun x hx => hb.same (hlt x hx)) hs
set_option maxRecDepth 100000 in
theorem matches_lifted (os : Os) (started : os.Started) (H : Type) (enc : TypeId × Value → H) :
  ReturnsInHanded {} Tryz.checked os 4 .any (Rows.certifyMatchesSpec.pre6 enc Tryz.prog Tryz.f4 Rows.certifyMatchesRow.domain false) (Rows.certifyMatchesSpec.post enc Tryz.prog Tryz.f4 false true false false) := by
 refine returnsInHanded_of_change_sized (C := Tryz.checked) own started (by kernel_rfl) Tryz.func4
  (ChangeSpec.witness6 (enc := enc) (C := Tryz.checked) false ⟨#[], #[.agg #[.slice none 0 0, .slice none 0 0, .slice none 0 0], .slice none 0 0], []⟩ 8 (by kernel_rfl) (by kernel_rfl) (by kernel_rfl) (by kernel_rfl)) ?_
 intro W base args ds gs before hval0 hW hcnd hwt0 _
 have hval : ∀ (j : Nat) t v, Tryz.f4.params[j]? = some t → args[j]? = some v → Value.okWide Tryz.prog W .any base t v := hval0
 have hwt : (DataW.weightsEach Tryz.prog (Tryz.f4.params.toList ++ Rows.certifyMatchesSpec.plain.varTypes Tryz.prog) (ds ++ gs)).all (· ≤ reachBytes) = true := hwt0
 have hW' := hW
 obtain ⟨p, q, hA0, hV, rfl, hfz, hnd⟩ := hW
 have hA : DataW.TrodAll enc Tryz.prog W 0 (fun _ => true) true Tryz.f4.params.toList args.toList ds p := hA0
 rw [Tryz.params4] at hA hval hwt
 obtain ⟨v0, v1, d0, d1, p0, p1, rfl, rfl, rfl, h0, h1⟩ := trodAll_two hA
 obtain ⟨rfl, rfl⟩ := trodVars_none hV
 clear hA0 hval0 hwt0
 have hlt : ∀ x ∈ p0 ++ p1, x.block < W.heap.size := fun x hx => hW'.lt x (by simpa using hx)
 have hw0 : ∀ n ∈ d0.weights Tryz.prog 34, n ≤ reachBytes := fun n hn => by
  have := List.all_eq_true.1 hwt n (DataW.weights_mem_each (j := 0) rfl rfl n hn)
  simpa using this
 have hw1 : ∀ n ∈ d1.weights Tryz.prog 48, n ≤ reachBytes := fun n hn => by
  have := List.all_eq_true.1 hwt n (DataW.weights_mem_each (j := 1) rfl rfl n hn)
  simpa using this
 obtain ⟨a, ha, hra⟩ := arg_agg Tryz.underlying34 op_asm (hval 0 34 v0 rfl rfl) h0 hw0
 obtain ⟨ps, hp, hrp⟩ := arg_one op_poses (fun _ => rfl) (notAgg_slice Tryz.underlying48 (hval 1 48 v1 rfl rfl)) h1 hw1
 have hc := FnC.calls (W := W) (vs := #[v0, v1]) (c_law_Matches a ha ps hp.1 hp.2) rfl (fun j v x hv hx => by
  match j, hv, hx with
  | 0, hv, hx => cases hv; cases hx; exact hra
  | 1, hv, hx => cases hv; cases hx; exact hrp)
 refine hc.mono fun e W' ⟨he, hb⟩ => ?_
 subst he
 refine ⟨_, rfl, post_of_below hW' rfl rfl (fun _ _ _ => trodAll_mk1 (shut_bool Tryz.underlying4 _)) (fun sp hsp => ?_) rfl hb (ok_one (by kernel_rfl) rfl (okWide_bool_mk Tryz.underlying4 _))⟩
 rw [Tryz.params4]
 have hs : ∀ x ∈ p0 ++ p1, sp x.block = true := fun x hx => hsp x (by simpa using hx)
 have g := trodAll_mk2 (arg_back (sp' := sp) (by kernel_rfl) (of_decide_eq_true (by kernel_rfl)) h0 hb (fun x hx => hlt x (List.mem_append_left _ hx)) (fun x hx => hs x (List.mem_append_left _ hx)))
  (arg_back (sp' := sp) (by kernel_rfl) (of_decide_eq_true (by kernel_rfl)) h1 hb (fun x hx => hlt x (List.mem_append_right _ hx)) (fun x hx => hs x (List.mem_append_right _ hx)))
 rw [show p0 ++ p1 ++ [] = p0 ++ p1 from List.append_nil _]
 exact g
theorem certifyMatches_holds : Rows.CertifyMatchesSaid :=
 OpenClaim.holds_of_wide 4 Tryz.f4 rfl rfl rfl rfl rfl rfl rfl ⟨rfl, rfl, rfl, rfl, rfl⟩ rfl rfl rfl rfl rfl (by kernel_rfl) Tryz.func4 (by kernel_rfl)
  (of_decide_eq_true (by kernel_rfl)) (by unfold Func.isWrapper; first | (rw [if_pos (by decide +kernel)]; kernel_rfl) | (rw [if_neg (by decide +kernel)]; exact ⟨rfl, rfl⟩))
  (fun os started H enc _ => matches_lifted os started H enc)
end Go.Lw
namespace Go.Proofs.YtnjialefedaceaaGreat
theorem certifyMatches_proved : Rows.CertifyMatchesSaid := Go.Lw.certifyMatches_holds
end Go.Proofs.YtnjialefedaceaaGreat
