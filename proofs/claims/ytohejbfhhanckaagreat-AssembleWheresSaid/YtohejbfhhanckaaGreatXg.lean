/- AssembleWheres: for any assembly, any body and any point the law returns true and leaves its arguments as they were. No condition. Part 7 of 7: the statement -/
import Derived.Test.YtohejbfhhanckaaGreatXf
set_option linter.unusedVariables false
namespace Go.Lw
open Go.Proofs
theorem c_base_Num0 : FnC Tryz.prog 11 [.v .nilIface] (i64 0) := by
 refine gF0 Tryz.func11 ?_
 refine gC (fun ht6 => ?_) (fun ht6 => ?_) (st2 := (77777, 0))
 ·refine gE1 ?_
  first | rfl | (simp; done)
 ·cases ht6
theorem c_base_Num1 (n : Int) : FnC Tryz.prog 11 [.v (.iface 93 (.int .i64 n))] (i64 n) := by
 refine gF0 Tryz.func11 ?_
 refine gC (fun ht6 => ?_) (fun ht6 => ?_) (st1 := (2, 0))
 ·cases ht6
 ·refine gs (s_assert (.tmp rfl) T93 rfl rfl) ?_
  refine gC (fun ht13 => ?_) (fun ht13 => ?_) (st1 := (5, 0))
  ·cases ht13
  ·refine gE1 ?_
   rfl
theorem c_base_Num (e : Nat) : FnC Tryz.prog 11 [errA e] (i64 e) := by
 cases e with
 | zero => exact c_base_Num0
 | succ e => exact c_base_Num1 _
end Go.Lw
namespace Go.Lw
open Go.Proofs
theorem al_sz {a : As} (h : AL a) (hc : chkE a.rs = 0) : 8 * 4000 + 4 * kB 40000 a.rs.length + 4 ≤ lm a.rs.length := by
 obtain ⟨tw, _⟩ := chk_tw h.tr hc
 have h3 := tw.three
 rw [llq_len] at h3
 have h1 := eB_three 40000 h3
 have h2 := lm_ge a.rs.length
 show 8 * 4000 + 4 * eB 40000 a.rs.length + 4 ≤ _
 omega
theorem ixb_t {k : Int} {n : Nat} (h : cond (icmp .lss k 0) true (icmp .geq k (n : Int)) = true) : k < 0 ∨ (n : Int) ≤ k := by
 by_cases h1 : k < 0
 ·exact .inl h1
 ·refine .inr ?_
  have h2 : icmp .lss k 0 = false := decide_eq_false h1
  rw [h2] at h
  exact of_decide_eq_true (p := k ≥ n) h
theorem ixb_f {k : Int} {n : Nat} (h : cond (icmp .lss k 0) true (icmp .geq k (n : Int)) = false) : ¬ (k < 0 ∨ (n : Int) ≤ k) := by
 intro h1
 by_cases h2 : k < 0
 ·rw [show icmp .lss k 0 = true from decide_eq_true h2] at h; cases h
 ·rw [show icmp .lss k 0 = false from decide_eq_false h2] at h
  have h3 : ¬ (k ≥ n) := of_decide_eq_false h
  omega
theorem ix_nat {k : Int} {n : Nat} (h : ¬ (k < 0 ∨ (n : Int) ≤ k)) : ∃ i : Nat, k = i ∧ i < n := ⟨k.toNat, by omega, by omega⟩
/-- The error of a place of a body. -/
def whE (a : As) (k : Int) : Nat :=
  if chkE a.rs ≠ 0 then chkE a.rs else if k < 0 ∨ (a.bs.length : Int) ≤ k then 9 else chksE a.rs (a.bs.getD k.toNat default).l
theorem wh_1 {a : As} {k : Int} (h : chkE a.rs ≠ 0) : whE a k = chkE a.rs := by unfold whE; rw [if_pos h]
theorem wh_2 {a : As} {k : Int} (h : chkE a.rs = 0) (hk : k < 0 ∨ (a.bs.length : Int) ≤ k) : whE a k = 9 := by unfold whE; rw [if_neg (by omega), if_pos hk]
theorem wh_3 {a : As} {i : Nat} {b : Pl} (h : chkE a.rs = 0) (hb : a.bs[i]? = some b) : whE a (i : Int) = chksE a.rs b.l := by
 have hi := (List.getElem?_eq_some_iff.1 hb).1
 unfold whE
 rw [if_neg (by omega), if_neg (by omega), Int.toNat_natCast, getD_of hb]
theorem sub_pt0 (x y : List Rat) (hx : x = []) (hy : y = []) : Sub (.agg [.v (.slice none 0 0), .v (.slice none 0 0)]) (ptA x y) := by
 subst hx; subst hy
 exact Sub.agg (.cons (.nil _ _ _) (.cons (.nil _ _ _) .nil)) rfl
def wxP (a : As) (k : Int) (x y : Rt) : List Rat := if whE a k = 0 then whX a.rs (a.bs.getD k.toNat default) x y else []
def wyP (a : As) (k : Int) (x y : Rt) : List Rat := if whE a k = 0 then whY a.rs (a.bs.getD k.toNat default) x y else []
theorem wxP_0 {a : As} {k : Int} {x y : Rt} (h : whE a k ≠ 0) : wxP a k x y = [] := if_neg h
theorem wyP_0 {a : As} {k : Int} {x y : Rt} (h : whE a k ≠ 0) : wyP a k x y = [] := if_neg h
theorem wxP_1 {a : As} {i : Nat} {b : Pl} {x y : Rt} (h : whE a i = 0) (hb : a.bs[i]? = some b) : wxP a i x y = whX a.rs b x y := by unfold wxP; rw [if_pos h, Int.toNat_natCast, getD_of hb]
theorem wyP_1 {a : As} {i : Nat} {b : Pl} {x y : Rt} (h : whE a i = 0) (hb : a.bs[i]? = some b) : wyP a i x y = whY a.rs b x y := by unfold wyP; rw [if_pos h, Int.toNat_natCast, getD_of hb]
theorem wxP_2 {a : As} {i : Nat} {b : Pl} {x y : Rt} (h : chkE a.rs = 0) (hb : a.bs[i]? = some b) : wxP a i x y = if chksE a.rs b.l = 0 then whX a.rs b x y else [] := by unfold wxP; rw [wh_3 h hb, Int.toNat_natCast, getD_of hb]
theorem wyP_2 {a : As} {i : Nat} {b : Pl} {x y : Rt} (h : chkE a.rs = 0) (hb : a.bs[i]? = some b) : wyP a i x y = if chksE a.rs b.l = 0 then whY a.rs b x y else [] := by unfold wyP; rw [wh_3 h hb, Int.toNat_natCast, getD_of hb]
abbrev whP (a : As) (k : Int) (x y : Rt) : AV := .agg [nA (wxP a k x y), nA (wyP a k x y)]
theorem eqT_refl (ts : List (List Rat)) (z : T ts.length) : eqT ts z z = true := by
 have h := eqE_refl (ts := ts) z
 unfold eqE sgE at h
 exact h
theorem c_r11_AtR (rs : List (List Rt)) (r e : Nat) (h : TR rs r) (h1 : chkE rs = 0) (b : Pl) (hb : ∀ x ∈ b.l, NR x e) (hc : chksE rs b.l = 0) (x y : Rt) (hx : x.ok) (hy : y.ok) (qx : Qb e x.q) (qy : Qb e y.q) (he : 8 * e + 4 * kB r rs.length + 4 ≤ lm rs.length) :
  FnC Tryz.prog 13 [towR rs, b.av, x.av, y.av] (ptA (whX rs b x y) (whY rs b x y)) := by
 obtain ⟨tw, etw⟩ := chk_tw h h1
 have pn := pln_of h hb hc
 rw [etw, pn.av]
 rw [← len_llq rs] at he
 have hlm := lm_le (llq rs).length
 have nx := Nm.ofQ pn.c.five (Cb.one qx)
 have ny := Nm.ofQ pn.c.five (Cb.one qy)
 have nX := turn_nmX tw pn.c pn.s nx ny
 have nY := turn_nmY tw pn.c pn.s nx ny
 have z1 : e ≤ 2 * (e + e + kB r (llq rs).length) + 1 := by omega
 have z2 : 2 * (2 * (e + e + kB r (llq rs).length) + 1) ≤ lm (llq rs).length := at_size he
 have hadd := c_r11_Add tw nX nY (pn.x.mono z1) (pn.y.mono z1) z2
 refine gF0 Tryz.func13 ?_
 refine gc (c_r11_OfR x y hx hy (qx.qs (by omega)) (qy.qs (by omega))) ?_
 refine gc (c_r11_Turn tw pn.c pn.s nx ny (by omega)) ?_
 refine gc hadd ?_
 refine gD ?_
 refine gE1 ?_
 rw [at_ap1, at_ap2]; rfl
theorem c_asm_Where (a : As) (al : AL a) (k : Int) (x y : Rt) (hx : x.ok) (hy : y.ok) (qx : Qb 4000 x.q) (qy : Qb 4000 y.q) :
  FnC Tryz.prog 9 [a.av, i64 k, x.av, y.av] (.tup [whP a k x y, errA (whE a k)]) := by
 have hbl := al.bl
 refine gF0 Tryz.func9 ?_
 refine gc (c_tower_Check a.rs 40000 al.tr) ?_
 refine gC (fun ht15 => ?_) (fun ht15 => ?_)
 ·have h1 := nNil_t ht15
  refine gR ?_
  exact fin_sub (by rw [wh_1 h1]; exact Sub.tup (.cons (sub_pt0 _ _ (wxP_0 (by rw [wh_1 h1]; exact h1)) (wyP_0 (by rw [wh_1 h1]; exact h1))) (.cons (.refl _) .nil)))
 ·have h1 := nNil_f ht15
  refine glG ?_
  refine gC (fun ht26 => ?_) (fun ht26 => ?_)
  ·have h2 := ixb_t ht26
   refine gR ?_
   exact fin_sub (by rw [wh_2 h1 h2]; exact Sub.tup (.cons (sub_pt0 _ _ (wxP_0 (by rw [wh_2 h1 h2]; decide)) (wyP_0 (by rw [wh_2 h1 h2]; decide))) (.cons (.refl _) .nil)))
  ·have h2 := ixb_f ht26
   obtain ⟨i, rfl, hi⟩ := ix_nat h2
   obtain ⟨b, hb⟩ := getx hi
   have hsz := al_sz al h1
   refine gi (getmap hb) ?_
   refine gc (c_point_AtE a.rs 40000 4000 al.tr h1 b (al.nr b (List.mem_of_getElem? hb)) x y hx hy qx qy hsz) ?_
   refine gD ?_
   refine gE2 ?_
   show _ = AV.tup [AV.agg [nA (wxP a (i : Nat) x y), nA (wyP a (i : Nat) x y)], _]; rw [wh_3 h1 hb, wxP_2 h1 hb, wyP_2 h1 hb]
theorem lw20_f {n : Nat} {p q : Bool} (h : cond (cond (cond (!true) true (icmp .gtr (n : Int) 20)) true (!p)) true (!q) = false) : n ≤ 20 ∧ p = true ∧ q = true := by
 cases h1 : icmp .gtr (n : Int) 20
 ·rw [h1] at h
  exact ⟨gtr_f h1, by cases p <;> cases q <;> simp_all, by cases p <;> cases q <;> simp_all⟩
 ·rw [h1] at h; cases p <;> cases q <;> simp_all
theorem light_xy {x y : Rt} (h : lightB [] [[x, y]] = true) (hx : x.wok) (hy : y.wok) : (x.ok ∧ y.ok) ∧ Qb 4000 x.q ∧ Qb 4000 y.q := by
 have h1 : briefX 3 40 [x, y] = true := by
  have h2 : lightB [] [[x, y]] = briefB 3 40 [[x, y]] := by unfold lightB; rw [if_pos (.inl (Nat.zero_le _))]; rfl
  rw [h2] at h
  unfold briefB at h
  rw [List.all_eq_true] at h
  exact h _ (List.mem_singleton.2 rfl)
 obtain ⟨_, h2, h3⟩ := brief_x h1 (by omega) (by omega) (fun r hr => by
  simp only [List.mem_cons, List.not_mem_nil, or_false] at hr
  rcases hr with rfl | rfl <;> assumption)
 exact ⟨⟨h3 x (by simp), h3 y (by simp)⟩, (h2 x.q (by simp [lq])).mono (by omega), (h2 y.q (by simp [lq])).mono (by omega)⟩
theorem rs_xy {x y : Rt} (hx : x.wok) (hy : y.wok) : RsOk [[x, y]] := fun l hl => by
 rw [List.mem_singleton.1 hl]
 refine ⟨fun r hr => ?_, by show 2 ≤ _; omega⟩
 simp only [List.mem_cons, List.not_mem_nil, or_false] at hr
 rcases hr with rfl | rfl <;> assumption
theorem chks0 (rs : List (List Rt)) : chksE rs [] = chkE rs := by
 unfold chksE
 by_cases h : chkE rs = 0
 ·rw [if_neg (by omega), h]; rfl
 ·rw [if_pos h]
/-- The error before the body is looked at. -/
def whA (a : As) (k : Int) : Nat := if chkE a.rs ≠ 0 then chkE a.rs else if k < 0 ∨ (a.bs.length : Int) ≤ k then 9 else 0
theorem ixw_t {c : Nat} {k : Int} {n : Nat} (h : cond (icmp .eql (c : Int) 0) (cond (icmp .lss k 0) true (icmp .geq k (n : Int))) false = true) : c = 0 ∧ (k < 0 ∨ (n : Int) ≤ k) := by
 cases h1 : icmp .eql (c : Int) 0
 ·rw [h1] at h; cases h
 ·rw [h1] at h; exact ⟨eql0_t h1, ixb_t h⟩
theorem ixw_f {c : Nat} {k : Int} {n : Nat} (h : cond (icmp .eql (c : Int) 0) (cond (icmp .lss k 0) true (icmp .geq k (n : Int))) false = false) : c ≠ 0 ∨ ¬ (k < 0 ∨ (n : Int) ≤ k) := by
 cases h1 : icmp .eql (c : Int) 0
 ·exact .inl (eql0_f h1)
 ·rw [h1] at h; exact .inr (ixb_f h)
theorem wh_0 {a : As} {k : Int} (h : whE a k = 0) : ∃ (i : Nat) (b : Pl), k = (i : Int) ∧ a.bs[i]? = some b ∧ chkE a.rs = 0 ∧ chksE a.rs b.l = 0 := by
 unfold whE at h
 split at h
 ·rename_i h1; exact absurd h h1
 ·split at h
  ·cases h
  ·rename_i h1 h2
   obtain ⟨i, rfl, hi⟩ := ix_nat h2
   obtain ⟨b, hb⟩ := getx hi
   rw [Int.toNat_natCast, getD_of hb] at h
   exact ⟨i, b, rfl, hb, by omega, h⟩
theorem wh_nm {rs : List (List Rt)} {r e : Nat} (h : TR rs r) (h1 : chkE rs = 0) {b : Pl} (hb : ∀ x ∈ b.l, NR x e) (hc : chksE rs b.l = 0) {x y : Rt} (qx : Qb e x.q) (qy : Qb e y.q) :
  Nm (llq rs).length (2 * (e + e + kB r (llq rs).length) + 1 + e + 1) (whX rs b x y) ∧ Nm (llq rs).length (2 * (e + e + kB r (llq rs).length) + 1 + e + 1) (whY rs b x y) := by
 obtain ⟨tw, etw⟩ := chk_tw h h1
 have pn := pln_of h hb hc
 have nx := Nm.ofQ pn.c.five (Cb.one qx)
 have ny := Nm.ofQ pn.c.five (Cb.one qy)
 have h2 := (turn_nmX tw pn.c pn.s nx ny).add pn.x
 have h3 := (turn_nmY tw pn.c pn.s nx ny).add pn.y
 rw [at_ap1] at h2
 rw [at_ap2] at h3
 exact ⟨h2, h3⟩
theorem wh_eq {a : As} (al : AL a) (h1 : chkE a.rs = 0) {b : Pl} (hb : ∀ x ∈ b.l, NR x 4000) (hc : chksE a.rs b.l = 0) {x y : Rt} (qx : Qb 4000 x.q) (qy : Qb 4000 y.q) :
  FnC Tryz.prog 12 [towR a.rs, ptA (whX a.rs b x y) (whY a.rs b x y), ptA (whX a.rs b x y) (whY a.rs b x y)] (bl true) := by
 obtain ⟨tw, etw⟩ := chk_tw al.tr h1
 obtain ⟨e, he⟩ : ∃ e : Nat, 4000 = e := ⟨_, rfl⟩
 rw [he] at hb qx qy
 obtain ⟨nx, ny⟩ := wh_nm al.tr h1 hb hc qx qy
 have hk := kb4 tw.three
 have hlm := lm_ge (llq a.rs).length
 obtain ⟨K, hK⟩ : ∃ K, kB 40000 (llq a.rs).length = K := ⟨_, rfl⟩
 rw [hK] at nx ny hk
 clear hK
 have h := c_r11_EqualPoint tw nx ny nx ny (by omega)
 rw [eqT_refl, eqT_refl, ← etw] at h
 exact h
abbrev askA (k : Int) (x y : Rt) : List AV := [i64 k, bl x.neg, ws x.num, ws x.den, bl y.neg, ws y.num, ws y.den]
theorem c_law_Wheres (a : As) (ha : a.ok) (k : Int) (x y : Rt) (hxw : x.wok) (hyw : y.wok) : FnC Tryz.prog 3 [a.av, .agg (askA k x y)] (bl true) := by
 have hbl := ha.bl
 refine gF0 Tryz.func3 ?_
 refine gc c_l27_awake ?_
 refine glG ?_
 refine gcG (fun _ => (Con.subA (.cons (.refl _) (.cons (Sub.nil 1 none 0) .nil)) (c_l11_Light a.rs [] ha.rs rs_nil ha.rl (by show 0 ≤ 100; omega)))) ?_
 refine gcG (fun _ => (Con.subA (.cons (Sub.agg (.cons (Sub.nil 1 none 0) .nil) rfl) (.cons (.refl _) .nil)) (c_l11_Light [] [[x, y]] rs_nil (rs_xy hxw hyw) (by show 0 ≤ _; omega) (by show 1 ≤ 100; omega)))) ?_
 refine gC (fun ht35 => ?_) (fun ht35 => ?_)
 ·refine gc c_l27_awake ?_
  refine gE1 ?_
  first | rfl | (simp; done)
 ·obtain ⟨hl20, h2, h3⟩ := lw20_f ht35
  obtain ⟨⟨hx, hy⟩, qx, qy⟩ := light_xy h3 hxw hyw
  refine gl ?_
  refine gL1 [2, 3, 38, 39] [2, 3] (fun (i : Nat) => [(40, some (i64 i))]) (fun _ => []) (fun i => i ≤ a.bs.length ∧ (a.bs.take i).all (fun b => lightB a.rs b.l) = true) (fun i => a.bs.length - i) 0 ⟨Nat.zero_le _, rfl⟩ ?_
  rintro i ⟨hi, hj⟩ K1 hK1
  refine gC (fun ht41 => ?_) (fun ht41 => ?_)
  ·have hin := lss_t ht41
   obtain ⟨b, hb⟩ := getx hin
   have hbo := ha.bs b (List.mem_of_getElem? hb)
   refine gi (getmap hb) ?_
   refine gc (c_l11_Light a.rs b.l ha.rs hbo ha.rl (by show 4 ≤ 100; omega)) ?_
   refine gC (fun ht56 => ?_) (fun ht56 => ?_)
   ·refine gE1 ?_
    first | rfl | (simp; done)
   ·have h1 := not_f ht56
    refine ga (i64_add1 (by unfold maxL; omega)) ?_
    exact gK1 hK1 (i + 1) ⟨hin, all_step hj hb h1⟩
  ·have hall := all_end (lss_end hi ht41) hj
   rw [List.all_eq_true] at hall
   have hlt := light_lt h2 ha.rs rs_nil
   have al : AL a := ⟨hlt.tr, fun b hb => (light_lt (hall b hb) ha.rs (ha.bs b hb)).nr, hlt.ll, hl20⟩
   refine gc (c_asm_Where a al k x y hx hy qx qy) ?_
   refine gc (Con.subA (.cons (.refl _) (.cons (Sub.nil 1 none 0) .nil)) (c_r11_Bad a.rs 40000 0 al.tr [] (fun x hx => by cases hx) (Nat.zero_le _) (by show 0 ≤ 1000; omega))) ?_
   refine glG ?_
   refine gJ1 [2, 3, 7, 8] [2, 3, 7] (fun (c : Nat) => [(9, some (i64 c))]) (fun _ => []) (fun c => c = whA a k) ?_ ?_
   ·intro K2 hK2
    refine gC (fun ht86 => ?_) (fun ht86 => ?_)
    ·obtain ⟨h4, h5⟩ := ixw_t ht86
     exact jK1 hK2 9 (by rw [chks0] at h4; unfold whA; rw [if_neg (by omega), if_pos h5])
    ·have h4 := ixw_f ht86
     exact jK1 hK2 (chksE a.rs []) (by rw [chks0] at h4 ⊢; unfold whA; split; rfl; (rename_i h6; rcases h4 with h4 | h4; exact absurd h4 h6; (rw [if_neg h4]; omega)))
   ·rintro c hc
    refine gJ1 [2, 3, 7, 8] [2, 3, 7] (fun (c : Nat) => [(9, some (i64 c))]) (fun _ => []) (fun c => c = whE a k) ?_ ?_
    ·intro K3 hK3
     refine gC (fun ht88 => ?_) (fun ht88 => ?_)
     ·have h4 := eql0_t ht88
      have h6 : chkE a.rs = 0 ∧ ¬ (k < 0 ∨ (a.bs.length : Int) ≤ k) := by
       rw [hc] at h4; unfold whA at h4
       split at h4
       ·rename_i h5; exact absurd h4 h5
       ·split at h4
        ·cases h4
        ·rename_i h5 h6; exact ⟨by omega, h6⟩
      obtain ⟨h6, h7⟩ := h6
      obtain ⟨i, rfl, hi⟩ := ix_nat h7
      obtain ⟨b, hb⟩ := getx hi
      have hnr := al.nr b (List.mem_of_getElem? hb)
      refine gi (getmap hb) ?_
      refine gc (c_r11_Bad a.rs 40000 4000 al.tr b.l hnr (by have := lm_ge a.rs.length; omega) (by show 4 ≤ 1000; omega)) ?_
      exact jK1 hK3 (chksE a.rs b.l) ((wh_3 h6 hb).symm)
     ·have h4 := eql0_f ht88
      exact jK1 hK3 c (by rw [hc] at h4 ⊢; unfold whA at h4 ⊢; unfold whE; split; rfl; (split; rfl; (rename_i h5 h6; rw [if_neg h5, if_neg h6] at h4; exact absurd rfl h4)))
    ·rintro c hd
     refine gC (fun ht108 => ?_) (fun ht108 => ?_)
     ·subst hd
      have h4 := neq_t ht108
      rw [wxP_0 h4, wyP_0 h4]
      refine gc (c_base_Num (whE a k)) ?_
      refine glG ?_
      refine glG ?_
      refine gaG (fun _ => rfl) ?_
      refine gE1 ?_
      rw [show icmp .eql ((whE a k : Nat) : Int) ((whE a k : Nat) : Int) = true from by simp [icmp]]; rfl
     ·subst hd
      have h4 := neq_f ht108
      obtain ⟨i, b, rfl, hb, h6, h7⟩ := wh_0 h4
      have hnr := al.nr b (List.mem_of_getElem? hb)
      rw [wxP_1 h4 hb, wyP_1 h4 hb, h4]
      have hE := wh_eq al h6 hnr h7 qx qy
      refine giG (fun _ => (getmap hb)) ?_
      refine gcG (fun _ => (c_r11_AtR a.rs 40000 4000 al.tr h6 b hnr h7 x y hx hy qx qy (al_sz al h6))) ?_
      refine gcG (fun _ => hE) ?_
      refine gD ?_
      refine gE1 ?_
      first | rfl | (simp; done)
end Go.Lw
namespace Go.Lw
open Go.Proofs Go.Proofs.YtohejbfhhanckaaGreat
open Go.ChangeShapes Go.WideShapes Go.ChangeAt Go.RowKit
set_option maxRecDepth 100000 in
theorem assembleWheres_lifted (os : Os) (started : os.Started) (H : Type) (enc : TypeId × Value → H) :
  ReturnsInHanded {} Tryz.checked os 3 .any (Rows.assembleWheresSpec.pre6 enc Tryz.prog Tryz.f3 Rows.assembleWheresRow.domain false) (Rows.assembleWheresSpec.post enc Tryz.prog Tryz.f3 false true false false) := by
 refine returnsInHanded_of_change_sized (C := Tryz.checked) own started (by kernel_rfl) Tryz.func3
  (ChangeSpec.witness6 (enc := enc) (C := Tryz.checked) false ⟨#[], #[.agg #[.slice none 0 0, .slice none 0 0, .slice none 0 0], .agg #[.int .i64 0, .bool false, .slice none 0 0, .slice none 0 0, .bool false, .slice none 0 0, .slice none 0 0]], []⟩ 8 (by kernel_rfl) (by kernel_rfl) (by kernel_rfl) (by kernel_rfl)) ?_
 intro W base args ds gs before hval0 hW hcnd hwt0 _
 have hval : ∀ (j : Nat) t v, Tryz.f3.params[j]? = some t → args[j]? = some v → Value.okWide Tryz.prog W .any base t v := hval0
 have hwt : (DataW.weightsEach Tryz.prog (Tryz.f3.params.toList ++ Rows.assembleWheresSpec.plain.varTypes Tryz.prog) (ds ++ gs)).all (· ≤ reachBytes) = true := hwt0
 have hW' := hW
 obtain ⟨p, q, hA0, hV, rfl, hfz, hnd⟩ := hW
 have hA : DataW.TrodAll enc Tryz.prog W 0 (fun _ => true) true Tryz.f3.params.toList args.toList ds p := hA0
 rw [Tryz.params3] at hA hval hwt
 obtain ⟨v0, v1, d0, d1, p0, p1, rfl, rfl, rfl, h0, h1⟩ := trodAll_two hA
 obtain ⟨rfl, rfl⟩ := trodVars_none hV
 clear hA0 hval0 hwt0
 have hlt : ∀ x ∈ p0 ++ p1, x.block < W.heap.size := fun x hx => hW'.lt x (by simpa using hx)
 have hw0 : ∀ n ∈ d0.weights Tryz.prog 28, n ≤ reachBytes := fun n hn => by
  have := List.all_eq_true.1 hwt n (DataW.weights_mem_each (j := 0) rfl rfl n hn)
  simpa using this
 have hw1 : ∀ n ∈ d1.weights Tryz.prog 33, n ≤ reachBytes := fun n hn => by
  have := List.all_eq_true.1 hwt n (DataW.weights_mem_each (j := 1) rfl rfl n hn)
  simpa using this
 obtain ⟨x0, q0, r0⟩ := arg_agg Tryz.underlying28 op_asm (hval 0 28 v0 rfl rfl) h0 hw0
 obtain ⟨x1, q1, r1⟩ := arg_agg Tryz.underlying33 op_asked (hval 1 33 v1 rfl rfl) h1 hw1
 have hc := FnC.calls (W := W) (vs := #[v0, v1]) (c_law_Wheres x0 q0 x1.1 x1.2.1 x1.2.2 q1.1 q1.2) rfl (fun j v x hv hx => by
  match j, hv, hx with
  | 0, hv, hx => cases hv; cases hx; exact r0
  | 1, hv, hx => cases hv; cases hx; exact r1)
 refine hc.mono fun e W' ⟨he, hb⟩ => ?_
 subst he
 refine ⟨_, rfl, post_of_below hW' rfl rfl (fun _ _ _ => trodAll_mk1 (shut_bool Tryz.underlying4 _)) (fun sp hsp => ?_) rfl hb (ok_one (by kernel_rfl) rfl (okWide_bool_mk Tryz.underlying4 _))⟩
 rw [Tryz.params3]
 have hs : ∀ x ∈ p0 ++ p1, sp x.block = true := fun x hx => hsp x (by simpa using hx)
 have g0 := arg_back (sp' := sp) (by kernel_rfl) (of_decide_eq_true (by kernel_rfl)) h0 hb (fun x hx => hlt x (by simp [hx])) (fun x hx => hs x (by simp [hx]))
 have g1 := arg_back (sp' := sp) (by kernel_rfl) (of_decide_eq_true (by kernel_rfl)) h1 hb (fun x hx => hlt x (by simp [hx])) (fun x hx => hs x (by simp [hx]))
 have g := trodAll_mk2 g0 g1
 rw [show p0 ++ p1 ++ [] = p0 ++ p1 from by simp]
 exact g
set_option maxRecDepth 100000 in
theorem assembleWheres_clo : Tryz.prog.closure 3 = [3, 7, 31, 66, 125, 33, 68, 130, 191, 69, 67, 126, 185, 265, 186, 127, 128, 187, 266, 271, 269, 267, 268, 189, 129, 188, 270, 190, 30, 63, 83, 145, 55, 106, 167, 233, 234, 299, 107, 134, 195, 197, 274, 276, 273, 294, 334, 335, 361, 336, 337, 348, 338, 339, 225, 152, 151, 196, 201, 275, 108, 168, 169, 235, 200, 222, 293, 109, 207, 282, 340, 367, 342, 370, 371, 369, 283, 341, 368, 344, 343, 284, 146, 208, 119, 136, 120, 65, 88, 150, 223, 224, 291, 292, 87, 149, 221, 135, 133, 198, 199, 64, 121, 177, 178, 123, 122, 179, 36, 71, 72, 137, 203, 278, 279, 280, 277, 202, 157, 228, 241, 301, 351, 242, 303, 362, 302, 352, 358, 378, 353, 373, 354, 374, 375, 355, 376, 377, 379, 356, 357, 359, 360, 92, 156, 180, 243, 304, 313, 363, 349, 372, 244, 245, 305, 306, 37, 73, 75, 74, 140, 159, 204, 139, 158, 141, 160, 138, 76, 93, 246, 307, 312, 227, 171, 236, 296, 260, 263, 226, 295, 114, 172, 261, 308, 247, 181, 248, 309, 250, 249, 310, 364, 311, 252, 251, 314, 326, 47, 327, 110, 315, 365, 170, 328, 323, 319, 329, 320, 316, 317, 318, 366, 321, 322, 324, 259, 332, 333, 253, 264, 182, 254, 325, 255, 183, 256, 330, 112, 257, 331, 258, 262, 124, 184, 32, 9, 34, 70, 131, 192, 143, 205, 206, 281, 193, 132, 194, 272, 12, 24, 52, 79, 38, 77, 142, 78, 101, 162, 144, 80, 102, 163, 99, 100, 161, 8, 35, 10, 39, 11, 13, 41, 26, 53, 49, 97, 50, 98, 40] := by kernel_rfl
theorem assembleWheres_closed : joinedFacts Tryz.prog 3 Tryz.f3 Rows.assembleWheresSpec Rows.assembleWheresRow = true := by
 unfold joinedFacts Program.recurses Program.inPlace Program.unfollowed Program.varsNamed
 rw [assembleWheres_clo]
 kernel_rfl
theorem assembleWheres_holds : Rows.AssembleWheresSaid :=
 OpenClaim.holds_of_wide 3 Tryz.f3 rfl rfl rfl rfl rfl rfl rfl ⟨rfl, rfl, rfl, rfl, rfl⟩ rfl rfl rfl rfl rfl (by kernel_rfl) Tryz.func3 assembleWheres_closed
  (of_decide_eq_true (by kernel_rfl)) (by unfold Func.isWrapper; first | (rw [if_pos (by decide +kernel)]; kernel_rfl) | (rw [if_neg (by decide +kernel)]; exact ⟨rfl, rfl⟩))
  (fun os started H enc _ => assembleWheres_lifted os started H enc)
end Go.Lw
namespace Go.Proofs.YtohejbfhhanckaaGreat
theorem assembleWheres_proved : Rows.AssembleWheresSaid := Go.Lw.assembleWheres_holds
end Go.Proofs.YtohejbfhhanckaaGreat
