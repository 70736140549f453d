/- CertifyMatches: for any assembly and any poses the law returns true and leaves its arguments as they were. No condition. Part 4 of 7: what the later parts need -/
import Derived.Test.YtnjialefedaceaaGreatXc
set_option linter.unusedVariables false
namespace Go.Lw
open Go.Proofs
theorem div_cond {b : Bool} {n : Nat} : (cond b (icmp .gtr ((ofNat n).length : Int) 0) false) = true ↔ (b = true ∧ 0 < n) := by
 have h : icmp .gtr ((ofNat n).length : Int) 0 = true ↔ 0 < n := by
  simp only [icmp, decide_eq_true_eq]
  constructor
  ·intro h; rcases Nat.eq_zero_or_pos n with h1 | h1; (subst h1; simp [ofNat_zero] at h); exact h1
  ·intro h
   have : ofNat n ≠ [] := by intro h1; have := val_ofNat n; rw [h1] at this; simp [val] at this; omega
   have := List.length_pos_iff.2 this
   omega
 cases b with
 | false => simp
 | true => exact ⟨fun h1 => ⟨rfl, h.1 h1⟩, fun h1 => h.2 h1.2⟩
theorem c_integer_Sign (a : Wh) (ha : a.ok) : FnC Tryz.prog 133 [a.av] (i64 a.z.sign) := by
 obtain ⟨e1, e2, e3⟩ := sign_end ha
 refine con_of0 (N := 11) (rs := [.tmp 2]) Tryz.func133 rfl rfl rfl rfl ?_
 refine sr fun K1 hK1=>?_
 refine bX ?_
 refine aC ?_
 refine hK1 _ ?_
 refine awp_seq ?_; intro K2 hK2
 refine awp_block ?_
 refine sr fun K3 hK3=>?_
 refine lP T123 ?_
 refine ar0 (s_call (c_integer_mag a ha) (.cons (.tmp rfl) .nil) rfl rfl) ?_
 refine ar0 (s_lenMap (.tmp rfl) T66 rfl rfl) ?_
 refine ar0 (s_cmp (.tmp rfl) (.const _) rfl rfl) ?_
 refine aT ?_
 refine hK3 _ ?_
 refine awp_cond (.tmp rfl) (fun ht3 => ?_) (fun ht3 => ?_)
 ·have h0 : a.m.length = 0 := by simpa [icmp] using ht3
  refine sr fun K4 hK4=>?_
  refine aC ?_
  refine hK4 _ ?_
  refine awp_ret ⟨_, (.cons (.tmp rfl) .nil), ?_⟩
  exact fin_eq1 (by rw [e1 h0]; rfl)
 ·have h0 : a.m.length ≠ 0 := by simpa [icmp] using ht3
  refine sr fun K5 hK5=>?_
  refine fP T123 ?_
  refine lP T4 ?_
  refine aT ?_
  refine hK5 _ ?_
  refine awp_cond (.tmp rfl) (fun ht8 => ?_) (fun ht8 => ?_)
  ·skip
   refine sr fun K6 hK6=>?_
   refine aC ?_
   refine hK6 _ ?_
   refine awp_ret ⟨_, (.cons (.tmp rfl) .nil), ?_⟩
   exact fin_eq1 (by rw [e2 h0 ht8]; rfl)
  ·skip
   refine awp_skip (hK2 _ ?_)
   refine sr fun K7 hK7=>?_
   refine aC ?_
   refine hK7 _ ?_
   refine awp_ret ⟨_, (.cons (.tmp rfl) .nil), ?_⟩
   exact fin_eq1 (by rw [e3 h0 ht8]; rfl)
theorem c_integer_Cmp (a b : Wh) (ha : a.ok) (hb : b.ok) : FnC Tryz.prog 129 [a.av, b.av] (i64 (cmp3 a.z b.z)) := by
 refine con_of0 (N := 28) (rs := [.tmp 4]) Tryz.func129 rfl rfl rfl rfl ?_
 refine sr fun K1 hK1=>?_
 refine bX ?_
 refine bX ?_
 refine aC ?_
 refine hK1 _ ?_
 refine awp_seq ?_; intro K2 hK2
 refine awp_seq ?_; intro K3 hK3
 refine awp_region_draw mixedP ?_
 refine lP T123 ?_
 refine ar0 (s_call (c_integer_Sign a ha) (.cons (.tmp rfl) .nil) rfl rfl) ?_
 refine lP T123 ?_
 refine ar0 (s_call (c_integer_Sign b hb) (.cons (.tmp rfl) .nil) rfl rfl) ?_
 refine aT ?_
 refine aT ?_
 refine ⟨by kernel_rfl, ?_⟩
 refine hK3 _ ?_
 refine sr fun K4 hK4=>?_
 refine mT ?_
 refine mT ?_
 refine ar0 (s_cmp (.tmp rfl) (.tmp rfl) rfl rfl) ?_
 refine hK4 _ ?_
 refine awp_cond (.tmp rfl) (fun ht14 => ?_) (fun ht14 => ?_)
 ·have h0 : a.z.sign ≠ b.z.sign := by simpa [icmp] using ht14
  obtain ⟨e1, e2⟩ := cmp_sign h0
  refine awp_seq ?_; intro K5 hK5
  refine sr fun K6 hK6=>?_
  refine mT ?_
  refine mT ?_
  refine ar0 (s_cmp (.tmp rfl) (.tmp rfl) rfl rfl) ?_
  refine hK6 _ ?_
  refine awp_cond (.tmp rfl) (fun ht17 => ?_) (fun ht17 => ?_)
  ·have h1 : a.z.sign < b.z.sign := by simpa [icmp] using ht17
   refine sr fun K7 hK7=>?_
   refine aC ?_
   refine hK7 _ ?_
   refine awp_ret ⟨_, (.cons (.tmp rfl) .nil), ?_⟩
   exact fin_eq1 (by rw [e1 h1]; rfl)
  ·have h1 : ¬ a.z.sign < b.z.sign := by simpa [icmp] using ht17
   refine awp_skip (hK5 _ ?_)
   refine sr fun K8 hK8=>?_
   refine aC ?_
   refine hK8 _ ?_
   refine awp_ret ⟨_, (.cons (.tmp rfl) .nil), ?_⟩
   exact fin_eq1 (by rw [e2 h1]; rfl)
 ·have h0 : a.z.sign = b.z.sign := by simpa [icmp] using ht14
  have e1 := cmp_same h0
  refine awp_skip (hK2 _ ?_)
  refine awp_seq ?_; intro K9 hK9
  refine awp_region_draw mixedP ?_
  refine lP T123 ?_
  refine ar0 (s_call (c_integer_mag a ha) (.cons (.tmp rfl) .nil) rfl rfl) ?_
  refine lP T123 ?_
  refine ar0 (s_call (c_integer_mag b hb) (.cons (.tmp rfl) .nil) rfl rfl) ?_
  refine ar0 (s_call (c_integer_compare a.m b.m (Wh.ws ha) (Wh.ws hb) a.nz b.nz) (.cons (.tmp rfl) (.cons (.tmp rfl) .nil)) rfl rfl) ?_
  refine aT ?_
  refine ⟨by kernel_rfl, ?_⟩
  refine hK9 _ ?_
  refine awp_seq ?_; intro K10 hK10
  refine sr fun K11 hK11=>?_
  refine lP T123 ?_
  refine ar0 (s_call (c_integer_neg a ha) (.cons (.tmp rfl) .nil) rfl rfl) ?_
  refine hK11 _ ?_
  refine awp_cond (.tmp rfl) (fun ht24 => ?_) (fun ht24 => ?_)
  ·rw [ht24, if_pos rfl] at e1
   refine sr fun K12 hK12=>?_
   refine mT ?_
   refine ar0 (s_neg (.tmp rfl) rfl) ?_
   refine aT ?_
   refine hK12 _ ?_
   refine awp_ret ⟨_, (.cons (.tmp rfl) .nil), ?_⟩
   exact fin_eq1 (by
    rw [e1]
    split
    ·rfl
    ·split <;> rfl)
  ·rw [ht24, if_neg Bool.false_ne_true] at e1
   refine awp_skip (hK10 _ ?_)
   refine sr fun K13 hK13=>?_
   refine mT ?_
   refine aT ?_
   refine hK13 _ ?_
   refine awp_ret ⟨_, (.cons (.tmp rfl) .nil), ?_⟩
   exact fin_eq1 (by first | (rw [e1]; done) | (rw [e1]; rfl))
theorem c_integer_Neg (a : Wh) (ha : a.ok) (la : a.mag.length < big) : FnC Tryz.prog 213 [a.av] (zA (-a.z)) := by
 refine con_of0 (N := 9) (rs := [.cell 2 123]) Tryz.func213 rfl rfl rfl rfl ?_
 refine sr fun K1 hK1=>?_
 refine bX ?_
 refine al T123 ?_
 refine hK1 _ ?_
 refine awp_seq ?_; intro K2 hK2
 refine awp_region_draw mixedP ?_
 refine lP T123 ?_
 refine ar0 (s_call (c_integer_neg a ha) (.cons (.tmp rfl) .nil) rfl rfl) ?_
 refine ar0 (s_not (.tmp rfl) rfl) ?_
 refine lP T123 ?_
 refine ar0 (s_call (c_integer_mag a ha) (.cons (.tmp rfl) .nil) rfl rfl) ?_
 refine ar0 (s_call (c_integer_whole _ a.m (Wh.ws ha) (Nat.le_of_lt (Wh.small ha la))) (.cons (.tmp rfl) (.cons (.tmp rfl) .nil)) rfl rfl) ?_
 refine sP T123 ?_
 refine ⟨by kernel_rfl, ?_⟩
 refine hK2 _ ?_
 refine awp_ret ⟨_, (.cons (.cell rfl rfl T123 rfl rfl) .nil), ?_⟩
 exact fin_eq (by rw [Wh.z_eq, ← sgn_neg]; rfl)
theorem c_integer_Mul (a b : Wh) (ha : a.ok) (hb : b.ok) (la : a.mag.length + b.mag.length ≤ big) : FnC Tryz.prog 211 [a.av, b.av] (zA (a.z * b.z)) := by
 have h1 := Wh.m_le (w := a)
 have h2 := Wh.m_le (w := b)
 have h3 : (ofNat (val a.m * val b.m)).length ≤ a.m.length + b.m.length := ofNat_length_le (by rw [Nat.pow_add]; exact Nat.mul_lt_mul'' (val_lt _ (Wh.ws ha)) (val_lt _ (Wh.ws hb)))
 refine con_of0 (N := 16) (rs := [.cell 4 123]) Tryz.func211 rfl rfl rfl rfl ?_
 refine sr fun K1 hK1=>?_
 refine bX ?_
 refine bX ?_
 refine al T123 ?_
 refine hK1 _ ?_
 refine awp_seq ?_; intro K2 hK2
 refine awp_region_draw mixedP ?_
 refine lP T123 ?_
 refine ar0 (s_call (c_integer_neg a ha) (.cons (.tmp rfl) .nil) rfl rfl) ?_
 refine lP T123 ?_
 refine ar0 (s_call (c_integer_neg b hb) (.cons (.tmp rfl) .nil) rfl rfl) ?_
 refine ar0 (s_boolNe (.tmp rfl) (.tmp rfl) T4 rfl rfl) ?_
 refine lP T123 ?_
 refine ar0 (s_call (c_integer_mag a ha) (.cons (.tmp rfl) .nil) rfl rfl) ?_
 refine lP T123 ?_
 refine ar0 (s_call (c_integer_mag b hb) (.cons (.tmp rfl) .nil) rfl rfl) ?_
 refine ar0 (s_call (c_integer_times a.m b.m (Wh.ws ha) (Wh.ws hb) (by omega)) (.cons (.tmp rfl) (.cons (.tmp rfl) .nil)) rfl rfl) ?_
 refine ar0 (s_call (c_integer_whole _ _ (ws_ofNat _) (by omega)) (.cons (.tmp rfl) (.cons (.tmp rfl) .nil)) rfl rfl) ?_
 refine sP T123 ?_
 refine ⟨by kernel_rfl, ?_⟩
 refine hK2 _ ?_
 refine awp_ret ⟨_, (.cons (.cell rfl rfl T123 rfl rfl) .nil), ?_⟩
 exact fin_eq (by rw [val_ofNat, mul_sgn]; rfl)
theorem c_integer_Add (a b : Wh) (ha : a.ok) (hb : b.ok) (la : a.mag.length < big) (lb : b.mag.length < big) : FnC Tryz.prog 210 [a.av, b.av] (zA (a.z + b.z)) := by
 have h1 := Wh.m_le (w := a)
 have h2 := Wh.m_le (w := b)
 have hla : val a.m < 4294967296 ^ (max a.m.length b.m.length) := Nat.lt_of_lt_of_le (val_lt _ (Wh.ws ha)) (Nat.pow_le_pow_right (by omega) (by omega))
 have hlb : val b.m < 4294967296 ^ (max a.m.length b.m.length) := Nat.lt_of_lt_of_le (val_lt _ (Wh.ws hb)) (Nat.pow_le_pow_right (by omega) (by omega))
 have h3 : (ofNat (val a.m + val b.m)).length ≤ max a.m.length b.m.length + 1 := ofNat_length_le (by rw [Nat.pow_succ]; omega)
 have h4 : (ofNat (val a.m - val b.m)).length ≤ max a.m.length b.m.length := ofNat_length_le (by omega)
 have h5 : (ofNat (val b.m - val a.m)).length ≤ max a.m.length b.m.length := ofNat_length_le (by omega)
 refine con_of0 (N := 40) (rs := [.cell 4 123]) Tryz.func210 rfl rfl rfl rfl ?_
 refine sr fun K1 hK1=>?_
 refine bX ?_
 refine bX ?_
 refine al T123 ?_
 refine hK1 _ ?_
 refine awp_seq ?_; intro K2 hK2
 refine awp_region_draw mixedP ?_
 refine lP T123 ?_
 refine ar0 (s_call (c_integer_mag a ha) (.cons (.tmp rfl) .nil) rfl rfl) ?_
 refine lP T123 ?_
 refine ar0 (s_call (c_integer_mag b hb) (.cons (.tmp rfl) .nil) rfl rfl) ?_
 refine aT ?_
 refine aT ?_
 refine ⟨by kernel_rfl, ?_⟩
 refine hK2 _ ?_
 refine awp_seq ?_; intro K3 hK3
 refine awp_block ?_
 refine awp_seq ?_; intro K4 hK4
 refine awp_region_draw mixedP ?_
 refine lP T123 ?_
 refine ar0 (s_call (c_integer_neg a ha) (.cons (.tmp rfl) .nil) rfl rfl) ?_
 refine lP T123 ?_
 refine ar0 (s_call (c_integer_neg b hb) (.cons (.tmp rfl) .nil) rfl rfl) ?_
 refine ar0 (s_boolEq (.tmp rfl) (.tmp rfl) T4 rfl rfl) ?_
 refine aT ?_
 refine ⟨by kernel_rfl, ?_⟩
 refine hK4 _ ?_
 refine awp_cond (.tmp rfl) (fun ht11 => ?_) (fun ht11 => ?_)
 ·have h0 : a.n = b.n := by simpa using ht11
  refine sr fun K5 hK5=>?_
  refine lP T123 ?_
  refine ar0 (s_call (c_integer_neg a ha) (.cons (.tmp rfl) .nil) rfl rfl) ?_
  refine mT ?_
  refine mT ?_
  refine ar0 (s_call (c_integer_plus a.m b.m (Wh.ws ha) (Wh.ws hb) (by omega) (by omega)) (.cons (.tmp rfl) (.cons (.tmp rfl) .nil)) rfl rfl) ?_
  refine ar0 (s_call (c_integer_whole _ _ (ws_ofNat _) (by omega)) (.cons (.tmp rfl) (.cons (.tmp rfl) .nil)) rfl rfl) ?_
  refine sP T123 ?_
  refine hK5 _ ?_
  refine awp_ret ⟨_, (.cons (.cell rfl rfl T123 rfl rfl) .nil), ?_⟩
  exact fin_eq (by rw [val_ofNat, add_same h0]; rfl)
 ·have h0 : a.n ≠ b.n := by simpa using ht11
  refine sr fun K6 hK6=>?_
  refine mT ?_
  refine mT ?_
  refine ar0 (s_call (c_integer_compare a.m b.m (Wh.ws ha) (Wh.ws hb) a.nz b.nz) (.cons (.tmp rfl) (.cons (.tmp rfl) .nil)) rfl rfl) ?_
  refine ar0 (s_cmp (.tmp rfl) (.const _) rfl rfl) ?_
  refine aT ?_
  refine hK6 _ ?_
  refine awp_cond (.tmp rfl) (fun ht23 => ?_) (fun ht23 => ?_)
  ·have h6 : val b.m ≤ val a.m := by
    rcases Nat.lt_or_ge (val a.m) (val b.m) with h | h
    ·rw [if_pos h] at ht23; cases ht23
    ·exact h
   refine sr fun K7 hK7=>?_
   refine lP T123 ?_
   refine ar0 (s_call (c_integer_neg a ha) (.cons (.tmp rfl) .nil) rfl rfl) ?_
   refine mT ?_
   refine mT ?_
   refine ar0 (s_call (c_integer_less a.m b.m (Wh.ws ha) (Wh.ws hb) (by omega) (by rcases Nat.lt_or_ge a.m.length b.m.length with h | h; (have := val_cmp_len (Wh.ws ha) b.nz h; omega); exact h) h6) (.cons (.tmp rfl) (.cons (.tmp rfl) .nil)) rfl rfl) ?_
   refine ar0 (s_call (c_integer_whole _ _ (ws_ofNat _) (by omega)) (.cons (.tmp rfl) (.cons (.tmp rfl) .nil)) rfl rfl) ?_
   refine sP T123 ?_
   refine hK7 _ ?_
   refine awp_ret ⟨_, (.cons (.cell rfl rfl T123 rfl rfl) .nil), ?_⟩
   exact fin_eq (by rw [val_ofNat, add_left h0 h6]; rfl)
  ·have h6 : val a.m < val b.m := by
    rcases Nat.lt_or_ge (val a.m) (val b.m) with h | h
    ·exact h
    ·rw [if_neg (by omega)] at ht23; split at ht23 <;> cases ht23
   refine awp_skip (hK3 _ ?_)
   refine sr fun K8 hK8=>?_
   refine lP T123 ?_
   refine ar0 (s_call (c_integer_neg b hb) (.cons (.tmp rfl) .nil) rfl rfl) ?_
   refine mT ?_
   refine mT ?_
   refine ar0 (s_call (c_integer_less b.m a.m (Wh.ws hb) (Wh.ws ha) (by omega) (by rcases Nat.lt_or_ge b.m.length a.m.length with h | h; (have := val_cmp_len (Wh.ws hb) a.nz h; omega); exact h) (by omega)) (.cons (.tmp rfl) (.cons (.tmp rfl) .nil)) rfl rfl) ?_
   refine ar0 (s_call (c_integer_whole _ _ (ws_ofNat _) (by omega)) (.cons (.tmp rfl) (.cons (.tmp rfl) .nil)) rfl rfl) ?_
   refine sP T123 ?_
   refine hK8 _ ?_
   refine awp_ret ⟨_, (.cons (.cell rfl rfl T123 rfl rfl) .nil), ?_⟩
   exact fin_eq (by rw [val_ofNat, add_right h0 (by omega)]; rfl)
theorem c_integer_Gcd (a b : Wh) (ha : a.ok) (hb : b.ok) (la : a.mag.length < big) (lb : b.mag.length < big) : FnC Tryz.prog 130 [a.av, b.av] (zA (Int.gcd a.z b.z)) := by
 refine con_of0 (N := 26) (rs := [.cell 4 123]) Tryz.func130 rfl rfl rfl rfl ?_
 refine sr fun K1 hK1=>?_
 refine bX ?_
 refine bX ?_
 refine al T123 ?_
 refine hK1 _ ?_
 refine awp_seq ?_; intro K2 hK2
 refine awp_region_draw mixedP ?_
 refine lP T123 ?_
 refine ar0 (s_call (c_integer_mag a ha) (.cons (.tmp rfl) .nil) rfl rfl) ?_
 refine lP T123 ?_
 refine ar0 (s_call (c_integer_mag b hb) (.cons (.tmp rfl) .nil) rfl rfl) ?_
 refine aT ?_
 refine aT ?_
 refine ⟨by kernel_rfl, ?_⟩
 refine hK2 _ ?_
 refine awp_seq ?_; intro K3 hK3
 refine awp_block ?_
 refine awp_loop (fun n_ s_ => ∃ (x y : List Nat), val y = n_ ∧ (Ws x ∧ Ws y ∧ Nz x ∧ Nz y ∧ x.length < big ∧ y.length < big ∧ Nat.gcd (val x) (val y) = Int.gcd a.z b.z) ∧ s_ = (⟨[(4, some (.ptr 4 0)), (5, some (ws x)), (6, some (ws y))], [(4, some (.box [.v (.bool false), .v (.slice none 0 0)]))]⟩ : AS))
  (n := ((fun (x y : List Nat) => val y) (a.m) (b.m))) (s' := ((fun (x y : List Nat) => (⟨[(4, some (.ptr 4 0)), (5, some (ws x)), (6, some (ws y))], [(4, some (.box [.v (.bool false), .v (.slice none 0 0)]))]⟩ : AS)) (a.m) (b.m)))
  (Wk.of (.k (.k (.k .nil))) (.cons rfl (.refl _) .nil)) ⟨a.m, b.m, rfl, ⟨Wh.ws ha, Wh.ws hb, a.nz, b.nz, Wh.small ha la, Wh.small hb lb, by rw [Int.gcd, Wh.abs, Wh.abs]⟩, rfl⟩ ?_
 intro n_ s_ hI K4 hK4
 obtain ⟨x, y, rfl, ⟨wx, wy, nx, ny, lx, ly, hg⟩, rfl⟩ := hI
 refine awp_seq ?_; intro K5 hK5
 refine sr fun K6 hK6=>?_
 refine mT ?_
 refine ar0 (s_lenMap (.tmp rfl) T66 rfl rfl) ?_
 refine ar0 (s_cmp (.tmp rfl) (.const _) rfl rfl) ?_
 refine hK6 _ ?_
 refine awp_cond (.tmp rfl) (fun ht15 => ?_) (fun ht15 => ?_)
 ·have hy : y ≠ [] := by intro h; subst h; simp [icmp] at ht15
  have hy0 := val_pos ny hy
  have hm := Nat.mod_lt (val x) hy0
  refine awp_skip (hK5 _ ?_)
  refine awp_block ?_
  refine sr fun K7 hK7=>?_
  refine mT ?_
  refine mT ?_
  refine ar0 (s_call (c_integer_divide x y wx wy nx ny hy lx ly) (.cons (.tmp rfl) (.cons (.tmp rfl) .nil)) rfl rfl) ?_
  refine mT ?_
  refine ar0 (s_extract (.tmp rfl) rfl rfl) ?_
  refine ar0 (s_extract (.tmp rfl) rfl rfl) ?_
  refine aT ?_
  refine aT ?_
  refine hK7 _ ?_
  refine awp_region ?_
  refine mT ?_
  refine mT ?_
  refine aT ?_
  refine aT ?_
  refine hK4 _ ((fun (x y : List Nat) => (⟨[(4, some (.ptr 4 0)), (5, some (ws x)), (6, some (ws y))], [(4, some (.box [.v (.bool false), .v (.slice none 0 0)]))]⟩ : AS)) (y) (ofNat (val x % val y))) ((fun (x y : List Nat) => val y) (y) (ofNat (val x % val y))) (Wk.of (.k (.k (.k .nil))) (.cons rfl (.refl _) .nil)) ⟨y, ofNat (val x % val y), rfl, ⟨wy, ws_ofNat _, ny, nz_ofNat _, ly, Nat.lt_of_le_of_lt (ofNat_length_le (Nat.lt_trans hm (val_lt y wy))) ly, by rw [val_ofNat, ← hg, Nat.gcd_comm (val x) (val y), Nat.gcd_comm (val y) (val x % val y)]; exact (Nat.gcd_rec _ _).symm⟩, rfl⟩ (by show val (ofNat _) < val y; rw [val_ofNat]; exact hm)
 ·have hy : y = [] := by
   cases y with
   | nil => rfl
   | cons c l => simp [icmp] at ht15
  subst hy
  have hg' : val x = Int.gcd a.z b.z := by rw [← hg]; simp [val]
  refine awp_exit ?_
  refine hK3 _ ?_
  refine sr fun K8 hK8=>?_
  refine mT ?_
  refine ar0 (s_call (c_integer_whole false x wx (Nat.le_of_lt lx)) (.cons (.const _) (.cons (.tmp rfl) .nil)) rfl rfl) ?_
  refine sP T123 ?_
  refine hK8 _ ?_
  refine awp_ret ⟨_, (.cons (.cell rfl rfl T123 rfl rfl) .nil), ?_⟩
  exact fin_eq (by rw [hg']; rfl)
theorem c_integer_Div (a b : Wh) (ha : a.ok) (hb : b.ok) (la : a.mag.length + 1 < big) (lb : b.mag.length < big) (h0 : b.z ≠ 0) : FnC Tryz.prog 228 [a.av, b.av] (.tup [zA (a.z / b.z), zA (a.z % b.z), .v .nilIface]) := by
 have hm1 := Wh.m_le (w := a)
 have hm2 := Wh.m_le (w := b)
 have hb1 : val b.m ≠ 0 := by have := Wh.abs (w := b); omega
 have hb2 : b.m ≠ [] := fun h => hb1 (by rw [h]; rfl)
 have hl1 : (ofNat (val a.m / val b.m)).length ≤ a.m.length := ofNat_length_le (Nat.lt_of_le_of_lt (Nat.div_le_self _ _) (val_lt _ (Wh.ws ha)))
 have hmod := Nat.mod_lt (val a.m) (show 0 < val b.m by omega)
 have hl2 : (ofNat (val a.m % val b.m)).length ≤ b.m.length := ofNat_length_le (Nat.lt_trans hmod (val_lt _ (Wh.ws hb)))
 have hl3 : (ofNat (val a.m / val b.m + 1)).length ≤ a.m.length + 1 := ofNat_length_le (by have h7 := Nat.lt_of_le_of_lt (Nat.div_le_self (val a.m) (val b.m)) (val_lt _ (Wh.ws ha)); rw [Nat.pow_succ]; generalize val a.m / val b.m = m at *; omega)
 have hl4 : (ofNat (val b.m - val a.m % val b.m)).length ≤ b.m.length := ofNat_length_le (by have := val_lt _ (Wh.ws hb); omega)
 have hv1 : val [1] = 1 := rfl
 refine con_of0 (N := 47) (rs := [.cell 4 123, .cell 5 123, .tmp 6]) Tryz.func228 rfl rfl rfl rfl ?_
 refine sr fun K1 hK1=>?_
 refine bX ?_
 refine bX ?_
 refine al T123 ?_
 refine al T123 ?_
 refine aC ?_
 refine hK1 _ ?_
 refine sr fun K2 hK2=>?_
 refine lP T123 ?_
 refine ar0 (s_call (c_integer_mag b hb) (.cons (.tmp rfl) .nil) rfl rfl) ?_
 refine aT ?_
 refine hK2 _ ?_
 refine awp_seq ?_; intro K3 hK3
 refine sr fun K4 hK4=>?_
 refine mT ?_
 refine ar0 (s_lenMap (.tmp rfl) T66 rfl rfl) ?_
 refine ar0 (s_cmp (.tmp rfl) (.const _) rfl rfl) ?_
 refine hK4 _ ?_
 refine awp_cond (.tmp rfl) (fun ht14 => ?_) (fun ht14 => ?_)
 ·exact absurd (List.length_eq_zero_iff.1 (by simpa [icmp] using ht14)) hb2
 ·skip
  refine awp_skip (hK3 _ ?_)
  refine sr fun K5 hK5=>?_
  refine lP T123 ?_
  refine ar0 (s_call (c_integer_mag a ha) (.cons (.tmp rfl) .nil) rfl rfl) ?_
  refine mT ?_
  refine ar0 (s_call (c_integer_divide a.m b.m (Wh.ws ha) (Wh.ws hb) a.nz b.nz hb2 (by omega) (by omega)) (.cons (.tmp rfl) (.cons (.tmp rfl) .nil)) rfl rfl) ?_
  refine mT ?_
  refine ar0 (s_extract (.tmp rfl) rfl rfl) ?_
  refine ar0 (s_extract (.tmp rfl) rfl rfl) ?_
  refine aT ?_
  refine aT ?_
  refine hK5 _ ?_
  refine awp_seq ?_; intro K6 hK6
  refine sr fun K7 hK7=>?_
  refine lP T123 ?_
  refine ar0 (s_call (c_integer_neg a ha) (.cons (.tmp rfl) .nil) rfl rfl) ?_
  refine mT ?_
  refine ar0 (s_guard rfl rfl rfl (fun h => s_move (.tmp rfl) rfl)) ?_
  refine ar0 (s_guard rfl rfl rfl (fun h => s_lenMap (.opt rfl (o1 h)) T66 rfl rfl)) ?_
  refine ar0 (s_guard rfl rfl rfl (fun h => s_cmp (.opt rfl (o1 h)) (.const _) rfl rfl)) ?_
  refine ar0 (s_pick (.tmp rfl) (fun hp => .opt rfl (o1 hp)) (fun _ => .const _) rfl) ?_
  refine hK7 _ ?_
  refine awp_cond (.tmp rfl) (fun ht31 => ?_) (fun ht31 => ?_)
  ·have h1 : a.n = true ∧ 0 < val a.m % val b.m := div_cond.1 ht31
   obtain ⟨e1, e2⟩ := div_high hb1 h1.1 h1.2
   refine awp_region ?_
   refine mT ?_
   refine ar0 (s_buildLst rfl (.cons (.const _) .nil) T66 rfl T186 rfl rfl rfl rfl rfl rfl rfl rfl) ?_
   refine ar0 (s_call (c_integer_plus (ofNat (val a.m / val b.m)) [1] (ws_ofNat _) (ws_one (by omega)) (by omega) (by unfold big; simp)) (.cons (.tmp rfl) (.cons (.tmp rfl) .nil)) rfl rfl) ?_
   refine mT ?_
   refine mT ?_
   refine ar0 (s_call (c_integer_less b.m (ofNat (val a.m % val b.m)) (Wh.ws hb) (ws_ofNat _) (by omega) hl2 (by rw [val_ofNat]; omega)) (.cons (.tmp rfl) (.cons (.tmp rfl) .nil)) rfl rfl) ?_
   refine aT ?_
   refine aT ?_
   refine hK6 _ ?_
   refine awp_weaken (Wk.of (sl := [(2, some (.ptr 2 0)), (3, some (.ptr 3 0)), (4, some (.ptr 4 0)), (5, some (.ptr 5 0)), (8, some (ws (ofNat (val a.m / val b.m + 1)))), (9, some (ws (ofNat (val b.m - val a.m % val b.m))))]) (hp := [(2, some (.box [bl a.neg, ws a.mag])), (3, some (.box [bl b.neg, ws b.mag])), (4, some (.box [.v (.bool false), .v (.slice none 0 0)])), (5, some (.box [.v (.bool false), .v (.slice none 0 0)]))]) (.k (.k (.k (.k (.cons rfl (Sub.of (by rw [val_ofNat, hv1])) (.cons rfl (Sub.of (by rw [val_ofNat])) .nil)))))) (.cons rfl (.refl _) (.cons rfl (.refl _) (.cons rfl (.refl _) (.cons rfl (.refl _) .nil))))) ?_
   refine awp_seq ?_; intro K8 hK8
   refine awp_region_draw mixedP ?_
   refine lP T123 ?_
   refine ar0 (s_call (c_integer_neg a ha) (.cons (.tmp rfl) .nil) rfl rfl) ?_
   refine lP T123 ?_
   refine ar0 (s_call (c_integer_neg b hb) (.cons (.tmp rfl) .nil) rfl rfl) ?_
   refine ar0 (s_boolNe (.tmp rfl) (.tmp rfl) T4 rfl rfl) ?_
   refine mT ?_
   refine ar0 (s_call (by apply c_integer_whole _ _ (ws_ofNat _) (by omega)) (.cons (.tmp rfl) (.cons (.tmp rfl) .nil)) rfl rfl) ?_
   refine mT ?_
   refine ar0 (s_call (by apply c_integer_whole _ _ (ws_ofNat _) (by omega)) (.cons (.const _) (.cons (.tmp rfl) .nil)) rfl rfl) ?_
   refine sP T123 ?_
   refine sP T123 ?_
   refine aC ?_
   refine ⟨by kernel_rfl, ?_⟩
   refine hK8 _ ?_
   refine awp_ret ⟨_, (.cons (.cell rfl rfl T123 rfl rfl) (.cons (.cell rfl rfl T123 rfl rfl) (.cons (.tmp rfl) .nil))), ?_⟩
   exact fin_eq3 (by rw [val_ofNat, val_ofNat, e1, show sgn false _ = _ from e2]; rfl)
  ·have h1 : ¬ (a.n = true ∧ 0 < val a.m % val b.m) := fun h => Bool.eq_false_iff.1 ht31 (div_cond.2 h)
   obtain ⟨e1, e2⟩ := div_low hb1 h1
   refine awp_skip (hK6 _ ?_)
   refine awp_seq ?_; intro K9 hK9
   refine awp_region_draw mixedP ?_
   refine lP T123 ?_
   refine ar0 (s_call (c_integer_neg a ha) (.cons (.tmp rfl) .nil) rfl rfl) ?_
   refine lP T123 ?_
   refine ar0 (s_call (c_integer_neg b hb) (.cons (.tmp rfl) .nil) rfl rfl) ?_
   refine ar0 (s_boolNe (.tmp rfl) (.tmp rfl) T4 rfl rfl) ?_
   refine mT ?_
   refine ar0 (s_call (by apply c_integer_whole _ _ (ws_ofNat _) (by omega)) (.cons (.tmp rfl) (.cons (.tmp rfl) .nil)) rfl rfl) ?_
   refine mT ?_
   refine ar0 (s_call (by apply c_integer_whole _ _ (ws_ofNat _) (by omega)) (.cons (.const _) (.cons (.tmp rfl) .nil)) rfl rfl) ?_
   refine sP T123 ?_
   refine sP T123 ?_
   refine aC ?_
   refine ⟨by kernel_rfl, ?_⟩
   refine hK9 _ ?_
   refine awp_ret ⟨_, (.cons (.cell rfl rfl T123 rfl rfl) (.cons (.cell rfl rfl T123 rfl rfl) (.cons (.tmp rfl) .nil))), ?_⟩
   exact fin_eq3 (by rw [val_ofNat, val_ofNat, e1, show sgn false _ = _ from e2]; rfl)
end Go.Lw
namespace Go.Lw
open Go.Proofs
theorem of_val {N : Nat} (h : N < 18446744073709551616) : val [N % 4294967296, N / 2 ^ 32] = N := by
 simp only [val]; omega
theorem of_ws {N : Nat} (h : N < 18446744073709551616) : Ws [N % 4294967296, N / 2 ^ 32] := by
 intro x hx
 simp only [List.mem_cons, List.not_mem_nil, or_false] at hx
 rcases hx with rfl | rfl <;> omega
theorem c_integer_Of (n : Int) (h : -9223372036854775808 ≤ n ∧ n ≤ 9223372036854775807) : FnC Tryz.prog 188 [i64 n] (zA n) := by
 obtain ⟨N, hN⟩ : ∃ N, N = n.natAbs := ⟨_, rfl⟩
 have hNB : N < 18446744073709551616 := by omega
 refine con_of0 (N := 19) (rs := [.cell 2 123]) Tryz.func188 rfl rfl rfl rfl ?_
 refine sr fun K1 hK1=>?_
 refine al T123 ?_
 refine hK1 _ ?_
 refine sr fun K2 hK2=>?_
 refine mT ?_
 refine ar0 (s_cvtW (.tmp rfl) (show IntKind.u64.wrap n = ((n % 18446744073709551616 : Int)) by simp only [IntKind.wrap, IntKind.signed, IntKind.bits, Bool.false_and, if_false, Bool.false_eq_true]; omega) rfl T3 T218 rfl) ?_
 refine aT ?_
 refine hK2 _ ?_
 refine awp_seq ?_; intro K3 hK3
 refine sr fun K4 hK4=>?_
 refine mT ?_
 refine ar0 (s_cmp (.tmp rfl) (.const _) rfl rfl) ?_
 refine hK4 _ ?_
 refine awp_cond (.tmp rfl) (fun ht7 => ?_) (fun ht7 => ?_)
 ·have hn : n < 0 := by simpa [icmp] using ht7
  refine awp_region ?_
  refine mT ?_
  refine ar0 (s_neg (.tmp rfl) rfl) ?_
  refine aT ?_
  refine hK3 _ ?_
  refine awp_weaken (Wk.of (sl := [(0, some (i64 n)), (2, some (.ptr 2 0)), (3, some (u64 N))]) (hp := [(2, some (.box [.v (.bool false), .v (.slice none 0 0)]))]) (.k (.k (.cons rfl (Sub.int (by simp only [IntKind.wrap, IntKind.signed, IntKind.bits, Bool.false_and, if_false, Bool.false_eq_true]; omega)) .nil))) (.cons rfl (.refl _) .nil)) ?_
  refine sr fun K5 hK5=>?_
  refine mT ?_
  refine ar0 (s_cmp (.tmp rfl) (.const _) rfl rfl) ?_
  refine mT ?_
  refine ar0 (s_cvtW (.tmp rfl) (u32_wrap _) rfl T218 T186 rfl) ?_
  refine mT ?_
  refine ar0 (s_shrW (.tmp rfl) (.const _) (by omega) (u64_shr _ 32 (by omega)) rfl) ?_
  refine ar0 (s_cvtW (.tmp rfl) ((u32_wrap _).trans (by rw [Nat.mod_eq_of_lt (show N / 2 ^ 32 < 4294967296 by omega)])) rfl T218 T186 rfl) ?_
  refine ar0 (s_buildLst rfl (.cons (.tmp rfl) (.cons (.tmp rfl) .nil)) T66 rfl T186 rfl rfl rfl rfl rfl rfl rfl rfl) ?_
  refine ar0 (s_call (c_integer_whole (icmp .lss n 0) [N % 4294967296, N / 2 ^ 32] (of_ws hNB) (by unfold big; simp)) (.cons (.tmp rfl) (.cons (.tmp rfl) .nil)) rfl rfl) ?_
  refine sP T123 ?_
  refine hK5 _ ?_
  refine awp_ret ⟨_, (.cons (.cell rfl rfl T123 rfl rfl) .nil), ?_⟩
  exact fin_eq (by rw [of_val hNB, show sgn (icmp .lss n 0) N = n by simp only [sgn, icmp, decide_eq_true_eq]; split <;> omega]; rfl)
 ·have hn : ¬ n < 0 := by simpa [icmp] using ht7
  refine awp_weaken (Wk.of (sl := [(0, some (i64 n)), (2, some (.ptr 2 0)), (3, some (u64 N))]) (hp := [(2, some (.box [.v (.bool false), .v (.slice none 0 0)]))]) (.k (.k (.cons rfl (Sub.int (by omega)) .nil))) (.cons rfl (.refl _) .nil)) ?_
  refine awp_skip (hK3 _ ?_)
  refine sr fun K6 hK6=>?_
  refine mT ?_
  refine ar0 (s_cmp (.tmp rfl) (.const _) rfl rfl) ?_
  refine mT ?_
  refine ar0 (s_cvtW (.tmp rfl) (u32_wrap _) rfl T218 T186 rfl) ?_
  refine mT ?_
  refine ar0 (s_shrW (.tmp rfl) (.const _) (by omega) (u64_shr _ 32 (by omega)) rfl) ?_
  refine ar0 (s_cvtW (.tmp rfl) ((u32_wrap _).trans (by rw [Nat.mod_eq_of_lt (show N / 2 ^ 32 < 4294967296 by omega)])) rfl T218 T186 rfl) ?_
  refine ar0 (s_buildLst rfl (.cons (.tmp rfl) (.cons (.tmp rfl) .nil)) T66 rfl T186 rfl rfl rfl rfl rfl rfl rfl rfl) ?_
  refine ar0 (s_call (c_integer_whole (icmp .lss n 0) [N % 4294967296, N / 2 ^ 32] (of_ws hNB) (by unfold big; simp)) (.cons (.tmp rfl) (.cons (.tmp rfl) .nil)) rfl rfl) ?_
  refine sP T123 ?_
  refine hK6 _ ?_
  refine awp_ret ⟨_, (.cons (.cell rfl rfl T123 rfl rfl) .nil), ?_⟩
  exact fin_eq (by rw [of_val hNB, show sgn (icmp .lss n 0) N = n by simp only [sgn, icmp, decide_eq_true_eq]; split <;> omega]; rfl)
end Go.Lw
namespace Go.Lw
theorem fixw_takes : ∀ (j k v : Nat), j ≤ k → (fixw k v).take j = fixw j v
  | 0, _, _, _ => by simp [fixw]
  | j + 1, 0, _, h => by omega
  | j + 1, k + 1, v, h => by
    rw [fixw, fixw, List.take_succ_cons, fixw_takes j k _ (by omega)]
theorem trim_len {m : List Nat} (h : Ws m) : (ofNat (val m)).length ≤ m.length := ofNat_length_le (val_lt m h)
theorem take_trim {m : List Nat} (h : Ws m) : m.take (ofNat (val m)).length = ofNat (val m) := by
  have h1 := eq_fixw m h
  have h2 := eq_fixw (ofNat (val m)) (ws_ofNat _)
  rw [val_ofNat] at h2
  have h3 := fixw_takes _ _ (val m) (trim_len h)
  rw [← h1, ← h2] at h3
  exact h3
theorem trim_is {m : List Nat} {n : Nat} (h : Ws m) (hn : n ≤ m.length) (hv : val (m.take n) = val m) (h0 : n = 0 ∨ wordW m (n - 1) ≠ 0) : n = (ofNat (val m)).length := by
  have h1 : m.take n = ofNat (val m) := by
    refine ofNat_eq (ws_take h n) ?_ hv
    intro x hx
    rcases h0 with h0 | h0
    · subst h0; simp at hx
    · have hn0 : n ≠ 0 := by intro h3; subst h3; simp at hx
      rw [List.getLast?_eq_getElem?, List.length_take, Nat.min_eq_left hn, List.getElem?_take, if_pos (by omega), word_get (by omega)] at hx
      cases hx; exact h0
  rw [← h1, List.length_take, Nat.min_eq_left hn]
theorem val_td (l : List Nat) (i : Nat) : val l = val (l.take i) + 4294967296 ^ i * val (l.drop i) := by
  rcases Nat.lt_or_ge i l.length with h | h
  · exact val_take_drop (by omega)
  · rw [val_take_ge h, List.drop_eq_nil_of_le h]; simp [val]
theorem val_drops (l : List Nat) (i : Nat) : val (l.drop i) = wordW l i + 4294967296 * val (l.drop (i + 1)) := by
  rcases Nat.lt_or_ge i l.length with h | h
  · exact val_drop h
  · rw [word_out h, List.drop_eq_nil_of_le h, List.drop_eq_nil_of_le (by omega)]; rfl
theorem cmp_word {a b : List Nat} {i : Nat} (ha : Ws a) (he : val (a.drop (i + 1)) = val (b.drop (i + 1))) (hx : wordW a i < wordW b i) : val a < val b := by
  rw [val_td a (i + 1), val_td b (i + 1), he]
  have := val_lt_word ha hx
  omega
theorem sub_agg {xs ys : List AV} (hl : xs.length = ys.length) (h1 : ∀ (j : Nat) (y : AV), ys[j]? = some y → y.one = true) (h : ∀ (j : Nat) (x y : AV), xs[j]? = some x → ys[j]? = some y → Sub x y) : Sub (.agg xs) (.agg ys) := by
  intro g S m v hr
  cases hr with
  | agg hn h2 hr =>
    refine .agg (hn.trans hl) h1 ?_
    intro j u c hu hc
    have hj : j < xs.length := by
      rw [hl]
      rcases Nat.lt_or_ge j ys.length with h | h
      · exact h
      · rw [List.getElem?_eq_none h] at hc; cases hc
    exact h j _ c (List.getElem?_eq_getElem hj) hc _ _ _ _ (hr j u _ hu (List.getElem?_eq_getElem hj))
/-- The zero value of a whole number is 0. -/
theorem sub_z0 : Sub (.agg [.v (.bool false), .v (.slice none 0 0)]) (zA 0) := by
  show Sub (.agg [.v (.bool false), .v (.slice none 0 0)]) (.agg [bl false, ws []])
  refine sub_agg rfl ?_ ?_
  · intro j y hy
    match j, hy with
    | 0, hy => cases hy; rfl
    | 1, hy => cases hy; rfl
  · intro j x y hx hy
    match j, hx, hy with
    | 0, hx, hy => cases hx; cases hy; exact Sub.refl _
    | 1, hx, hy => cases hx; cases hy; exact Sub.nil _ _ _
theorem plus_app {out : List Nat} {i x : Nat} (h : out.length = i) : val (out ++ [x]) = val out + 4294967296 ^ i * x := by
  rw [val_append, h]; simp [val]
theorem minus_step {o c P x y u w : Nat} (hu : u < 4294967296) (hw : w < 4294967296) (hc : c ≤ 1) (h : o + y = x + c * P) :
    (o + P * ((4294967296 + u - w - c) % 4294967296)) + (y + P * w) = (x + P * u) + (1 - (4294967296 + u - w - c) / 2 ^ 32) * (P * 4294967296) := by
  have h0 : (4294967296 + u - w - c) % 4294967296 + w + c = u + (1 - (4294967296 + u - w - c) / 2 ^ 32) * 4294967296 := by omega
  generalize (1 - (4294967296 + u - w - c) / 2 ^ 32) = q at *
  generalize (4294967296 + u - w - c) % 4294967296 = r at *
  grind
theorem minus_end {a b out : List Nat} {c : Nat} (ha : Ws a) (hw : Ws out) (ho : out.length = a.length) (hle : val b ≤ val a)
    (h : val out + val (b.take a.length) = val (a.take a.length) + c * 4294967296 ^ a.length) : val out = val a - val b := by
  have hb := val_td b a.length
  have h2 := val_lt a ha
  have h3 : val (b.drop a.length) = 0 := by
    rcases Nat.eq_zero_or_pos (val (b.drop a.length)) with h4 | h4
    · exact h4
    · have := Nat.mul_le_mul_left (4294967296 ^ a.length) h4; omega
  rw [h3, Nat.mul_zero, Nat.add_zero] at hb
  rw [← hb, List.take_length] at h
  have h1 := val_lt out hw
  rw [ho] at h1
  cases c with
  | zero => omega
  | succ c => rw [Nat.succ_mul] at h; omega
theorem ofInt_ok {z : Int} {k : Nat} (h : Lz k z) (hk : k ≤ maxL) : (ofInt z).ok := ⟨ws_ofNat _, Nat.le_trans h.len hk⟩
theorem ofInt_len {z : Int} {k : Nat} (h : Lz k z) : (ofInt z).mag.length ≤ k := h.len
theorem sign_sub (x y : Int) : (x - y).sign = cmp3 x y := by
  unfold cmp3
  have h := sign_cases (x - y)
  (repeat' split) <;> omega
end Go.Lw
namespace Go.Lw
open Go.Proofs
theorem c_r01_at (m : List Nat) (i : Nat) (hm : Ws m) : FnC Tryz.prog 216 [ws m, i64 i] (u64 (wordW m i)) := by
 refine con_of0 (N := 14) (rs := [.tmp 4]) Tryz.func216 rfl rfl rfl rfl ?_
 refine sr fun K1 hK1=>?_
 refine aC ?_
 refine hK1 _ ?_
 refine awp_seq ?_; intro K2 hK2
 refine sr fun K3 hK3=>?_
 refine mT ?_
 refine mT ?_
 refine ar0 (s_lenMap (.tmp rfl) T66 rfl rfl) ?_
 refine ar0 (s_cmp (.tmp rfl) (.tmp rfl) rfl rfl) ?_
 refine hK3 _ ?_
 refine awp_cond (.tmp rfl) (fun ht8 => ?_) (fun ht8 => ?_)
 ·simp [icmp] at ht8
  have := wordW_lt hm i
  refine sr fun K4 hK4=>?_
  refine mT ?_
  refine mT ?_
  refine ar0 (s_idxLst (.tmp rfl) (.tmp rfl) T66 rfl T186 rfl (by omega) (getw (i := i) ht8) rfl) ?_
  refine ar0 (s_loadIptr (.tmp rfl) T186 rfl rfl rfl) ?_
  refine ar0 (s_cvtW (.tmp rfl) (u64_in (by omega)) rfl T186 T218 rfl) ?_
  refine aT ?_
  refine hK4 _ ?_
  refine awp_ret ⟨_, (.cons (.tmp rfl) .nil), ?_⟩
  exact fin_eq1 (by rfl)
 ·simp [icmp] at ht8
  refine awp_skip (hK2 _ ?_)
  refine sr fun K5 hK5=>?_
  refine aC ?_
  refine hK5 _ ?_
  refine awp_ret ⟨_, (.cons (.tmp rfl) .nil), ?_⟩
  exact fin_eq1 (by simp [u64, word_out ht8])
theorem c_r01_Valid (w : Wh) (h : w.ok) : FnC Tryz.prog 164 [w.av] (bl w.valid) := by
 have hl : w.mag.length ≤ maxL := h.2
 refine con_of0 (N := 19) (rs := [.tmp 2]) Tryz.func164 rfl rfl rfl rfl ?_
 refine sr fun K1 hK1=>?_
 refine bX ?_
 refine aC ?_
 refine hK1 _ ?_
 refine awp_seq ?_; intro K2 hK2
 refine sr fun K3 hK3=>?_
 refine fP T123 ?_
 refine lP T66 ?_
 refine ar0 (s_lenMap (.tmp rfl) T66 rfl rfl) ?_
 refine ar0 (s_cmp (.tmp rfl) (.const _) rfl rfl) ?_
 refine hK3 _ ?_
 refine awp_cond (.tmp rfl) (fun ht6 => ?_) (fun ht6 => ?_)
 ·have h0 : w.mag = [] := by simpa [icmp] using ht6
  refine sr fun K4 hK4=>?_
  refine fP T123 ?_
  refine lP T4 ?_
  refine ar0 (s_not (.tmp rfl) rfl) ?_
  refine aT ?_
  refine hK4 _ ?_
  refine awp_ret ⟨_, (.cons (.tmp rfl) .nil), ?_⟩
  exact fin_eq1 (by simp [bl, Wh.valid, h0])
 ·have h0 : w.mag.length ≠ 0 := by simpa [icmp] using ht6
  refine awp_skip (hK2 _ ?_)
  refine sr fun K5 hK5=>?_
  refine fP T123 ?_
  refine lP T66 ?_
  refine fP T123 ?_
  refine lP T66 ?_
  refine ar0 (s_lenMap (.tmp rfl) T66 rfl rfl) ?_
  refine ar0 (s_arithW (.tmp rfl) (.const _) rfl (i64_sub1 (by omega) (by omega)) rfl) ?_
  refine ar0 (s_idxLst (.tmp rfl) (.tmp rfl) T66 rfl T186 rfl (by omega) (getw (i := w.mag.length - 1) (by omega)) rfl) ?_
  refine ar0 (s_loadIptr (.tmp rfl) T186 rfl rfl rfl) ?_
  refine ar0 (s_cmp (.tmp rfl) (.const _) rfl rfl) ?_
  refine aT ?_
  refine hK5 _ ?_
  refine awp_ret ⟨_, (.cons (.tmp rfl) .nil), ?_⟩
  exact fin_eq1 (by
   have h1 : w.mag ≠ [] := fun h => h0 (by rw [h]; rfl)
   simp only [bl, Wh.valid, if_neg h1, List.getLast?_eq_getElem?, word_get (show w.mag.length - 1 < w.mag.length by omega), icmp]
   congr 2
   generalize wordW w.mag _ = x
   rw [Bool.eq_iff_iff]; simp)
theorem c_r01_mag (w : Wh) (h : w.ok) : FnC Tryz.prog 107 [w.av] (ws w.m) := by
 refine con_of0 (N := 8) (rs := [.tmp 2]) Tryz.func107 rfl rfl rfl rfl ?_
 refine sr fun K1 hK1=>?_
 refine bX ?_
 refine aC ?_
 refine hK1 _ ?_
 refine awp_seq ?_; intro K2 hK2
 refine sr fun K3 hK3=>?_
 refine lP T123 ?_
 refine ar0 (s_call (c_r01_Valid w h) (.cons (.tmp rfl) .nil) rfl rfl) ?_
 refine ar0 (s_not (.tmp rfl) rfl) ?_
 refine hK3 _ ?_
 refine awp_cond (.tmp rfl) (fun ht5 => ?_) (fun ht5 => ?_)
 ·have h0 : w.valid = false := by simpa [icmp] using ht5
  refine sr fun K4 hK4=>?_
  refine aC ?_
  refine hK4 _ ?_
  refine awp_ret ⟨_, (.cons (.tmp rfl) .nil), ?_⟩
  exact fin_sub1 (by rw [show w.m = [] by simp [Wh.m, h0]]; exact Sub.nil _ _ _)
 ·have h0 : w.valid = true := by simpa [icmp] using ht5
  refine awp_skip (hK2 _ ?_)
  refine sr fun K5 hK5=>?_
  refine fP T123 ?_
  refine lP T66 ?_
  refine aT ?_
  refine hK5 _ ?_
  refine awp_ret ⟨_, (.cons (.tmp rfl) .nil), ?_⟩
  exact fin_eq1 (by simp only [Wh.m, h0]; rfl)
theorem c_r01_neg (w : Wh) (h : w.ok) : FnC Tryz.prog 108 [w.av] (bl w.n) := by
 refine con_of0 (N := 9) (rs := [.tmp 2]) Tryz.func108 rfl rfl rfl rfl ?_
 refine sr fun K1 hK1=>?_
 refine bX ?_
 refine aC ?_
 refine hK1 _ ?_
 refine sr fun K2 hK2=>?_
 refine lP T123 ?_
 refine ar0 (s_call (c_r01_Valid w h) (.cons (.tmp rfl) .nil) rfl rfl) ?_
 refine mT ?_
 refine ar0 (s_guard rfl rfl rfl (fun h => s_fldPtr (.tmp rfl) T123 rfl rfl rfl rfl)) ?_
 refine ar0 (s_guard rfl rfl rfl (fun h => s_loadPtr (.opt rfl (o1 h)) rfl T4 rfl rfl rfl)) ?_
 refine ar0 (s_pick (.tmp rfl) (fun hp => .opt rfl (o1 hp)) (fun _ => .const _) rfl) ?_
 refine aT ?_
 refine hK2 _ ?_
 refine awp_ret ⟨_, (.cons (.tmp rfl) .nil), ?_⟩
 exact fin_eq1 (by simp only [Wh.n, bl]; cases w.valid <;> rfl)
theorem c_r01_trimO (d : Nat) (hd : Nat.blt d 1000 = true) (m : List Nat) (hm : Ws m) (hb : m.length ≤ big) :
  Con Tryz.prog 215 [ws m] [] (.ms d 1 0 (ofNat (val m)).length) [(d, some (.row 1 (m.map u32)))] := by
 have hb' := hb
 unfold big at hb
 refine con_of (N := 25) (rs := [.tmp 2]) Tryz.func215 rfl rfl rfl rfl (fun k z h => by cases h) ?_
 refine sr fun K1 hK1=>?_
 refine aC ?_
 refine hK1 _ ?_
 refine sr fun K2 hK2=>?_
 refine ar (s_buildMs0 T66 rfl T186 rfl rfl rfl) (newOk_of rfl) ?_
 refine mT ?_
 refine ar (s_append (.tmp rfl) rfl rfl (.tmp rfl) T66 rfl T186 rfl rfl (by simp only [List.length_map]; omega) rfl rfl) (newOk_of rfl) ?_
 refine aT ?_
 refine hK2 _ ?_
 refine awp_seq ?_; intro K3 hK3
 refine awp_block ?_
 refine awp_loop (fun n_ s_ => ∃ (n : Nat), n = n_ ∧ (n ≤ m.length ∧ val (m.take n) = val m) ∧ s_ = (⟨[(3, some (.ms 6 1 0 n))], [(6, some (.row 1 (m.map u32)))]⟩ : AS))
  (n := ((fun (n : Nat) => n) (m.length))) (s' := ((fun (n : Nat) => (⟨[(3, some (.ms 6 1 0 n))], [(6, some (.row 1 (m.map u32)))]⟩ : AS)) (m.length)))
  (Wk.of (.cons rfl (Sub.of (by rw [List.length_map, Nat.zero_add])) .nil) (.cons rfl (.refl _) .nil)) ⟨m.length, rfl, ⟨Nat.le_refl _, by rw [List.take_length]⟩, rfl⟩ ?_
 intro n_ s_ hI K4 hK4
 obtain ⟨n, rfl, ⟨hn, hv⟩, rfl⟩ := hI
 refine awp_seq ?_; intro K5 hK5
 refine sr fun K6 hK6=>?_
 refine mT ?_
 refine ar0 (s_lenMs (.tmp rfl) T66 rfl rfl) ?_
 refine ar0 (s_cmp (.tmp rfl) (.const _) rfl rfl) ?_
 refine mT ?_
 refine ar0 (s_guard rfl rfl rfl (fun h => s_move (.tmp rfl) rfl)) ?_
 refine ar0 (s_guard rfl rfl rfl (fun h => s_move (.tmp rfl) rfl)) ?_
 refine ar0 (s_guard rfl rfl rfl (fun h => s_lenMs (.opt rfl (o1 h)) T66 rfl rfl)) ?_
 refine ar0 (s_guard rfl rfl rfl (fun h => s_arithW (.opt rfl (o1 h)) (.const _) rfl (i64_sub1 (by simp [icmp] at h; omega) (by unfold maxL; omega)) rfl)) ?_
 refine ar0 (s_guard rfl rfl rfl (fun h => s_idxMs0 (n := n - 1) (.opt rfl (o1 h)) (.opt rfl (o1 h)) T66 rfl T186 rfl (by omega) (by simp [icmp] at h; omega) rfl)) ?_
 refine ar0 (s_guard rfl rfl rfl (fun h => s_loadEptr (.opt rfl (o1 h)) rfl (getw (i := n - 1) (by simp [icmp] at h; omega)) T186 rfl rfl rfl)) ?_
 refine ar0 (s_guard rfl rfl rfl (fun h => s_cmp (.opt rfl (o1 h)) (.const _) rfl rfl)) ?_
 refine ar0 (s_pick (.tmp rfl) (fun hp => .opt rfl (o1 hp)) (fun _ => .const _) rfl) ?_
 refine hK6 _ ?_
 refine awp_cond (.tmp rfl) (fun ht18 => ?_) (fun ht18 => ?_)
 ·have ht18 : 0 < n ∧ wordW m (n - 1) = 0 := by simpa [icmp] using ht18
  refine awp_skip (hK5 _ ?_)
  refine awp_block ?_
  refine awp_region ?_
  refine mT ?_
  refine mT ?_
  refine ar0 (s_lenMs (.tmp rfl) T66 rfl rfl) ?_
  refine ar0 (s_arithW (.tmp rfl) (.const _) rfl (i64_sub1 (by omega) (by unfold maxL; omega)) rfl) ?_
  refine ar0 (s_sliceMs (.tmp rfl) (.none _) (.some _ (.tmp rfl) (by omega)) T66 rfl T186 rfl (by omega) (by omega) rfl) ?_
  refine aT ?_
  refine hK4 _ ((fun (n : Nat) => (⟨[(3, some (.ms 6 1 0 n))], [(6, some (.row 1 (m.map u32)))]⟩ : AS)) (n - 1)) ((fun (n : Nat) => n) (n - 1)) (Wk.of (.cons rfl (Sub.of (by congr 1)) .nil) (.cons rfl (.refl _) .nil)) ⟨n - 1, rfl, ⟨by omega, by have h := @val_take_word m (n - 1); rw [show n - 1 + 1 = n by omega, ht18.2] at h; simp at h; omega⟩, rfl⟩ (by first | omega | (dsimp only; omega))
 ·have ht18 : 0 < n → wordW m (n - 1) ≠ 0 := by simpa [icmp] using ht18
  have hn1 := trim_is hm hn hv (by rcases Nat.eq_zero_or_pos n with h | h; (exact .inl h); exact .inr (ht18 h))
  subst hn1
  refine awp_exit ?_
  refine hK3 _ ?_
  refine sr fun K7 hK7=>?_
  refine mT ?_
  refine aT ?_
  refine hK7 _ ?_
  refine awp_ret ⟨_, (.cons (.tmp rfl) .nil), ?_⟩
  exact Fin.own1 rfl hd rfl
theorem c_r01_trim (m : List Nat) (hm : Ws m) (hb : m.length ≤ big) : FnC Tryz.prog 215 [ws m] (ws (ofNat (val m))) := by
 have h := Con.freeze (by rw [List.length_map, Nat.zero_add]; exact trim_len hm) (c_r01_trimO 0 rfl m hm hb)
 rwa [List.drop_zero, ← List.map_take, take_trim hm] at h
theorem c_r01_form (b : Bool) (m : List Nat) (hm : Ws m) (hb : m.length ≤ big) : FnC Tryz.prog 169 [bl b, ws m] (zA (sgn b (val m))) := by
 refine con_of0 (N := 14) (rs := [.cell 4 123]) Tryz.func169 rfl rfl rfl rfl ?_
 refine sr fun K1 hK1=>?_
 refine al T123 ?_
 refine hK1 _ ?_
 refine sr fun K2 hK2=>?_
 refine mT ?_
 refine ar0 (s_call (c_r01_trim m hm hb) (.cons (.tmp rfl) .nil) rfl rfl) ?_
 refine aT ?_
 refine hK2 _ ?_
 refine awp_seq ?_; intro K3 hK3
 refine sr fun K4 hK4=>?_
 refine mT ?_
 refine ar0 (s_lenMap (.tmp rfl) T66 rfl rfl) ?_
 refine ar0 (s_cmp (.tmp rfl) (.const _) rfl rfl) ?_
 refine hK4 _ ?_
 refine awp_cond (.tmp rfl) (fun ht9 => ?_) (fun ht9 => ?_)
 ·have h0 : val m = 0 := by
   have := val_ofNat (val m)
   have h9 : ofNat (val m) = [] := List.length_eq_zero_iff.1 (by simpa [icmp] using ht9)
   rw [h9] at this
   exact this.symm
  refine sr fun K5 hK5=>?_
  refine ar0 (s_build .nil T123 rfl rfl rfl rfl rfl) ?_
  refine sP T123 ?_
  refine hK5 _ ?_
  refine awp_ret ⟨_, (.cons (.cell rfl rfl T123 rfl rfl) .nil), ?_⟩
  exact fin_sub1 (by rw [h0, show sgn b 0 = 0 by cases b <;> rfl]; exact sub_z0)
 ·have h0 : val m ≠ 0 := by
   intro h
   rw [h] at ht9
   cases ht9
  refine awp_skip (hK3 _ ?_)
  refine sr fun K6 hK6=>?_
  refine mT ?_
  refine mT ?_
  refine ar0 (s_build (.cons (.tmp rfl) (.cons (.tmp rfl) .nil)) T123 rfl rfl rfl rfl rfl) ?_
  refine sP T123 ?_
  refine hK6 _ ?_
  refine awp_ret ⟨_, (.cons (.cell rfl rfl T123 rfl rfl) .nil), ?_⟩
  exact fin_eq (by
   rw [show zA (sgn b (val m)) = .agg [bl b, ws (ofNat (val m))] by
    unfold zA ofInt Wh.av
    rw [show (sgn b (val m)).natAbs = val m by unfold sgn; split <;> omega, show decide (sgn b (val m) < 0) = b by cases b <;> simp [sgn] <;> omega]]
   rfl)
theorem c_r01_compare (a b : List Nat) (ha : Ws a) (hb : Ws b) : FnC Tryz.prog 171 [ws a, ws b] (i64 (if val a < val b then -1 else if val b < val a then 1 else 0)) := by
  refine con_of0 (N := 30) (rs := [.tmp 4]) Tryz.func171 rfl rfl rfl rfl ?_
  refine awp_lenM (t := 0) rfl (fun hla => ?_)
  refine awp_lenM (t := 1) rfl (fun hlb => ?_)
  unfold maxL at hla hlb
  refine sr fun K1 hK1=>?_
  refine aC ?_
  refine hK1 _ ?_
  refine awp_seq ?_; intro K2 hK2
  refine sr fun K3 hK3=>?_
  refine mT ?_
  refine ar0 (s_lenMap (.tmp rfl) T66 rfl rfl) ?_
  refine mT ?_
  refine ar0 (s_lenMap (.tmp rfl) T66 rfl rfl) ?_
  refine ar0 (s_max (.tmp rfl) (.tmp rfl) rfl) ?_
  refine ar0 (s_arithW (.tmp rfl) (.const _) rfl (i64_subI (by omega)) rfl) ?_
  refine aT ?_
  refine hK3 _ ?_
  refine awp_block ?_
  refine awp_loop (fun n_ s_ => ∃ (n : Nat), n = n_ ∧ (n ≤ 281474976710656 ∧ val (a.drop n) = val (b.drop n)) ∧ s_ = (⟨[(0, some (ws a)), (1, some (ws b)), (5, some (i64 ((n : Int) - 1)))], []⟩ : AS))
    (n := ((fun (n : Nat) => n) (max a.length b.length))) (s' := ((fun (n : Nat) => (⟨[(0, some (ws a)), (1, some (ws b)), (5, some (i64 ((n : Int) - 1)))], []⟩ : AS)) (max a.length b.length)))
    (Wk.of (.k (.k (.cons rfl (Sub.int (by omega)) .nil))) .nil) ⟨max a.length b.length, rfl, ⟨by omega, by rw [List.drop_eq_nil_of_le (by omega), List.drop_eq_nil_of_le (by omega)]⟩, rfl⟩ ?_
  intro n_ s_ hI K4 hK4
  obtain ⟨n, rfl, ⟨hn, hd⟩, rfl⟩ := hI
  refine awp_seq ?_; intro K5 hK5
  refine sr fun K6 hK6=>?_
  refine mT ?_
  refine ar0 (s_cmp (.tmp rfl) (.const _) rfl rfl) ?_
  refine hK6 _ ?_
  refine awp_cond (.tmp rfl) (fun ht13 => ?_) (fun ht13 => ?_)
  · have hn0 : 1 ≤ n := by have := ht13; simp [icmp] at this; omega
    obtain ⟨k, rfl⟩ : ∃ k, n = k + 1 := ⟨n - 1, by omega⟩
    have hk : ((k + 1 : Nat) : Int) - 1 = (k : Int) := by omega
    rw [hk]
    refine awp_skip (hK5 _ ?_)
    refine awp_seq ?_; intro K7 hK7
    refine awp_block ?_
    refine sr fun K8 hK8=>?_
    refine mT ?_
    refine mT ?_
    refine ar0 (s_call (c_r01_at a k ha) (.cons (.tmp rfl) (.cons (.tmp rfl) .nil)) rfl rfl) ?_
    refine mT ?_
    refine mT ?_
    refine ar0 (s_call (c_r01_at b k hb) (.cons (.tmp rfl) (.cons (.tmp rfl) .nil)) rfl rfl) ?_
    refine ar0 (s_cmp (.tmp rfl) (.tmp rfl) rfl rfl) ?_
    refine hK8 _ ?_
    refine awp_cond (.tmp rfl) (fun ht22 => ?_) (fun ht22 => ?_)
    · have h3 : wordW a k ≠ wordW b k := by simpa [icmp, Int.ofNat_inj] using ht22
      refine awp_seq ?_; intro K9 hK9
      refine sr fun K10 hK10=>?_
      refine mT ?_
      refine mT ?_
      refine ar0 (s_call (c_r01_at a k ha) (.cons (.tmp rfl) (.cons (.tmp rfl) .nil)) rfl rfl) ?_
      refine mT ?_
      refine mT ?_
      refine ar0 (s_call (c_r01_at b k hb) (.cons (.tmp rfl) (.cons (.tmp rfl) .nil)) rfl rfl) ?_
      refine ar0 (s_cmp (.tmp rfl) (.tmp rfl) rfl rfl) ?_
      refine hK10 _ ?_
      refine awp_cond (.tmp rfl) (fun ht29 => ?_) (fun ht29 => ?_)
      · have h4 : wordW a k < wordW b k := by simpa [icmp] using ht29
        have h5 := cmp_word ha hd h4
        refine sr fun K11 hK11=>?_
        refine aC ?_
        refine hK11 _ ?_
        refine awp_ret ⟨_, (.cons (.tmp rfl) .nil), ?_⟩
        exact fin_eq1 (by simp [i64, h5])
      · have h4 : wordW b k < wordW a k := by have : wordW b k ≤ wordW a k := by simpa [icmp] using ht29
                                              omega
        have h5 := cmp_word hb hd.symm h4
        refine awp_skip (hK9 _ ?_)
        refine sr fun K12 hK12=>?_
        refine aC ?_
        refine hK12 _ ?_
        refine awp_ret ⟨_, (.cons (.tmp rfl) .nil), ?_⟩
        exact fin_eq1 (by simp [i64, h5, Nat.lt_asymm h5])
    · have h3 : wordW a k = wordW b k := by simpa [icmp, Int.ofNat_inj] using ht22
      refine awp_skip (hK7 _ ?_)
      refine awp_region ?_
      refine mT ?_
      refine ar0 (s_arithW (.tmp rfl) (.const _) rfl (i64_subI (by omega)) rfl) ?_
      refine aT ?_
      refine hK4 _ ((fun (n : Nat) => (⟨[(0, some (ws a)), (1, some (ws b)), (5, some (i64 ((n : Int) - 1)))], []⟩ : AS)) (k)) ((fun (n : Nat) => n) (k)) (Wk.of (.k (.k (.k .nil))) .nil) ⟨k, rfl, ⟨by omega, by rw [val_drops a, val_drops b, hd, h3]⟩, rfl⟩ (by first | omega | (dsimp only; omega))
  · have hn0 : n = 0 := by have := ht13; simp [icmp] at this; omega
    subst hn0
    refine awp_exit ?_
    refine hK2 _ ?_
    refine sr fun K13 hK13=>?_
    refine aC ?_
    refine hK13 _ ?_
    refine awp_ret ⟨_, (.cons (.tmp rfl) .nil), ?_⟩
    exact fin_eq1 (by simp at hd; simp [i64, hd])
end Go.Lw
namespace Go.Lw
open Go.Proofs
theorem c_r01_plus (a b : List Nat) (ha : Ws a) (hb : Ws b) (la : a.length < big) (lb : b.length < big) : FnC Tryz.prog 170 [ws a, ws b] (ws (ofNat (val a + val b))) := by
  unfold big at la lb
  obtain ⟨n, hn⟩ : ∃ n, n = max a.length b.length + 1 := ⟨_, rfl⟩
  refine con_of0 (N := 37) (rs := [.tmp 4]) Tryz.func170 rfl rfl rfl rfl ?_
  refine sr fun K1 hK1=>?_
  refine aC ?_
  refine hK1 _ ?_
  refine sr fun K2 hK2=>?_
  refine aC ?_
  refine hK2 _ ?_
  refine sr fun K3 hK3=>?_
  refine aC ?_
  refine hK3 _ ?_
  refine awp_seq ?_; intro K4 hK4
  refine sr fun K5 hK5=>?_
  refine mT ?_
  refine ar0 (s_lenMap (.tmp rfl) T66 rfl rfl) ?_
  refine mT ?_
  refine ar0 (s_lenMap (.tmp rfl) T66 rfl rfl) ?_
  refine ar0 (s_max (.tmp rfl) (.tmp rfl) rfl) ?_
  refine ar0 (s_arithW (.tmp rfl) (.const _) rfl (show _ = (n : Int) by rw [i64_addI (by omega)]; omega) rfl) ?_
  refine ar0 (s_move (.const _) rfl) ?_
  refine hK5 _ ?_
  refine awp_block ?_
  refine awp_weaken (Wk.virt 900 1 rfl) ?_
  refine awp_loop (fun n_ s_ => ∃ (out : List Nat) (c i : Nat), n - i = n_ ∧ (out.length = i ∧ i ≤ n ∧ Ws out ∧ c ≤ 1 ∧ val out + c * 4294967296 ^ i = val (a.take i) + val (b.take i)) ∧ s_ = (⟨[(0, some (ws a)), (1, some (ws b)), (5, some (.ms 900 1 0 i)), (6, some (u64 c)), (14, some (i64 n)), (15, some (i64 i))], [(900, some (.row 1 (out.map u32)))]⟩ : AS))
    (n := ((fun (out : List Nat) (c i : Nat) => n - i) ([]) (0) (0))) (s' := ((fun (out : List Nat) (c i : Nat) => (⟨[(0, some (ws a)), (1, some (ws b)), (5, some (.ms 900 1 0 i)), (6, some (u64 c)), (14, some (i64 n)), (15, some (i64 i))], [(900, some (.row 1 (out.map u32)))]⟩ : AS)) ([]) (0) (0)))
    (Wk.of (.k (.k (.k (.k (.k (.k .nil)))))) (.cons rfl (.refl _) .nil)) ⟨[], 0, 0, rfl, ⟨rfl, by omega, ws_nil, by omega, by simp [val]⟩, rfl⟩ ?_
  intro n_ s_ hI K6 hK6
  obtain ⟨out, c, i, rfl, ⟨ho, hi, hw, hc, hv⟩, rfl⟩ := hI
  refine sr fun K7 hK7=>?_
  refine ar0 (s_cmp (.tmp rfl) (.tmp rfl) rfl rfl) ?_
  refine hK7 _ ?_
  refine awp_seq ?_; intro K8 hK8
  refine awp_cond (.tmp rfl) (fun ht16 => ?_) (fun ht16 => ?_)
  · have hin : i < n := by simpa [icmp] using ht16
    have h1 := wordW_lt ha i
    have h2 := wordW_lt hb i
    obtain ⟨s, hs⟩ : ∃ s, s = c + (wordW a i + wordW b i) := ⟨_, rfl⟩
    have h3 := plus_step (u := wordW a i) (w := wordW b i) hv
    rw [← hs] at h3
    refine awp_skip (hK8 _ ?_)
    refine awp_seq ?_; intro K9 hK9
    refine awp_block ?_
    refine sr fun K10 hK10=>?_
    refine mT ?_
    refine aT ?_
    refine hK10 _ ?_
    refine sr fun K11 hK11=>?_
    refine mT ?_
    refine mT ?_
    refine ar0 (s_call (by apply c_r01_at <;> assumption) (.cons (.tmp rfl) (.cons (.tmp rfl) .nil)) rfl rfl) ?_
    refine mT ?_
    refine mT ?_
    refine ar0 (s_call (by apply c_r01_at <;> assumption) (.cons (.tmp rfl) (.cons (.tmp rfl) .nil)) rfl rfl) ?_
    refine ar0 (s_arithW (.tmp rfl) (.tmp rfl) rfl (u64_add (by omega)) rfl) ?_
    refine mT ?_
    refine ar0 (s_arithW (.tmp rfl) (.tmp rfl) rfl ((u64_add (by omega)).trans (show _ = (s : Int) by congr 1; omega)) rfl) ?_
    refine aT ?_
    refine hK11 _ ?_
    refine awp_region ?_
    refine mT ?_
    refine mT ?_
    refine ar0 (s_cvtW (.tmp rfl) (u32_wrap _) rfl T218 T186 rfl) ?_
    refine ar0 (s_buildLst rfl (.cons (.tmp rfl) .nil) T66 rfl T186 rfl rfl rfl rfl rfl rfl rfl rfl) ?_
    refine ar (s_append (.tmp rfl) rfl (by rw [List.length_map, ho]) (.tmp rfl) T66 rfl T186 rfl rfl (by simp; omega) rfl rfl) (newOk_of rfl) ?_
    refine mT ?_
    refine ar0 (s_shrW (.tmp rfl) (.const _) (by omega) (u64_shr _ 32 (by omega)) rfl) ?_
    refine aT ?_
    refine aT ?_
    refine hK9 _ ?_
    refine awp_weaken (Wk.of (sl := [(0, some (ws a)), (1, some (ws b)), (5, some (.ms 31 1 0 (i + 1))), (6, some (u64 (s / 2 ^ 32))), (14, some (i64 n)), (15, some (i64 i))]) (hp := [(31, some (.row 1 ((out ++ [s % 4294967296]).map u32)))]) (.k (.k (.k (.k (.k (.k .nil)))))) (.cons rfl (BlkSub.of (by rw [List.map_append]; rfl)) .nil)) ?_
    refine awp_weaken (Wk.rekey (k := 31) (d := 900) rfl rfl) ?_
    refine awp_region ?_
    refine ar0 (s_arithW (.tmp rfl) (.const _) rfl (i64_addI (by omega)) rfl) ?_
    refine mT ?_
    refine hK6 _ ((fun (out : List Nat) (c i : Nat) => (⟨[(0, some (ws a)), (1, some (ws b)), (5, some (.ms 900 1 0 i)), (6, some (u64 c)), (14, some (i64 n)), (15, some (i64 i))], [(900, some (.row 1 (out.map u32)))]⟩ : AS)) (out ++ [s % 4294967296]) (s / 2 ^ 32) (i + 1)) ((fun (out : List Nat) (c i : Nat) => n - i) (out ++ [s % 4294967296]) (s / 2 ^ 32) (i + 1)) (Wk.of (.k (.k (.k (.k (.k (.k .nil)))))) (.cons rfl (.refl _) .nil)) ⟨out ++ [s % 4294967296], s / 2 ^ 32, i + 1, rfl, ⟨by simp [ho], by omega, ws_app hw (ws_one (by omega)), by omega, by rw [plus_app ho, val_take_word, val_take_word, Nat.pow_succ]; exact h3⟩, rfl⟩ (by first | omega | (dsimp only; omega))
  · have hin : i = n := by have : n ≤ i := by simpa [icmp] using ht16
                           omega
    refine awp_exit ?_
    refine hK4 _ ?_
    refine awp_weaken ((Wk.freeze (k := 900) rfl).trans <| Wk.of (sl := [(5, some (ws out))]) (hp := []) (.cons rfl (Sub.of (fz_all (by simp [ho]))) .nil) .nil) ?_
    refine sr fun K12 hK12=>?_
    refine mT ?_
    refine ar0 (s_call (c_r01_trim out hw (by unfold big; omega)) (.cons (.tmp rfl) .nil) rfl rfl) ?_
    refine aT ?_
    refine hK12 _ ?_
    refine awp_ret ⟨_, (.cons (.tmp rfl) .nil), ?_⟩
    exact fin_eq1 (by
      subst hin
      rw [plus_end ha hb hn ho (by rw [val_take_ge (l := out) (by omega)]; exact hv)])
theorem c_r01_minus (a b : List Nat) (ha : Ws a) (hb : Ws b) (la : a.length < big) (hle : val b ≤ val a) : FnC Tryz.prog 172 [ws a, ws b] (ws (ofNat (val a - val b))) := by
  unfold big at la
  obtain ⟨n, hn⟩ : ∃ n, n = a.length := ⟨_, rfl⟩
  refine con_of0 (N := 35) (rs := [.tmp 4]) Tryz.func172 rfl rfl rfl rfl ?_
  refine sr fun K1 hK1=>?_
  refine aC ?_
  refine hK1 _ ?_
  refine sr fun K2 hK2=>?_
  refine aC ?_
  refine hK2 _ ?_
  refine sr fun K3 hK3=>?_
  refine aC ?_
  refine hK3 _ ?_
  refine awp_seq ?_; intro K4 hK4
  refine sr fun K5 hK5=>?_
  refine mT ?_
  refine ar0 (s_lenMap (.tmp rfl) T66 rfl rfl) ?_
  refine ar0 (s_move (.const _) rfl) ?_
  refine hK5 _ ?_
  refine awp_block ?_
  refine awp_weaken (Wk.virt 900 1 rfl) ?_
  refine awp_loop (fun n_ s_ => ∃ (out : List Nat) (c i : Nat), n - i = n_ ∧ (out.length = i ∧ i ≤ n ∧ Ws out ∧ c ≤ 1 ∧ val out + val (b.take i) = val (a.take i) + c * 4294967296 ^ i) ∧ s_ = (⟨[(0, some (ws a)), (1, some (ws b)), (5, some (.ms 900 1 0 i)), (6, some (u64 c)), (10, some (i64 n)), (11, some (i64 i))], [(900, some (.row 1 (out.map u32)))]⟩ : AS))
    (n := ((fun (out : List Nat) (c i : Nat) => n - i) ([]) (0) (0))) (s' := ((fun (out : List Nat) (c i : Nat) => (⟨[(0, some (ws a)), (1, some (ws b)), (5, some (.ms 900 1 0 i)), (6, some (u64 c)), (10, some (i64 n)), (11, some (i64 i))], [(900, some (.row 1 (out.map u32)))]⟩ : AS)) ([]) (0) (0)))
    (Wk.of (.k (.k (.k (.k (.cons rfl (Sub.int (by rw [hn])) (.k .nil)))))) (.cons rfl (.refl _) .nil)) ⟨[], 0, 0, rfl, ⟨rfl, by omega, ws_nil, by omega, by simp [val]⟩, rfl⟩ ?_
  intro n_ s_ hI K6 hK6
  obtain ⟨out, c, i, rfl, ⟨ho, hi, hw, hc, hv⟩, rfl⟩ := hI
  refine sr fun K7 hK7=>?_
  refine ar0 (s_cmp (.tmp rfl) (.tmp rfl) rfl rfl) ?_
  refine hK7 _ ?_
  refine awp_seq ?_; intro K8 hK8
  refine awp_cond (.tmp rfl) (fun ht12 => ?_) (fun ht12 => ?_)
  · have hin : i < n := by simpa [icmp] using ht12
    have h1 := wordW_lt ha i
    have h2 := wordW_lt hb i
    obtain ⟨s, hs⟩ : ∃ s, s = 4294967296 + wordW a i - wordW b i - c := ⟨_, rfl⟩
    have h3 := minus_step h1 h2 hc hv
    rw [← hs] at h3
    refine awp_skip (hK8 _ ?_)
    refine awp_seq ?_; intro K9 hK9
    refine awp_block ?_
    refine sr fun K10 hK10=>?_
    refine mT ?_
    refine aT ?_
    refine hK10 _ ?_
    refine sr fun K11 hK11=>?_
    refine mT ?_
    refine mT ?_
    refine ar0 (s_call (by apply c_r01_at <;> assumption) (.cons (.tmp rfl) (.cons (.tmp rfl) .nil)) rfl rfl) ?_
    refine ar0 (s_arithW (.const _) (.tmp rfl) rfl ((u64_add (x := 4294967296) (by omega))) rfl) ?_
    refine mT ?_
    refine mT ?_
    refine ar0 (s_call (by apply c_r01_at <;> assumption) (.cons (.tmp rfl) (.cons (.tmp rfl) .nil)) rfl rfl) ?_
    refine ar0 (s_arithW (.tmp rfl) (.tmp rfl) rfl ((u64_sub (by omega) (by omega)).trans (by rw [if_pos (by omega)])) rfl) ?_
    refine mT ?_
    refine ar0 (s_arithW (.tmp rfl) (.tmp rfl) rfl ((u64_sub (by omega) (by omega)).trans (show _ = (s : Int) by rw [if_pos (by omega)]; congr 1; omega)) rfl) ?_
    refine aT ?_
    refine hK11 _ ?_
    refine awp_region ?_
    refine mT ?_
    refine mT ?_
    refine ar0 (s_cvtW (.tmp rfl) (u32_wrap _) rfl T218 T186 rfl) ?_
    refine ar0 (s_buildLst rfl (.cons (.tmp rfl) .nil) T66 rfl T186 rfl rfl rfl rfl rfl rfl rfl rfl) ?_
    refine ar (s_append (.tmp rfl) rfl (by rw [List.length_map, ho]) (.tmp rfl) T66 rfl T186 rfl rfl (by simp; omega) rfl rfl) (newOk_of rfl) ?_
    refine mT ?_
    refine ar0 (s_shrW (.tmp rfl) (.const _) (by omega) (u64_shr _ 32 (by omega)) rfl) ?_
    refine ar0 (s_arithW (.const _) (.tmp rfl) rfl ((u64_sub (x := 1) (by omega) (by omega)).trans (by rw [if_pos (by omega)])) rfl) ?_
    refine aT ?_
    refine aT ?_
    refine hK9 _ ?_
    refine awp_weaken (Wk.of (sl := [(0, some (ws a)), (1, some (ws b)), (5, some (.ms 28 1 0 (i + 1))), (6, some (u64 (1 - s / 2 ^ 32 : Nat))), (10, some (i64 n)), (11, some (i64 i))]) (hp := [(28, some (.row 1 ((out ++ [s % 4294967296]).map u32)))]) (.k (.k (.k (.k (.k (.k .nil)))))) (.cons rfl (BlkSub.of (by rw [List.map_append]; rfl)) .nil)) ?_
    refine awp_weaken (Wk.rekey (k := 28) (d := 900) rfl rfl) ?_
    refine awp_region ?_
    refine ar0 (s_arithW (.tmp rfl) (.const _) rfl (i64_addI (by omega)) rfl) ?_
    refine mT ?_
    refine hK6 _ ((fun (out : List Nat) (c i : Nat) => (⟨[(0, some (ws a)), (1, some (ws b)), (5, some (.ms 900 1 0 i)), (6, some (u64 c)), (10, some (i64 n)), (11, some (i64 i))], [(900, some (.row 1 (out.map u32)))]⟩ : AS)) (out ++ [s % 4294967296]) (1 - s / 2 ^ 32) (i + 1)) ((fun (out : List Nat) (c i : Nat) => n - i) (out ++ [s % 4294967296]) (1 - s / 2 ^ 32) (i + 1)) (Wk.of (.k (.k (.k (.k (.k (.k .nil)))))) (.cons rfl (.refl _) .nil)) ⟨out ++ [s % 4294967296], 1 - s / 2 ^ 32, i + 1, rfl, ⟨by simp [ho], by omega, ws_app hw (ws_one (by omega)), by omega, by rw [plus_app ho, val_take_word, val_take_word, Nat.pow_succ]; exact h3⟩, rfl⟩ (by first | omega | (dsimp only; omega))
  · have hin : i = n := by have : n ≤ i := by simpa [icmp] using ht12
                           omega
    refine awp_exit ?_
    refine hK4 _ ?_
    refine awp_weaken ((Wk.freeze (k := 900) rfl).trans <| Wk.of (sl := [(5, some (ws out))]) (hp := []) (.cons rfl (Sub.of (fz_all (by simp [ho]))) .nil) .nil) ?_
    refine sr fun K12 hK12=>?_
    refine mT ?_
    refine ar0 (s_call (c_r01_trim out hw (by unfold big; omega)) (.cons (.tmp rfl) .nil) rfl rfl) ?_
    refine aT ?_
    refine hK12 _ ?_
    refine awp_ret ⟨_, (.cons (.tmp rfl) .nil), ?_⟩
    exact fin_eq1 (by
      subst hin
      subst hn
      rw [minus_end ha hw ho hle hv])
theorem c_r01_times (a b : List Nat) (ha : Ws a) (hb : Ws b) (la : a.length + b.length ≤ big) : FnC Tryz.prog 173 [ws a, ws b] (ws (ofNat (val a * val b))) := by
  have la' := la
  unfold big at la
  refine con_of0 (N := 68) (rs := [.tmp 4]) Tryz.func173 rfl rfl rfl rfl ?_
  refine sr fun K1 hK1=>?_
  refine aC ?_
  refine hK1 _ ?_
  refine sr fun K2 hK2=>?_
  refine mT ?_
  refine ar0 (s_lenMap (.tmp rfl) T66 rfl rfl) ?_
  refine mT ?_
  refine ar0 (s_lenMap (.tmp rfl) T66 rfl rfl) ?_
  refine ar0 (s_arithW (.tmp rfl) (.tmp rfl) rfl (i64_addN (by unfold maxL; omega) (by unfold maxL; omega)) rfl) ?_
  refine ar (s_make (.tmp rfl) T66 rfl T186 rfl rfl (by omega) (by dsimp only; omega) rfl) (newOk_of rfl) ?_
  refine aT ?_
  refine hK2 _ ?_
  refine awp_seq ?_; intro K3 hK3
  refine sr fun K4 hK4=>?_
  refine mT ?_
  refine ar0 (s_lenMap (.tmp rfl) T66 rfl rfl) ?_
  refine ar0 (s_move (.const _) rfl) ?_
  refine hK4 _ ?_
  refine awp_block ?_
  refine awp_loop (fun n_ s_ => ∃ (out : List Nat) (i : Nat), a.length - i = n_ ∧ (out.length = a.length + b.length ∧ i ≤ a.length ∧ Ws out ∧ val (out.take (i + b.length)) = val (a.take i) * val b) ∧ s_ = (⟨[(0, some (ws a)), (1, some (ws b)), (5, some (.ms 15 1 0 (a.length + b.length))), (17, some (i64 a.length)), (18, some (i64 i))], [(15, some (.row 1 (out.map u32)))]⟩ : AS))
    (n := ((fun (out : List Nat) (i : Nat) => a.length - i) (List.replicate (a.length + b.length) 0) (0))) (s' := ((fun (out : List Nat) (i : Nat) => (⟨[(0, some (ws a)), (1, some (ws b)), (5, some (.ms 15 1 0 (a.length + b.length))), (17, some (i64 a.length)), (18, some (i64 i))], [(15, some (.row 1 (out.map u32)))]⟩ : AS)) (List.replicate (a.length + b.length) 0) (0)))
    (Wk.of (.k (.k (.k (.k (.k .nil))))) (.cons rfl (BlkSub.of (by rw [List.map_replicate]; rfl)) .nil)) ⟨List.replicate (a.length + b.length) 0, 0, rfl, ⟨by simp, by omega, ws_rep _, by simp [val, val_zeros]⟩, rfl⟩ ?_
  intro n_ s_ hI K5 hK5
  obtain ⟨out, i, rfl, ⟨ho, hi, hw, hv⟩, rfl⟩ := hI
  refine sr fun K6 hK6=>?_
  refine ar0 (s_cmp (.tmp rfl) (.tmp rfl) rfl rfl) ?_
  refine hK6 _ ?_
  refine awp_seq ?_; intro K7 hK7
  refine awp_cond (.tmp rfl) (fun ht19 => ?_) (fun ht19 => ?_)
  · have hin : i < a.length := by simpa [icmp] using ht19
    have h1 := wordW_lt ha i
    refine awp_skip (hK7 _ ?_)
    refine awp_seq ?_; intro K8 hK8
    refine awp_block ?_
    refine sr fun K9 hK9=>?_
    refine mT ?_
    refine aT ?_
    refine hK9 _ ?_
    refine sr fun K10 hK10=>?_
    refine aC ?_
    refine hK10 _ ?_
    refine awp_seq ?_; intro K11 hK11
    refine sr fun K12 hK12=>?_
    refine mT ?_
    refine ar0 (s_lenMap (.tmp rfl) T66 rfl rfl) ?_
    refine ar0 (s_move (.const _) rfl) ?_
    refine hK12 _ ?_
    refine awp_block ?_
    refine awp_loop (fun n_ s_ => ∃ (o : List Nat) (c k : Nat), b.length - k = n_ ∧ (o.length = a.length + b.length ∧ k ≤ b.length ∧ Ws o ∧ c < 4294967296 ∧ val (o.take (i + b.length)) + c * 4294967296 ^ (i + k) = val (out.take (i + b.length)) + 4294967296 ^ i * (wordW a i * val (b.take k))) ∧ s_ = (⟨[(0, some (ws a)), (1, some (ws b)), (5, some (.ms 15 1 0 (a.length + b.length))), (17, some (i64 a.length)), (18, some (i64 i)), (6, some (i64 i)), (7, some (u64 c)), (22, some (i64 b.length)), (23, some (i64 k))], [(15, some (.row 1 (o.map u32)))]⟩ : AS))
      (n := ((fun (o : List Nat) (c k : Nat) => b.length - k) (out) (0) (0))) (s' := ((fun (o : List Nat) (c k : Nat) => (⟨[(0, some (ws a)), (1, some (ws b)), (5, some (.ms 15 1 0 (a.length + b.length))), (17, some (i64 a.length)), (18, some (i64 i)), (6, some (i64 i)), (7, some (u64 c)), (22, some (i64 b.length)), (23, some (i64 k))], [(15, some (.row 1 (o.map u32)))]⟩ : AS)) (out) (0) (0)))
      (Wk.of (.k (.k (.k (.k (.k (.k (.k (.k (.k .nil))))))))) (.cons rfl (.refl _) .nil)) ⟨out, 0, 0, rfl, ⟨ho, by omega, hw, by omega, by simp [val]⟩, rfl⟩ ?_
    intro n_ s_ hI K13 hK13
    obtain ⟨o, c, k, rfl, ⟨ho2, hk, hw2, hc, hv2⟩, rfl⟩ := hI
    refine sr fun K14 hK14=>?_
    refine ar0 (s_cmp (.tmp rfl) (.tmp rfl) rfl rfl) ?_
    refine hK14 _ ?_
    refine awp_seq ?_; intro K15 hK15
    refine awp_cond (.tmp rfl) (fun ht24 => ?_) (fun ht24 => ?_)
    · have hkn : k < b.length := by simpa [icmp] using ht24
      have h2 := wordW_lt hb k
      have h3 := wordW_lt hw2 (i + k)
      have h4 := mul_word h1 h2
      obtain ⟨s, hs⟩ : ∃ s, s = c + (wordW a i * wordW b k + wordW o (i + k)) := ⟨_, rfl⟩
      have h5 := val_set_in (x := s % 4294967296) (show i + k < o.length by omega) (show i + k < i + b.length by omega)
      have h6 := times_in h5 hs hv2
      refine awp_skip (hK15 _ ?_)
      refine awp_seq ?_; intro K16 hK16
      refine awp_block ?_
      refine sr fun K17 hK17=>?_
      refine mT ?_
      refine aT ?_
      refine hK17 _ ?_
      refine awp_seq ?_; intro K18 hK18
      refine awp_region_draw mixedP ?_
      refine mT ?_
      refine mT ?_
      refine ar0 (s_idxLst (.tmp rfl) (.tmp rfl) T66 rfl T186 rfl (by omega) (getz (n := i) (by omega) (by first | omega | (simp; omega))) rfl) ?_
      refine ar0 (s_loadIptr (.tmp rfl) T186 rfl rfl rfl) ?_
      refine ar0 (s_cvtW (.tmp rfl) (u64_in (by omega)) rfl T186 T218 rfl) ?_
      refine mT ?_
      refine mT ?_
      refine ar0 (s_idxLst (.tmp rfl) (.tmp rfl) T66 rfl T186 rfl (by omega) (getz (n := k) (by omega) (by first | omega | (simp; omega))) rfl) ?_
      refine ar0 (s_loadIptr (.tmp rfl) T186 rfl rfl rfl) ?_
      refine ar0 (s_cvtW (.tmp rfl) (u64_in (by omega)) rfl T186 T218 rfl) ?_
      refine ar0 (s_arithW (.tmp rfl) (.tmp rfl) rfl (u64_mul (by omega)) rfl) ?_
      refine mT ?_
      refine mT ?_
      refine mT ?_
      refine ar0 (s_arithW (.tmp rfl) (.tmp rfl) rfl (i64_addN (by unfold maxL; omega) (by unfold maxL; omega)) rfl) ?_
      refine ar0 (s_idxMs0 (n := i + k) (.tmp rfl) (.tmp rfl) T66 rfl T186 rfl (by omega) (by first | omega | (simp; omega)) rfl) ?_
      refine ar0 (s_loadEptr (.tmp rfl) rfl (getw (i := i + k) (by omega)) T186 rfl rfl rfl) ?_
      refine ar0 (s_cvtW (.tmp rfl) (u64_in (by omega)) rfl T186 T218 rfl) ?_
      refine ar0 (s_arithW (.tmp rfl) (.tmp rfl) rfl (u64_add (by omega)) rfl) ?_
      refine mT ?_
      refine ar0 (s_arithW (.tmp rfl) (.tmp rfl) rfl ((u64_add (by omega)).trans (show _ = (s : Int) by congr 1; omega)) rfl) ?_
      refine aT ?_
      refine ⟨by kernel_rfl, ?_⟩
      refine hK18 _ ?_
      refine awp_region ?_
      refine mT ?_
      refine mT ?_
      refine mT ?_
      refine ar0 (s_arithW (.tmp rfl) (.tmp rfl) rfl (i64_addN (by unfold maxL; omega) (by unfold maxL; omega)) rfl) ?_
      refine mT ?_
      refine ar0 (s_cvtW (.tmp rfl) (u32_wrap _) rfl T218 T186 rfl) ?_
      refine mT ?_
      refine ar0 (s_shrW (.tmp rfl) (.const _) (by omega) (u64_shr _ 32 (by omega)) rfl) ?_
      refine ar0 (s_idxMs0 (n := i + k) (.tmp rfl) (.tmp rfl) T66 rfl T186 rfl (by omega) (by first | omega | (simp; omega)) rfl) ?_
      refine ar (s_stElem (.tmp rfl) rfl (getw (i := i + k) (by omega)) rfl (.tmp rfl) rfl rfl T186 rfl rfl) (newOk_of rfl) ?_
      refine aT ?_
      refine hK16 _ ?_
      refine awp_region ?_
      refine ar0 (s_arithW (.tmp rfl) (.const _) rfl (i64_addI (by omega)) rfl) ?_
      refine mT ?_
      refine hK13 _ ((fun (o : List Nat) (c k : Nat) => (⟨[(0, some (ws a)), (1, some (ws b)), (5, some (.ms 15 1 0 (a.length + b.length))), (17, some (i64 a.length)), (18, some (i64 i)), (6, some (i64 i)), (7, some (u64 c)), (22, some (i64 b.length)), (23, some (i64 k))], [(15, some (.row 1 (o.map u32)))]⟩ : AS)) (o.set (i + k) (s % 4294967296)) (s / 2 ^ 32) (k + 1)) ((fun (o : List Nat) (c k : Nat) => b.length - k) (o.set (i + k) (s % 4294967296)) (s / 2 ^ 32) (k + 1)) (Wk.of (.k (.k (.k (.k (.k (.k (.k (.k (.k .nil))))))))) (.cons rfl (BlkSub.of (by rw [List.map_set]; rfl)) .nil)) ⟨o.set (i + k) (s % 4294967296), s / 2 ^ 32, k + 1, rfl, ⟨by simp [ho2], by omega, ws_set hw2 (by omega), by omega, by rw [show i + (k + 1) = (i + k) + 1 from rfl, show s / 2 ^ 32 = s / 4294967296 from rfl, Nat.pow_succ, h6, val_take_word]; simp only [Nat.pow_add]; grind⟩, rfl⟩ (by first | omega | (dsimp only; omega))
    · have hkn : k = b.length := by have : b.length ≤ k := by simpa [icmp] using ht24
                                    omega
      subst hkn
      have h5 := val_set_take (x := c) (show i + b.length < o.length by omega)
      rw [List.take_length] at hv2
      refine awp_exit ?_
      refine hK11 _ ?_
      refine awp_region ?_
      refine mT ?_
      refine mT ?_
      refine mT ?_
      refine ar0 (s_lenMap (.tmp rfl) T66 rfl rfl) ?_
      refine ar0 (s_arithW (.tmp rfl) (.tmp rfl) rfl (i64_addN (by unfold maxL; omega) (by unfold maxL; omega)) rfl) ?_
      refine mT ?_
      refine ar0 (s_cvtW (.tmp rfl) ((u32_wrap c).trans (by rw [Nat.mod_eq_of_lt hc])) rfl T218 T186 rfl) ?_
      refine ar0 (s_idxMs0 (n := i + b.length) (.tmp rfl) (.tmp rfl) T66 rfl T186 rfl (by omega) (by first | omega | (simp; omega)) rfl) ?_
      refine ar (s_stElem (.tmp rfl) rfl (getw (i := i + b.length) (by omega)) rfl (.tmp rfl) rfl rfl T186 rfl rfl) (newOk_of rfl) ?_
      refine hK8 _ ?_
      refine awp_region ?_
      refine ar0 (s_arithW (.tmp rfl) (.const _) rfl (i64_addI (by omega)) rfl) ?_
      refine mT ?_
      refine hK5 _ ((fun (out : List Nat) (i : Nat) => (⟨[(0, some (ws a)), (1, some (ws b)), (5, some (.ms 15 1 0 (a.length + b.length))), (17, some (i64 a.length)), (18, some (i64 i))], [(15, some (.row 1 (out.map u32)))]⟩ : AS)) (o.set (i + b.length) c) (i + 1)) ((fun (out : List Nat) (i : Nat) => a.length - i) (o.set (i + b.length) c) (i + 1)) (Wk.of (.k (.k (.k (.k (.k .nil))))) (.cons rfl (BlkSub.of (by rw [List.map_set]; rfl)) .nil)) ⟨o.set (i + b.length) c, i + 1, rfl, ⟨by simp [ho2], by omega, ws_set hw2 hc, by rw [show i + 1 + b.length = i + b.length + 1 by omega, h5, val_take_word]; simp only [Nat.pow_add] at *; grind⟩, rfl⟩ (by first | omega | (dsimp only; omega))
  · have hin : i = a.length := by have : a.length ≤ i := by simpa [icmp] using ht19
                                  omega
    subst hin
    rw [List.take_length, val_take_ge (by omega)] at hv
    refine awp_exit ?_
    refine hK3 _ ?_
    refine awp_weaken ((Wk.freeze (k := 15) rfl).trans <| Wk.of (sl := [(5, some (ws out))]) (hp := []) (.cons rfl (Sub.of (fz_all (by simp [ho]))) .nil) .nil) ?_
    refine sr fun K19 hK19=>?_
    refine mT ?_
    refine ar0 (s_call (c_r01_trim out hw (by omega)) (.cons (.tmp rfl) .nil) rfl rfl) ?_
    refine aT ?_
    refine hK19 _ ?_
    refine awp_ret ⟨_, (.cons (.tmp rfl) .nil), ?_⟩
    exact fin_eq1 (by rw [hv])
end Go.Lw
namespace Go.Lw
open Go.Proofs
theorem c_r01_Sign (a : Wh) (ha : a.ok) : FnC Tryz.prog 53 [a.av] (i64 a.z.sign) := by
 obtain ⟨e1, e2, e3⟩ := sign_end ha
 refine con_of0 (N := 9) (rs := [.tmp 2]) Tryz.func53 rfl rfl rfl rfl ?_
 refine sr fun K1 hK1=>?_
 refine bX ?_
 refine aC ?_
 refine hK1 _ ?_
 refine awp_seq ?_; intro K2 hK2
 refine sr fun K3 hK3=>?_
 refine lP T123 ?_
 refine ar0 (s_call (c_r01_mag a ha) (.cons (.tmp rfl) .nil) rfl rfl) ?_
 refine ar0 (s_lenMap (.tmp rfl) T66 rfl rfl) ?_
 refine ar0 (s_cmp (.tmp rfl) (.const _) rfl rfl) ?_
 refine hK3 _ ?_
 refine awp_cond (.tmp rfl) (fun ht6 => ?_) (fun ht6 => ?_)
 ·have h0 : a.m.length = 0 := by simpa [icmp] using ht6
  refine sr fun K4 hK4=>?_
  refine aC ?_
  refine hK4 _ ?_
  refine awp_ret ⟨_, (.cons (.tmp rfl) .nil), ?_⟩
  exact fin_eq1 (by rw [e1 h0]; rfl)
 ·have h0 : a.m.length ≠ 0 := by simpa [icmp] using ht6
  have hval : a.valid = true := by
   unfold Wh.m at h0
   split at h0
   ·assumption
   ·exact absurd rfl h0
  refine awp_skip (hK2 _ ?_)
  refine awp_seq ?_; intro K5 hK5
  refine sr fun K6 hK6=>?_
  refine lP T123 ?_
  refine ar0 (s_call (c_r01_neg a ha) (.cons (.tmp rfl) .nil) rfl rfl) ?_
  refine hK6 _ ?_
  refine awp_cond (.tmp rfl) (fun ht8 => ?_) (fun ht8 => ?_)
  ·have h1 : a.neg = true := by unfold Wh.n at ht8; rw [hval] at ht8; simpa using ht8
   refine sr fun K7 hK7=>?_
   refine aC ?_
   refine hK7 _ ?_
   refine awp_ret ⟨_, (.cons (.tmp rfl) .nil), ?_⟩
   exact fin_eq1 (by rw [e2 h0 h1]; rfl)
  ·have h1 : a.neg = false := by unfold Wh.n at ht8; rw [hval] at ht8; simpa using ht8
   refine awp_skip (hK5 _ ?_)
   refine sr fun K8 hK8=>?_
   refine aC ?_
   refine hK8 _ ?_
   refine awp_ret ⟨_, (.cons (.tmp rfl) .nil), ?_⟩
   exact fin_eq1 (by rw [e3 h0 h1]; rfl)
theorem c_r01_Neg (a : Wh) (ha : a.ok) (la : a.mag.length < big) : FnC Tryz.prog 167 [a.av] (zA (-a.z)) := by
 refine con_of0 (N := 9) (rs := [.cell 2 123]) Tryz.func167 rfl rfl rfl rfl ?_
 refine sr fun K1 hK1=>?_
 refine bX ?_
 refine al T123 ?_
 refine hK1 _ ?_
 refine awp_seq ?_; intro K2 hK2
 refine awp_region_draw mixedP ?_
 refine lP T123 ?_
 refine ar0 (s_call (c_r01_neg a ha) (.cons (.tmp rfl) .nil) rfl rfl) ?_
 refine ar0 (s_not (.tmp rfl) rfl) ?_
 refine lP T123 ?_
 refine ar0 (s_call (c_r01_mag a ha) (.cons (.tmp rfl) .nil) rfl rfl) ?_
 refine ar0 (s_call (c_r01_form _ a.m (Wh.ws ha) (Nat.le_of_lt (Wh.small ha la))) (.cons (.tmp rfl) (.cons (.tmp rfl) .nil)) rfl rfl) ?_
 refine sP T123 ?_
 refine ⟨by kernel_rfl, ?_⟩
 refine hK2 _ ?_
 refine awp_ret ⟨_, (.cons (.cell rfl rfl T123 rfl rfl) .nil), ?_⟩
 exact fin_eq (by rw [Wh.z_eq, ← sgn_neg]; rfl)
theorem c_r01_Mul (a b : Wh) (ha : a.ok) (hb : b.ok) (la : a.mag.length + b.mag.length ≤ big) : FnC Tryz.prog 114 [a.av, b.av] (zA (a.z * b.z)) := by
 have h1 := Wh.m_le (w := a)
 have h2 := Wh.m_le (w := b)
 have h3 : (ofNat (val a.m * val b.m)).length ≤ a.m.length + b.m.length := ofNat_length_le (by rw [Nat.pow_add]; exact Nat.mul_lt_mul'' (val_lt _ (Wh.ws ha)) (val_lt _ (Wh.ws hb)))
 refine con_of0 (N := 16) (rs := [.cell 4 123]) Tryz.func114 rfl rfl rfl rfl ?_
 refine sr fun K1 hK1=>?_
 refine bX ?_
 refine bX ?_
 refine al T123 ?_
 refine hK1 _ ?_
 refine awp_seq ?_; intro K2 hK2
 refine awp_region_draw mixedP ?_
 refine lP T123 ?_
 refine ar0 (s_call (c_r01_neg a ha) (.cons (.tmp rfl) .nil) rfl rfl) ?_
 refine lP T123 ?_
 refine ar0 (s_call (c_r01_neg b hb) (.cons (.tmp rfl) .nil) rfl rfl) ?_
 refine ar0 (s_boolNe (.tmp rfl) (.tmp rfl) T4 rfl rfl) ?_
 refine lP T123 ?_
 refine ar0 (s_call (c_r01_mag a ha) (.cons (.tmp rfl) .nil) rfl rfl) ?_
 refine lP T123 ?_
 refine ar0 (s_call (c_r01_mag b hb) (.cons (.tmp rfl) .nil) rfl rfl) ?_
 refine ar0 (s_call (c_r01_times a.m b.m (Wh.ws ha) (Wh.ws hb) (by omega)) (.cons (.tmp rfl) (.cons (.tmp rfl) .nil)) rfl rfl) ?_
 refine ar0 (s_call (c_r01_form _ _ (ws_ofNat _) (by omega)) (.cons (.tmp rfl) (.cons (.tmp rfl) .nil)) rfl rfl) ?_
 refine sP T123 ?_
 refine ⟨by kernel_rfl, ?_⟩
 refine hK2 _ ?_
 refine awp_ret ⟨_, (.cons (.cell rfl rfl T123 rfl rfl) .nil), ?_⟩
 exact fin_eq (by rw [val_ofNat, mul_sgn]; rfl)
theorem c_r01_Add (a b : Wh) (ha : a.ok) (hb : b.ok) (la : a.mag.length < big) (lb : b.mag.length < big) : FnC Tryz.prog 113 [a.av, b.av] (zA (a.z + b.z)) := by
 have h1 := Wh.m_le (w := a)
 have h2 := Wh.m_le (w := b)
 have hla : val a.m < 4294967296 ^ (max a.m.length b.m.length) := Nat.lt_of_lt_of_le (val_lt _ (Wh.ws ha)) (Nat.pow_le_pow_right (by omega) (by omega))
 have hlb : val b.m < 4294967296 ^ (max a.m.length b.m.length) := Nat.lt_of_lt_of_le (val_lt _ (Wh.ws hb)) (Nat.pow_le_pow_right (by omega) (by omega))
 have h3 : (ofNat (val a.m + val b.m)).length ≤ max a.m.length b.m.length + 1 := ofNat_length_le (by rw [Nat.pow_succ]; omega)
 have h4 : (ofNat (val a.m - val b.m)).length ≤ max a.m.length b.m.length := ofNat_length_le (by omega)
 have h5 : (ofNat (val b.m - val a.m)).length ≤ max a.m.length b.m.length := ofNat_length_le (by omega)
 refine con_of0 (N := 38) (rs := [.cell 4 123]) Tryz.func113 rfl rfl rfl rfl ?_
 refine sr fun K1 hK1=>?_
 refine bX ?_
 refine bX ?_
 refine al T123 ?_
 refine hK1 _ ?_
 refine awp_seq ?_; intro K2 hK2
 refine awp_region_draw mixedP ?_
 refine lP T123 ?_
 refine ar0 (s_call (c_r01_mag a ha) (.cons (.tmp rfl) .nil) rfl rfl) ?_
 refine lP T123 ?_
 refine ar0 (s_call (c_r01_mag b hb) (.cons (.tmp rfl) .nil) rfl rfl) ?_
 refine aT ?_
 refine aT ?_
 refine ⟨by kernel_rfl, ?_⟩
 refine hK2 _ ?_
 refine awp_seq ?_; intro K3 hK3
 refine awp_seq ?_; intro K4 hK4
 refine awp_region_draw mixedP ?_
 refine lP T123 ?_
 refine ar0 (s_call (c_r01_neg a ha) (.cons (.tmp rfl) .nil) rfl rfl) ?_
 refine lP T123 ?_
 refine ar0 (s_call (c_r01_neg b hb) (.cons (.tmp rfl) .nil) rfl rfl) ?_
 refine ar0 (s_boolEq (.tmp rfl) (.tmp rfl) T4 rfl rfl) ?_
 refine ⟨by kernel_rfl, ?_⟩
 refine hK4 _ ?_
 refine awp_cond (.tmp rfl) (fun ht15 => ?_) (fun ht15 => ?_)
 ·have h0 : a.n = b.n := by simpa using ht15
  refine sr fun K5 hK5=>?_
  refine lP T123 ?_
  refine ar0 (s_call (c_r01_neg a ha) (.cons (.tmp rfl) .nil) rfl rfl) ?_
  refine mT ?_
  refine mT ?_
  refine ar0 (s_call (c_r01_plus a.m b.m (Wh.ws ha) (Wh.ws hb) (by omega) (by omega)) (.cons (.tmp rfl) (.cons (.tmp rfl) .nil)) rfl rfl) ?_
  refine ar0 (s_call (c_r01_form _ _ (ws_ofNat _) (by omega)) (.cons (.tmp rfl) (.cons (.tmp rfl) .nil)) rfl rfl) ?_
  refine sP T123 ?_
  refine hK5 _ ?_
  refine awp_ret ⟨_, (.cons (.cell rfl rfl T123 rfl rfl) .nil), ?_⟩
  exact fin_eq (by rw [val_ofNat, add_same h0]; rfl)
 ·have h0 : a.n ≠ b.n := by simpa using ht15
  refine awp_skip (hK3 _ ?_)
  refine awp_seq ?_; intro K6 hK6
  refine sr fun K7 hK7=>?_
  refine mT ?_
  refine mT ?_
  refine ar0 (s_call (c_r01_compare a.m b.m (Wh.ws ha) (Wh.ws hb)) (.cons (.tmp rfl) (.cons (.tmp rfl) .nil)) rfl rfl) ?_
  refine ar0 (s_cmp (.tmp rfl) (.const _) rfl rfl) ?_
  refine hK7 _ ?_
  refine awp_cond (.tmp rfl) (fun ht25 => ?_) (fun ht25 => ?_)
  ·have h6 : val b.m ≤ val a.m := by
    rcases Nat.lt_or_ge (val a.m) (val b.m) with h | h
    ·rw [if_pos h] at ht25; cases ht25
    ·exact h
   refine sr fun K8 hK8=>?_
   refine lP T123 ?_
   refine ar0 (s_call (c_r01_neg a ha) (.cons (.tmp rfl) .nil) rfl rfl) ?_
   refine mT ?_
   refine mT ?_
   refine ar0 (s_call (c_r01_minus a.m b.m (Wh.ws ha) (Wh.ws hb) (by omega) (by omega)) (.cons (.tmp rfl) (.cons (.tmp rfl) .nil)) rfl rfl) ?_
   refine ar0 (s_call (c_r01_form _ _ (ws_ofNat _) (by omega)) (.cons (.tmp rfl) (.cons (.tmp rfl) .nil)) rfl rfl) ?_
   refine sP T123 ?_
   refine hK8 _ ?_
   refine awp_ret ⟨_, (.cons (.cell rfl rfl T123 rfl rfl) .nil), ?_⟩
   exact fin_eq (by rw [val_ofNat, add_left h0 h6]; rfl)
  ·have h6 : val a.m < val b.m := by
    rcases Nat.lt_or_ge (val a.m) (val b.m) with h | h
    ·exact h
    ·rw [if_neg (by omega)] at ht25; split at ht25 <;> cases ht25
   refine awp_skip (hK6 _ ?_)
   refine sr fun K9 hK9=>?_
   refine lP T123 ?_
   refine ar0 (s_call (c_r01_neg b hb) (.cons (.tmp rfl) .nil) rfl rfl) ?_
   refine mT ?_
   refine mT ?_
   refine ar0 (s_call (c_r01_minus b.m a.m (Wh.ws hb) (Wh.ws ha) (by omega) (by omega)) (.cons (.tmp rfl) (.cons (.tmp rfl) .nil)) rfl rfl) ?_
   refine ar0 (s_call (c_r01_form _ _ (ws_ofNat _) (by omega)) (.cons (.tmp rfl) (.cons (.tmp rfl) .nil)) rfl rfl) ?_
   refine sP T123 ?_
   refine hK9 _ ?_
   refine awp_ret ⟨_, (.cons (.cell rfl rfl T123 rfl rfl) .nil), ?_⟩
   exact fin_eq (by rw [val_ofNat, add_right h0 (by omega)]; rfl)
theorem c_r01_Of (n : Int) (h : -9223372036854775808 ≤ n ∧ n ≤ 9223372036854775807) : FnC Tryz.prog 115 [i64 n] (zA n) := by
 obtain ⟨N, hN⟩ : ∃ N, N = n.natAbs := ⟨_, rfl⟩
 have hNB : N < 18446744073709551616 := by omega
 refine con_of0 (N := 19) (rs := [.cell 2 123]) Tryz.func115 rfl rfl rfl rfl ?_
 refine sr fun K1 hK1=>?_
 refine al T123 ?_
 refine hK1 _ ?_
 refine sr fun K2 hK2=>?_
 refine mT ?_
 refine ar0 (s_cvtW (.tmp rfl) (show IntKind.u64.wrap n = ((n % 18446744073709551616 : Int)) by simp only [IntKind.wrap, IntKind.signed, IntKind.bits, Bool.false_and, if_false, Bool.false_eq_true]; omega) rfl T3 T218 rfl) ?_
 refine aT ?_
 refine hK2 _ ?_
 refine awp_seq ?_; intro K3 hK3
 refine sr fun K4 hK4=>?_
 refine mT ?_
 refine ar0 (s_cmp (.tmp rfl) (.const _) rfl rfl) ?_
 refine hK4 _ ?_
 refine awp_cond (.tmp rfl) (fun ht7 => ?_) (fun ht7 => ?_)
 ·have hn : n < 0 := by simpa [icmp] using ht7
  refine awp_region ?_
  refine mT ?_
  refine ar0 (s_neg (.tmp rfl) rfl) ?_
  refine aT ?_
  refine hK3 _ ?_
  refine awp_weaken (Wk.of (sl := [(0, some (i64 n)), (2, some (.ptr 2 0)), (3, some (u64 N))]) (hp := [(2, some (.box [.v (.bool false), .v (.slice none 0 0)]))]) (.k (.k (.cons rfl (Sub.int (by simp only [IntKind.wrap, IntKind.signed, IntKind.bits, Bool.false_and, if_false, Bool.false_eq_true]; omega)) .nil))) (.cons rfl (.refl _) .nil)) ?_
  refine sr fun K5 hK5=>?_
  refine mT ?_
  refine ar0 (s_cmp (.tmp rfl) (.const _) rfl rfl) ?_
  refine mT ?_
  refine ar0 (s_cvtW (.tmp rfl) (u32_wrap _) rfl T218 T186 rfl) ?_
  refine mT ?_
  refine ar0 (s_shrW (.tmp rfl) (.const _) (by omega) (u64_shr _ 32 (by omega)) rfl) ?_
  refine ar0 (s_cvtW (.tmp rfl) ((u32_wrap _).trans (by rw [Nat.mod_eq_of_lt (show N / 2 ^ 32 < 4294967296 by omega)])) rfl T218 T186 rfl) ?_
  refine ar0 (s_buildLst rfl (.cons (.tmp rfl) (.cons (.tmp rfl) .nil)) T66 rfl T186 rfl rfl rfl rfl rfl rfl rfl rfl) ?_
  refine ar0 (s_call (c_r01_form (icmp .lss n 0) [N % 4294967296, N / 2 ^ 32] (of_ws hNB) (by unfold big; simp)) (.cons (.tmp rfl) (.cons (.tmp rfl) .nil)) rfl rfl) ?_
  refine sP T123 ?_
  refine hK5 _ ?_
  refine awp_ret ⟨_, (.cons (.cell rfl rfl T123 rfl rfl) .nil), ?_⟩
  exact fin_eq (by rw [of_val hNB, show sgn (icmp .lss n 0) N = n by simp only [sgn, icmp, decide_eq_true_eq]; split <;> omega]; rfl)
 ·have hn : ¬ n < 0 := by simpa [icmp] using ht7
  refine awp_weaken (Wk.of (sl := [(0, some (i64 n)), (2, some (.ptr 2 0)), (3, some (u64 N))]) (hp := [(2, some (.box [.v (.bool false), .v (.slice none 0 0)]))]) (.k (.k (.cons rfl (Sub.int (by omega)) .nil))) (.cons rfl (.refl _) .nil)) ?_
  refine awp_skip (hK3 _ ?_)
  refine sr fun K6 hK6=>?_
  refine mT ?_
  refine ar0 (s_cmp (.tmp rfl) (.const _) rfl rfl) ?_
  refine mT ?_
  refine ar0 (s_cvtW (.tmp rfl) (u32_wrap _) rfl T218 T186 rfl) ?_
  refine mT ?_
  refine ar0 (s_shrW (.tmp rfl) (.const _) (by omega) (u64_shr _ 32 (by omega)) rfl) ?_
  refine ar0 (s_cvtW (.tmp rfl) ((u32_wrap _).trans (by rw [Nat.mod_eq_of_lt (show N / 2 ^ 32 < 4294967296 by omega)])) rfl T218 T186 rfl) ?_
  refine ar0 (s_buildLst rfl (.cons (.tmp rfl) (.cons (.tmp rfl) .nil)) T66 rfl T186 rfl rfl rfl rfl rfl rfl rfl rfl) ?_
  refine ar0 (s_call (c_r01_form (icmp .lss n 0) [N % 4294967296, N / 2 ^ 32] (of_ws hNB) (by unfold big; simp)) (.cons (.tmp rfl) (.cons (.tmp rfl) .nil)) rfl rfl) ?_
  refine sP T123 ?_
  refine hK6 _ ?_
  refine awp_ret ⟨_, (.cons (.cell rfl rfl T123 rfl rfl) .nil), ?_⟩
  exact fin_eq (by rw [of_val hNB, show sgn (icmp .lss n 0) N = n by simp only [sgn, icmp, decide_eq_true_eq]; split <;> omega]; rfl)
theorem c_r01_Sub (a b : Wh) (ha : a.ok) (hb : b.ok) (la : a.mag.length < big) (lb : b.mag.length < big) : FnC Tryz.prog 197 [a.av, b.av] (zA (a.z - b.z)) := by
 have h1 := (Wh.lz hb).neg
 have h2 := ofInt_len h1
 refine con_of0 (N := 9) (rs := [.cell 4 123]) Tryz.func197 rfl rfl rfl rfl ?_
 refine sr fun K1 hK1=>?_
 refine bX ?_
 refine bX ?_
 refine al T123 ?_
 refine hK1 _ ?_
 refine awp_seq ?_; intro K2 hK2
 refine awp_region_draw mixedP ?_
 refine lP T123 ?_
 refine lP T123 ?_
 refine ar0 (s_call (c_r01_Neg b hb lb) (.cons (.tmp rfl) .nil) rfl rfl) ?_
 refine ar0 (s_call (c_r01_Add a (ofInt (-b.z)) ha (ofInt_ok h1 hb.2) la (by omega)) (.cons (.tmp rfl) (.cons (.tmp rfl) .nil)) rfl rfl) ?_
 refine sP T123 ?_
 refine ⟨by kernel_rfl, ?_⟩
 refine hK2 _ ?_
 refine awp_ret ⟨_, (.cons (.cell rfl rfl T123 rfl rfl) .nil), ?_⟩
 exact fin_eq (by rw [ofInt_z, ← Int.sub_eq_add_neg]; rfl)
theorem c_r01_Cmp (a b : Wh) (ha : a.ok) (hb : b.ok) (la : a.mag.length < big) (lb : b.mag.length < big) : FnC Tryz.prog 142 [a.av, b.av] (i64 (cmp3 a.z b.z)) := by
 have h1 := (Wh.lz ha).sub (Wh.lz hb)
 have h2 := ofInt_len h1
 refine con_of0 (N := 9) (rs := [.tmp 4]) Tryz.func142 rfl rfl rfl rfl ?_
 refine sr fun K1 hK1=>?_
 refine bX ?_
 refine bX ?_
 refine aC ?_
 refine hK1 _ ?_
 refine sr fun K2 hK2=>?_
 refine lP T123 ?_
 refine lP T123 ?_
 refine ar0 (s_call (c_r01_Sub a b ha hb la lb) (.cons (.tmp rfl) (.cons (.tmp rfl) .nil)) rfl rfl) ?_
 refine ar0 (s_call (c_r01_Sign (ofInt (a.z - b.z)) (ofInt_ok h1 (by unfold maxL; unfold big at la lb; omega))) (.cons (.tmp rfl) .nil) rfl rfl) ?_
 refine aT ?_
 refine hK2 _ ?_
 refine awp_ret ⟨_, (.cons (.tmp rfl) .nil), ?_⟩
 exact fin_eq1 (by rw [ofInt_z, sign_sub])
end Go.Lw
namespace Go.Lw
theorem lst_take {A : List Nat} {n : Nat} : AV.lst 1 (((A.map u32).drop 0).take n) = ws (A.take n) := by
  rw [List.drop_zero, ← List.map_take]; rfl
theorem sc_row (A : List Nat) : (Blk.row 1 (A.map u32)).sc = true := by
  simp only [Blk.sc, List.all_map]
  rw [List.all_eq_true]
  intro x _
  rfl
theorem wordW_take {A : List Nat} {n i : Nat} (h : i < n) : wordW (A.take n) i = wordW A i := by
  simp [wordW, List.getElem?_take, h]
theorem wordW_take_ge {A : List Nat} {n i : Nat} (h : n ≤ i) : wordW (A.take n) i = 0 := word_out (by simp; omega)
theorem blen_half {x : Nat} (h : 0 < x) : blen x = blen (x / 2) + 1 := by
  rcases Nat.lt_or_ge x 2 with h1 | h1
  · have : x = 1 := by omega
    subst this; decide
  · have := blen_shr (x := x) (k := 1) (by omega)
    rw [show x / 2 ^ 1 = x / 2 from rfl] at this
    omega
theorem blen_val {a : List Nat} {n : Nat} (ha : Ws a) (na : Nz a) (hl : a.length = n + 1) : blen (val a) = 32 * n + blen (wordW a n) := by
  have ht : wordW a n ≠ 0 := by
    refine na _ ?_
    rw [List.getLast?_eq_getElem?, hl]
    exact word_get (by omega)
  have hv : val a = val (a.take n) + 4294967296 ^ n * wordW a n := by rw [← val_take_word, val_take_ge (by omega)]
  have hlt := val_take_lt ha n
  have hp : (4294967296 : Nat) ^ n = 2 ^ (32 * n) := by rw [Nat.pow_mul]
  rw [hp] at hv hlt
  have h1 : val a / 2 ^ (32 * n) = wordW a n := by
    rw [hv, Nat.add_mul_div_left _ _ (Nat.pow_pos (by omega)), Nat.div_eq_of_lt hlt, Nat.zero_add]
  have h2 : 2 ^ (32 * n) ≤ val a := by
    have := Nat.mul_le_mul_left (2 ^ (32 * n)) (show 1 ≤ wordW a n by omega)
    omega
  rw [blen_shr h2, h1]
theorem wr0 {o A : List Nat} {n v : Nat} (ho : Ws o) (hl : o.length = A.length) (hn : n ≤ A.length) (hd : o.drop n = A.drop n) (hv : val (o.take n) = v) : o = wr A 0 (fixw n v) := by
  have h1 : win o 0 n = fixw n v := fixw_of (ws_win ho _ _) (len_win (by omega)) (by rw [win, List.drop_zero, hv])
  rw [← h1]
  exact wr_of (by simp) (by rw [Nat.zero_add]; exact hd) (by omega)
end Go.Lw
namespace Go.Lw
open Go.Proofs
theorem c_r01_atO (k : Nat) (A : List Nat) (n i : Nat) (hA : Ws A) (hn : n ≤ A.length) :
  Con Tryz.prog 216 [.ms k 1 0 n, i64 i] [(k, some (.row 1 (A.map u32)))] (u64 (wordW (A.take n) i)) [(k, some (.row 1 (A.map u32)))] := by
 refine Con.borrow (args := [ws (A.take n), i64 i]) k 1 (A.map u32) rfl rfl rfl ?_ rfl (fun k' x h => by cases h) (c_r01_at (A.take n) i (ws_take hA n))
 intro j x' hj
 match j, hj with
 | 0, hj => cases hj; exact .inr ⟨0, n, rfl, by simpa using hn, by rw [lst_take]; rfl⟩
 | 1, hj => cases hj; exact .inl rfl
theorem c_r01_compareO (k1 k2 : Nat) (hk : k1 ≠ k2) (A D : List Nat) (n p : Nat) (hA : Ws A) (hD : Ws D) (hn : n ≤ A.length) (hp : p ≤ D.length) :
  Con Tryz.prog 171 [.ms k1 1 0 n, .ms k2 1 0 p] [(k1, some (.row 1 (A.map u32))), (k2, some (.row 1 (D.map u32)))]
   (i64 (if val (A.take n) < val (D.take p) then -1 else if val (D.take p) < val (A.take n) then 1 else 0)) [(k1, some (.row 1 (A.map u32))), (k2, some (.row 1 (D.map u32)))] := by
 have h1 : Con Tryz.prog 171 [ws (A.take n), .ms k2 1 0 p] [(k2, some (.row 1 (D.map u32)))]
   (i64 (if val (A.take n) < val (D.take p) then -1 else if val (D.take p) < val (A.take n) then 1 else 0)) [(k2, some (.row 1 (D.map u32)))] := by
  refine Con.borrow (args := [ws (A.take n), ws (D.take p)]) k2 1 (D.map u32) rfl rfl rfl ?_ rfl (fun k' x h => by cases h) (c_r01_compare (A.take n) (D.take p) (ws_take hA n) (ws_take hD p))
  intro j x' hj
  match j, hj with
  | 0, hj => cases hj; exact .inl rfl
  | 1, hj => cases hj; exact .inr ⟨0, p, rfl, by simpa using hp, by rw [lst_take]; rfl⟩
 refine Con.borrow (args := [ws (A.take n), .ms k2 1 0 p]) k1 1 (A.map u32) ?_ ?_ rfl ?_ rfl ?_ h1
 ·rw [lk_cons, if_neg hk]; rfl
 ·rw [lk_cons, if_neg hk]; rfl
 ·intro j x' hj
  match j, hj with
  | 0, hj => cases hj; exact .inr ⟨0, n, rfl, by simpa using hn, by rw [lst_take]; rfl⟩
  | 1, hj => cases hj; exact .inl rfl
 ·intro k' x h
  obtain ⟨_, h⟩ := lk_one h
  cases h; exact sc_row D
theorem c_r01_compareA (k : Nat) (A b : List Nat) (n : Nat) (hA : Ws A) (hb : Ws b) (hn : n ≤ A.length) :
  Con Tryz.prog 171 [.ms k 1 0 n, ws b] [(k, some (.row 1 (A.map u32)))]
   (i64 (if val (A.take n) < val b then -1 else if val b < val (A.take n) then 1 else 0)) [(k, some (.row 1 (A.map u32)))] := by
 refine Con.borrow (args := [ws (A.take n), ws b]) k 1 (A.map u32) rfl rfl rfl ?_ rfl (fun k' x h => by cases h) (c_r01_compare (A.take n) b (ws_take hA n) hb)
 intro j x' hj
 match j, hj with
 | 0, hj => cases hj; exact .inr ⟨0, n, rfl, by simpa using hn, by rw [lst_take]; rfl⟩
 | 1, hj => cases hj; exact .inl rfl
theorem c_r01_bits (a : List Nat) (ha : Ws a) (na : Nz a) (la : a.length ≤ big) : FnC Tryz.prog 246 [ws a] (i64 (blen (val a))) := by
  unfold big at la
  refine con_of0 (N := 25) (rs := [.tmp 2]) Tryz.func246 rfl rfl rfl rfl ?_
  refine sr fun K1 hK1=>?_
  refine aC ?_
  refine hK1 _ ?_
  refine awp_seq ?_; intro K2 hK2
  refine sr fun K3 hK3=>?_
  refine mT ?_
  refine ar0 (s_lenMap (.tmp rfl) T66 rfl rfl) ?_
  refine ar0 (s_cmp (.tmp rfl) (.const _) rfl rfl) ?_
  refine hK3 _ ?_
  refine awp_cond (.tmp rfl) (fun ht7 => ?_) (fun ht7 => ?_)
  · have h0 : a = [] := List.length_eq_zero_iff.1 (by simpa [icmp] using ht7)
    refine sr fun K4 hK4=>?_
    refine aC ?_
    refine hK4 _ ?_
    refine awp_ret ⟨_, (.cons (.tmp rfl) .nil), ?_⟩
    exact fin_eq1 (by subst h0; rfl)
  · have h0 : a.length ≠ 0 := by simpa [icmp] using ht7
    obtain ⟨n, hn⟩ : ∃ n, a.length = n + 1 := ⟨a.length - 1, by omega⟩
    have hB := blen_val ha na hn
    have ht := wordW_lt ha n
    refine awp_skip (hK2 _ ?_)
    refine sr fun K5 hK5=>?_
    refine mT ?_
    refine ar0 (s_lenMap (.tmp rfl) T66 rfl rfl) ?_
    refine ar0 (s_arithW (.tmp rfl) (.const _) rfl (show _ = (n : Int) by rw [i64_subI (by omega)]; omega) rfl) ?_
    refine ar0 (s_arithW (.const _) (.tmp rfl) rfl (show _ = ((32 * n : Nat) : Int) by rw [i64_mulI (by omega)]; omega) rfl) ?_
    refine aT ?_
    refine hK5 _ ?_
    refine awp_seq ?_; intro K6 hK6
    refine sr fun K7 hK7=>?_
    refine mT ?_
    refine mT ?_
    refine ar0 (s_lenMap (.tmp rfl) T66 rfl rfl) ?_
    refine ar0 (s_arithW (.tmp rfl) (.const _) rfl (show _ = (n : Int) by rw [i64_subI (by omega)]; omega) rfl) ?_
    refine ar0 (s_idxLst (.tmp rfl) (.tmp rfl) T66 rfl T186 rfl (by omega) (getz (n := n) (by omega) (by first | omega | (simp; omega))) rfl) ?_
    refine ar0 (s_loadIptr (.tmp rfl) T186 rfl rfl rfl) ?_
    refine aT ?_
    refine hK7 _ ?_
    refine awp_block ?_
    refine awp_loop (fun n_ s_ => ∃ (x c : Nat), x = n_ ∧ (x < 4294967296 ∧ c ≤ 281474976710656 ∧ c + blen x = blen (val a)) ∧ s_ = (⟨[(3, some (i64 c)), (4, some (u32 x))], []⟩ : AS))
      (n := ((fun (x c : Nat) => x) (wordW a n) (32 * n))) (s' := ((fun (x c : Nat) => (⟨[(3, some (i64 c)), (4, some (u32 x))], []⟩ : AS)) (wordW a n) (32 * n)))
      (Wk.of (.k (.k .nil)) .nil) ⟨wordW a n, 32 * n, rfl, ⟨ht, by omega, hB.symm⟩, rfl⟩ ?_
    intro n_ s_ hI K8 hK8
    obtain ⟨x, c, rfl, ⟨hx, hc, hv⟩, rfl⟩ := hI
    refine awp_seq ?_; intro K9 hK9
    refine sr fun K10 hK10=>?_
    refine mT ?_
    refine ar0 (s_cmp (.tmp rfl) (.const _) rfl rfl) ?_
    refine hK10 _ ?_
    refine awp_cond (.tmp rfl) (fun ht19 => ?_) (fun ht19 => ?_)
    · have hx0 : 0 < x := by simpa [icmp] using ht19
      have h2 := blen_half hx0
      have h3 : blen (val a) ≤ 32 * n + 32 := by
        have := (lead_le (x := wordW a n)  (by
          refine na _ ?_
          rw [List.getLast?_eq_getElem?, hn]
          exact word_get (by omega)) ht).1
        omega
      refine awp_skip (hK9 _ ?_)
      refine awp_seq ?_; intro K11 hK11
      refine awp_block ?_
      refine awp_region ?_
      refine mT ?_
      refine ar0 (s_arithW (.tmp rfl) (.const _) rfl (show _ = ((c + 1 : Nat) : Int) by rw [i64_addI (by omega)]; omega) rfl) ?_
      refine aT ?_
      refine hK11 _ ?_
      refine awp_region ?_
      refine mT ?_
      refine ar0 (s_shrW (.tmp rfl) (.const _) (by omega) (u32_shr x 1 (by omega)) rfl) ?_
      refine aT ?_
      refine hK8 _ ((fun (x c : Nat) => (⟨[(3, some (i64 c)), (4, some (u32 x))], []⟩ : AS)) (x / 2 ^ 1) (c + 1)) ((fun (x c : Nat) => x) (x / 2 ^ 1) (c + 1)) (Wk.of (.k (.k .nil)) .nil) ⟨x / 2 ^ 1, c + 1, rfl, ⟨by omega, by omega, by rw [show x / 2 ^ 1 = x / 2 from rfl]; omega⟩, rfl⟩ (by first | omega | (dsimp only; omega))
    · have hx0 : x = 0 := by have : x ≤ 0 := by simpa [icmp] using ht19
                             omega
      subst hx0
      refine awp_exit ?_
      refine hK6 _ ?_
      refine sr fun K12 hK12=>?_
      refine mT ?_
      refine aT ?_
      refine hK12 _ ?_
      refine awp_ret ⟨_, (.cons (.tmp rfl) .nil), ?_⟩
      exact fin_eq1 (by rw [← hv]; rfl)
theorem c_r01_cut (A : List Nat) (n : Nat) (hA : Ws A) (hn : n ≤ A.length) (la : A.length ≤ big) :
  Con Tryz.prog 237 [.ms 1000 1 0 n] [(1000, some (.row 1 (A.map u32)))] (.ms 1000 1 0 (ofNat (val (A.take n))).length) [(1000, some (.row 1 (A.map u32)))] := by
 unfold big at la
 refine con_of (N := 21) (rs := [.tmp 2]) Tryz.func237 rfl rfl rfl rfl (fun k z h => lk1000 h) ?_
 refine sr fun K1 hK1=>?_
 refine aC ?_
 refine hK1 _ ?_
 refine awp_seq ?_; intro K2 hK2
 refine awp_block ?_
 refine awp_loop (fun n_ s_ => ∃ (j : Nat), j = n_ ∧ (j ≤ n ∧ val (A.take j) = val (A.take n)) ∧ s_ = (⟨[(0, some (.ms 1000 1 0 j))], [(1000, some (.row 1 (A.map u32)))]⟩ : AS))
  (n := ((fun (j : Nat) => j) (n))) (s' := ((fun (j : Nat) => (⟨[(0, some (.ms 1000 1 0 j))], [(1000, some (.row 1 (A.map u32)))]⟩ : AS)) (n)))
  (Wk.of (.k .nil) (.cons rfl (.refl _) .nil)) ⟨n, rfl, ⟨Nat.le_refl _, rfl⟩, rfl⟩ ?_
 intro n_ s_ hI K3 hK3
 obtain ⟨j, rfl, ⟨hj, hv⟩, rfl⟩ := hI
 refine awp_seq ?_; intro K4 hK4
 refine sr fun K5 hK5=>?_
 refine mT ?_
 refine ar0 (s_lenMs (.tmp rfl) T66 rfl rfl) ?_
 refine ar0 (s_cmp (.tmp rfl) (.const _) rfl rfl) ?_
 refine mT ?_
 refine ar0 (s_guard rfl rfl rfl (fun h => s_move (.tmp rfl) rfl)) ?_
 refine ar0 (s_guard rfl rfl rfl (fun h => s_move (.tmp rfl) rfl)) ?_
 refine ar0 (s_guard rfl rfl rfl (fun h => s_lenMs (.opt rfl (o1 h)) T66 rfl rfl)) ?_
 refine ar0 (s_guard rfl rfl rfl (fun h => s_arithW (.opt rfl (o1 h)) (.const _) rfl (i64_sub1 (by simp [icmp] at h; omega) (by unfold maxL; omega)) rfl)) ?_
 refine ar0 (s_guard rfl rfl rfl (fun h => s_idxMs0 (n := j - 1) (.opt rfl (o1 h)) (.opt rfl (o1 h)) T66 rfl T186 rfl (by omega) (by simp [icmp] at h; omega) rfl)) ?_
 refine ar0 (s_guard rfl rfl rfl (fun h => s_loadEptr (.opt rfl (o1 h)) rfl (getw (i := j - 1) (by simp [icmp] at h; omega)) T186 rfl rfl rfl)) ?_
 refine ar0 (s_guard rfl rfl rfl (fun h => s_cmp (.opt rfl (o1 h)) (.const _) rfl rfl)) ?_
 refine ar0 (s_pick (.tmp rfl) (fun hp => .opt rfl (o1 hp)) (fun _ => .const _) rfl) ?_
 refine hK5 _ ?_
 refine awp_cond (.tmp rfl) (fun ht14 => ?_) (fun ht14 => ?_)
 ·have ht14 : 0 < j ∧ wordW A (j - 1) = 0 := by simpa [icmp] using ht14
  refine awp_skip (hK4 _ ?_)
  refine awp_block ?_
  refine awp_region ?_
  refine mT ?_
  refine mT ?_
  refine ar0 (s_lenMs (.tmp rfl) T66 rfl rfl) ?_
  refine ar0 (s_arithW (.tmp rfl) (.const _) rfl (i64_sub1 (by omega) (by unfold maxL; omega)) rfl) ?_
  refine ar0 (s_sliceMs (.tmp rfl) (.none _) (.some _ (.tmp rfl) (by omega)) T66 rfl T186 rfl (by omega) (by omega) rfl) ?_
  refine aT ?_
  refine hK3 _ ((fun (j : Nat) => (⟨[(0, some (.ms 1000 1 0 j))], [(1000, some (.row 1 (A.map u32)))]⟩ : AS)) (j - 1)) ((fun (j : Nat) => j) (j - 1)) (Wk.of (.cons rfl (Sub.of (by congr 1)) .nil) (.cons rfl (.refl _) .nil)) ⟨j - 1, rfl, ⟨by omega, by have h := @val_take_word A (j - 1); rw [show j - 1 + 1 = j by omega, ht14.2] at h; simp at h; omega⟩, rfl⟩ (by first | omega | (dsimp only; omega))
 ·have ht14 : 0 < j → wordW A (j - 1) ≠ 0 := by simpa [icmp] using ht14
  have hn1 := trim_is (m := A.take n) (n := j) (ws_take hA n) (by simp; omega) (by rw [List.take_take, Nat.min_eq_left hj]; exact hv) (by
   rcases Nat.eq_zero_or_pos j with h | h
   ·exact .inl h
   ·exact .inr (by rw [wordW_take (by omega)]; exact ht14 h))
  subst hn1
  refine awp_exit ?_
  refine hK2 _ ?_
  refine sr fun K6 hK6=>?_
  refine mT ?_
  refine aT ?_
  refine hK6 _ ?_
  refine awp_ret ⟨_, (.cons (.tmp rfl) .nil), ?_⟩
  exact Fin.own2 rfl rfl rfl
theorem c_r01_halve (A : List Nat) (n : Nat) (hA : Ws A) (hn : n ≤ A.length) (la : A.length ≤ big) :
    Con Tryz.prog 235 [.ms 1000 1 0 n] [(1000, some (.row 1 (A.map u32)))] (.ms 1000 1 0 (ofNat (val (A.take n) / 2)).length) [(1000, some (.row 1 ((wr A 0 (fixw n (val (A.take n) / 2))).map u32)))] := by
  have la' := la
  unfold big at la
  refine con_of (N := 26) (rs := [.tmp 2]) Tryz.func235 rfl rfl rfl rfl (fun k z h => lk1000 h) ?_
  refine sr fun K1 hK1=>?_
  refine aC ?_
  refine hK1 _ ?_
  refine awp_seq ?_; intro K2 hK2
  refine sr fun K3 hK3=>?_
  refine mT ?_
  refine ar0 (s_lenMs (.tmp rfl) T66 rfl rfl) ?_
  refine ar0 (s_move (.const _) rfl) ?_
  refine hK3 _ ?_
  refine awp_block ?_
  refine awp_loop (fun n_ s_ => ∃ (o : List Nat) (i : Nat), n - i = n_ ∧ (o.length = A.length ∧ i ≤ n ∧ Ws o ∧ o.drop i = A.drop i ∧ val (o.take i) = val (A.take n) / 2 ^ 1 % 4294967296 ^ i) ∧ s_ = (⟨[(0, some (.ms 1000 1 0 n)), (5, some (i64 n)), (6, some (i64 i))], [(1000, some (.row 1 (o.map u32)))]⟩ : AS))
    (n := ((fun (o : List Nat) (i : Nat) => n - i) (A) (0))) (s' := ((fun (o : List Nat) (i : Nat) => (⟨[(0, some (.ms 1000 1 0 n)), (5, some (i64 n)), (6, some (i64 i))], [(1000, some (.row 1 (o.map u32)))]⟩ : AS)) (A) (0)))
    (Wk.of (.k (.k (.k .nil))) (.cons rfl (.refl _) .nil)) ⟨A, 0, rfl, ⟨rfl, by omega, hA, rfl, by simp [val, Nat.mod_one]⟩, rfl⟩ ?_
  intro n_ s_ hI K4 hK4
  obtain ⟨o, i, rfl, ⟨ho, hi, hw, hd, hv⟩, rfl⟩ := hI
  refine sr fun K5 hK5=>?_
  refine ar0 (s_cmp (.tmp rfl) (.tmp rfl) rfl rfl) ?_
  refine hK5 _ ?_
  refine awp_seq ?_; intro K6 hK6
  refine awp_cond (.tmp rfl) (fun ht7 => ?_) (fun ht7 => ?_)
  · have hin : i < n := by simpa [icmp] using ht7
    have e1 : wordW (o.take n) i = wordW (A.take n) i := by rw [wordW_take hin, wordW_take hin]; exact word_of_drop hd
    have hd2 : o.drop (i + 1) = A.drop (i + 1) := by
      have h1 : (o.drop i).drop 1 = (A.drop i).drop 1 := by rw [hd]
      rwa [List.drop_drop, List.drop_drop] at h1
    have e2 : wordW (o.take n) (i + 1) = wordW (A.take n) (i + 1) := by
      rcases Nat.lt_or_ge (i + 1) n with h | h
      · rw [wordW_take h, wordW_take h]; exact word_of_drop hd2
      · rw [wordW_take_ge h, wordW_take_ge h]
    have b1 := wordW_lt (ws_take hA n) i
    have b2 := wordW_lt (ws_take hA n) (i + 1)
    have h3 := down_step (n := 1) (ws_take hA n) (show i < (A.take n).length by simp; omega) (show i < o.length by omega) (by omega) hv
    refine awp_skip (hK6 _ ?_)
    refine awp_seq ?_; intro K7 hK7
    refine awp_block ?_
    refine sr fun K8 hK8=>?_
    refine mT ?_
    refine aT ?_
    refine hK8 _ ?_
    refine awp_region ?_
    refine mT ?_
    refine mT ?_
    refine mT ?_
    refine mT ?_
    refine ar (s_callH (c_r01_atO 1000 o n i hw (by omega)) (.cons (.tmp rfl) (.cons (.tmp rfl) .nil)) (by first | exact hH0 | exact hH1 rfl | exact hH2 rfl rfl) rfl rfl) (newOk_of rfl) ?_
    refine ar0 (s_shrW (.tmp rfl) (.const _) (by omega) ((u64_shr _ 1 (by omega)).trans (by rw [e1])) rfl) ?_
    refine mT ?_
    refine mT ?_
    refine ar0 (s_arithW (.tmp rfl) (.const _) rfl (i64_addN (y := 1) (by unfold maxL; omega) (by unfold maxL; omega)) rfl) ?_
    refine ar (s_callH (c_r01_atO 1000 o n (i + 1) hw (by omega)) (.cons (.tmp rfl) (.cons (.tmp rfl) .nil)) (by first | exact hH0 | exact hH1 rfl | exact hH2 rfl rfl) rfl rfl) (newOk_of rfl) ?_
    refine ar0 (s_shlW (.tmp rfl) (.const _) (by omega) ((u64_shl (n := 31) (by omega) (by omega)).trans (by rw [e2])) rfl) ?_
    refine ar0 (s_bitsW (.tmp rfl) (.tmp rfl) rfl ((ibits_or64 (by omega) (by omega)).trans (by rw [or_add' (by omega)])) rfl) ?_
    refine ar0 (s_cvtW (.tmp rfl) ((u32_wrap _).trans (show _ = (((wordW (A.take n) i + wordW (A.take n) (i + 1) * 2 ^ 32) / 2 ^ 1 % 4294967296 : Nat) : Int) by congr 1; omega)) rfl T218 T186 rfl) ?_
    refine ar0 (s_idxMs0 (n := i) (.tmp rfl) (.tmp rfl) T66 rfl T186 rfl (by omega) (by first | omega | (simp; omega)) rfl) ?_
    refine ar (s_stElem (.tmp rfl) rfl (getw (i := i) (by omega)) rfl (.tmp rfl) rfl rfl T186 rfl rfl) (newOk_of rfl) ?_
    refine hK7 _ ?_
    refine awp_region ?_
    refine ar0 (s_arithW (.tmp rfl) (.const _) rfl (i64_addI (by omega)) rfl) ?_
    refine mT ?_
    refine hK4 _ ((fun (o : List Nat) (i : Nat) => (⟨[(0, some (.ms 1000 1 0 n)), (5, some (i64 n)), (6, some (i64 i))], [(1000, some (.row 1 (o.map u32)))]⟩ : AS)) (o.set i ((wordW (A.take n) i + wordW (A.take n) (i + 1) * 2 ^ 32) / 2 ^ 1 % 4294967296)) (i + 1)) ((fun (o : List Nat) (i : Nat) => n - i) (o.set i ((wordW (A.take n) i + wordW (A.take n) (i + 1) * 2 ^ 32) / 2 ^ 1 % 4294967296)) (i + 1)) (Wk.of (.k (.k (.k .nil))) (.cons rfl (BlkSub.of (by rw [List.map_set]; rfl)) .nil)) ⟨o.set i ((wordW (A.take n) i + wordW (A.take n) (i + 1) * 2 ^ 32) / 2 ^ 1 % 4294967296), i + 1, rfl, ⟨by simp [ho], by omega, ws_set hw (by omega), drop_set_next hd, h3⟩, rfl⟩ (by first | omega | (dsimp only; omega))
  · have hin : i = n := by have : n ≤ i := by simpa [icmp] using ht7
                           omega
    subst hin
    have hlt := val_take_lt hA i
    have hv' : val (o.take i) = val (A.take i) / 2 := by rw [hv, Nat.mod_eq_of_lt (by omega)]
    have h9 := wr0 hw ho hn hd hv'
    refine awp_exit ?_
    refine hK2 _ ?_
    refine sr fun K9 hK9=>?_
    refine mT ?_
    refine ar (s_callH (c_r01_cut o i hw (by omega) (by omega)) (.cons (.tmp rfl) .nil) (by first | exact hH0 | exact hH1 rfl | exact hH2 rfl rfl) rfl rfl) (newOk_of rfl) ?_
    refine aT ?_
    refine hK9 _ ?_
    refine awp_ret ⟨_, (.cons (.tmp rfl) .nil), ?_⟩
    exact Fin.own2 rfl (by rw [← h9]) (by rw [hv']; rfl)
theorem c_r01_take (A b : List Nat) (n : Nat) (hA : Ws A) (hb : Ws b) (hn : n ≤ A.length) (la : A.length ≤ big) (hle : val b ≤ val (A.take n)) :
    Con Tryz.prog 236 [.ms 1000 1 0 n, ws b] [(1000, some (.row 1 (A.map u32)))] (.tup []) [(1000, some (.row 1 ((wr A 0 (fixw n (val (A.take n) - val b))).map u32)))] := by
  unfold big at la
  refine con_of (N := 31) (rs := []) Tryz.func236 rfl rfl rfl rfl (fun k z h => lk1000 h) ?_
  refine sr fun K1 hK1=>?_
  refine aC ?_
  refine hK1 _ ?_
  refine sr fun K2 hK2=>?_
  refine mT ?_
  refine ar0 (s_lenMs (.tmp rfl) T66 rfl rfl) ?_
  refine ar0 (s_move (.const _) rfl) ?_
  refine hK2 _ ?_
  refine awp_block ?_
  refine awp_loop (fun n_ s_ => ∃ (o : List Nat) (c i : Nat), n - i = n_ ∧ (o.length = A.length ∧ i ≤ n ∧ Ws o ∧ c ≤ 1 ∧ o.drop i = A.drop i ∧ val (o.take i) + val (b.take i) = val (A.take i) + c * 4294967296 ^ i) ∧ s_ = (⟨[(0, some (.ms 1000 1 0 n)), (1, some (ws b)), (4, some (u64 c)), (8, some (i64 n)), (9, some (i64 i))], [(1000, some (.row 1 (o.map u32)))]⟩ : AS))
    (n := ((fun (o : List Nat) (c i : Nat) => n - i) (A) (0) (0))) (s' := ((fun (o : List Nat) (c i : Nat) => (⟨[(0, some (.ms 1000 1 0 n)), (1, some (ws b)), (4, some (u64 c)), (8, some (i64 n)), (9, some (i64 i))], [(1000, some (.row 1 (o.map u32)))]⟩ : AS)) (A) (0) (0)))
    (Wk.of (.k (.k (.k (.k (.k .nil))))) (.cons rfl (.refl _) .nil)) ⟨A, 0, 0, rfl, ⟨rfl, by omega, hA, by omega, rfl, by simp [val]⟩, rfl⟩ ?_
  intro n_ s_ hI K3 hK3
  obtain ⟨o, c, i, rfl, ⟨ho, hi, hw, hc, hd, hv⟩, rfl⟩ := hI
  refine sr fun K4 hK4=>?_
  refine ar0 (s_cmp (.tmp rfl) (.tmp rfl) rfl rfl) ?_
  refine hK4 _ ?_
  refine awp_seq ?_; intro K5 hK5
  refine awp_cond (.tmp rfl) (fun ht10 => ?_) (fun ht10 => ?_)
  · have hin : i < n := by simpa [icmp] using ht10
    have e1 : wordW (o.take n) i = wordW A i := by rw [wordW_take hin]; exact word_of_drop hd
    have h1 := wordW_lt hA i
    have h2 := wordW_lt hb i
    obtain ⟨s, hs⟩ : ∃ s, s = 4294967296 + wordW A i - wordW b i - c := ⟨_, rfl⟩
    have h3 := minus_step h1 h2 hc hv
    rw [← hs] at h3
    refine awp_skip (hK5 _ ?_)
    refine awp_seq ?_; intro K6 hK6
    refine awp_block ?_
    refine sr fun K7 hK7=>?_
    refine mT ?_
    refine aT ?_
    refine hK7 _ ?_
    refine sr fun K8 hK8=>?_
    refine mT ?_
    refine mT ?_
    refine ar (s_callH (c_r01_atO 1000 o n i hw (by omega)) (.cons (.tmp rfl) (.cons (.tmp rfl) .nil)) (by first | exact hH0 | exact hH1 rfl | exact hH2 rfl rfl) rfl rfl) (newOk_of rfl) ?_
    refine ar0 (s_arithW (.const _) (.tmp rfl) rfl ((u64_add (x := 4294967296) (by omega)).trans (by rw [e1])) rfl) ?_
    refine mT ?_
    refine mT ?_
    refine ar0 (s_call (c_r01_at b i hb) (.cons (.tmp rfl) (.cons (.tmp rfl) .nil)) rfl rfl) ?_
    refine ar0 (s_arithW (.tmp rfl) (.tmp rfl) rfl ((u64_sub (by omega) (by omega)).trans (by rw [if_pos (by omega)])) rfl) ?_
    refine mT ?_
    refine ar0 (s_arithW (.tmp rfl) (.tmp rfl) rfl ((u64_sub (by omega) (by omega)).trans (show _ = (s : Int) by rw [if_pos (by omega)]; congr 1; omega)) rfl) ?_
    refine aT ?_
    refine hK8 _ ?_
    refine awp_region ?_
    refine mT ?_
    refine mT ?_
    refine mT ?_
    refine ar0 (s_cvtW (.tmp rfl) (u32_wrap _) rfl T218 T186 rfl) ?_
    refine mT ?_
    refine ar0 (s_shrW (.tmp rfl) (.const _) (by omega) (u64_shr _ 32 (by omega)) rfl) ?_
    refine ar0 (s_arithW (.const _) (.tmp rfl) rfl ((u64_sub (x := 1) (by omega) (by omega)).trans (by rw [if_pos (by omega)])) rfl) ?_
    refine ar0 (s_idxMs0 (n := i) (.tmp rfl) (.tmp rfl) T66 rfl T186 rfl (by omega) (by first | omega | (simp; omega)) rfl) ?_
    refine ar (s_stElem (.tmp rfl) rfl (getw (i := i) (by omega)) rfl (.tmp rfl) rfl rfl T186 rfl rfl) (newOk_of rfl) ?_
    refine aT ?_
    refine hK6 _ ?_
    refine awp_region ?_
    refine ar0 (s_arithW (.tmp rfl) (.const _) rfl (i64_addI (by omega)) rfl) ?_
    refine mT ?_
    refine hK3 _ ((fun (o : List Nat) (c i : Nat) => (⟨[(0, some (.ms 1000 1 0 n)), (1, some (ws b)), (4, some (u64 c)), (8, some (i64 n)), (9, some (i64 i))], [(1000, some (.row 1 (o.map u32)))]⟩ : AS)) (o.set i (s % 4294967296)) (1 - s / 2 ^ 32) (i + 1)) ((fun (o : List Nat) (c i : Nat) => n - i) (o.set i (s % 4294967296)) (1 - s / 2 ^ 32) (i + 1)) (Wk.of (.k (.k (.k (.k (.k .nil))))) (.cons rfl (BlkSub.of (by rw [List.map_set]; rfl)) .nil)) ⟨o.set i (s % 4294967296), 1 - s / 2 ^ 32, i + 1, rfl, ⟨by simp [ho], by omega, ws_set hw (by omega), by omega, drop_set_next hd, by rw [val_set_take (by omega), val_take_word, val_take_word, Nat.pow_succ]; exact h3⟩, rfl⟩ (by first | omega | (dsimp only; omega))
  · have hin : i = n := by have : n ≤ i := by simpa [icmp] using ht10
                           omega
    subst hin
    have hl : (A.take i).length = i := by simp; omega
    have h4 := minus_end (a := A.take i) (b := b) (out := o.take i) (ws_take hA i) (ws_take hw i) (by simp; omega) hle (by rw [hl, List.take_of_length_le (show (A.take i).length ≤ i by omega)]; exact hv)
    have h9 := wr0 hw ho hn hd h4
    refine awp_exit ?_
    refine ⟨_, .nil, ?_⟩
    exact Fin.own2 rfl (by rw [← h9]) rfl
end Go.Lw
namespace Go.Lw
theorem i64_quo32 {x : Nat} (h : x ≤ 9223372036854775807) : IntKind.i64.wrap ((x : Int).tdiv 32) = ((x / 32 : Nat) : Int) := by
  rw [show (32 : Int) = ((32 : Nat) : Int) from rfl, ← Int.ofNat_tdiv]
  exact i64_in (by omega)
theorem rem32 {x : Nat} : (x : Int).tmod 32 = ((x % 32 : Nat) : Int) := (Int.ofNat_tmod _ _).symm
theorem pow32 (i : Nat) : (4294967296 : Nat) ^ i = 2 ^ (32 * i) := by rw [Nat.pow_mul]
/-- A bit of a number is a bit of a word. -/
theorem bit_of {a : List Nat} (ha : Ws a) {k : Nat} (hk : k / 32 < a.length) : wordW a (k / 32) / 2 ^ (k % 32) % 2 = val a / 2 ^ k % 2 := by
  have h1 : val a / 2 ^ k = (val a / 4294967296 ^ (k / 32)) / 2 ^ (k % 32) := by
    rw [pow32, Nat.div_div_eq_div_mul, ← Nat.pow_add]; congr 2; omega
  rw [h1, val_div ha _ (by omega), val_drops]
  generalize val (a.drop (k / 32 + 1)) = R
  have h2 : 4294967296 * R = 2 ^ (k % 32) * (2 * (2 ^ (31 - k % 32) * R)) := by
    have : (4294967296 : Nat) = 2 ^ (k % 32) * (2 * 2 ^ (31 - k % 32)) := by
      rw [← Nat.pow_succ', ← Nat.pow_add, show k % 32 + (31 - k % 32).succ = 32 by omega]
    conv => lhs; rw [this]
    grind
  rw [h2, Nat.add_mul_div_left _ _ (Nat.pow_pos (by omega)), Nat.add_mul_mod_self_left]
theorem dbl_or {w c : Nat} (hc : c ≤ 1) : w * 2 ^ 1 % 4294967296 ||| c = w * 2 ^ 1 % 4294967296 + c := by
  have h : w * 2 ^ 1 % 4294967296 = (w % 2147483648) * 2 ^ 1 := by omega
  rw [h]; exact or_add (by omega)
theorem dbl_step {o c P rt w bit : Nat} (hw : w < 4294967296) (h : o + c * P = 2 * rt + bit) :
    (o + P * (w * 2 ^ 1 % 4294967296 + c)) + (w / 2 ^ 31) * (P * 4294967296) = 2 * (rt + P * w) + bit := by
  have h0 : w * 2 ^ 1 % 4294967296 + (w / 2 ^ 31) * 4294967296 = 2 * w := by omega
  generalize w * 2 ^ 1 % 4294967296 = r at *
  generalize w / 2 ^ 31 = q at *
  grind
theorem bit_word {q : List Nat} (hq : Ws q) {k Y : Nat} (hk : k / 32 < q.length) (h : val q = 2 ^ (k + 1) * Y) :
    wordW q (k / 32) ||| 2 ^ (k % 32) = wordW q (k / 32) + 2 ^ (k % 32) ∧ wordW q (k / 32) + 2 ^ (k % 32) < 4294967296 := by
  have h1 := val_div hq (k / 32) (by omega)
  rw [val_drops, h, pow32, show k + 1 = 32 * (k / 32) + (k % 32 + 1) by omega, Nat.pow_add, Nat.mul_assoc, Nat.mul_div_cancel_left _ (Nat.pow_pos (by omega))] at h1
  have hw := wordW_lt hq (k / 32)
  generalize wordW q (k / 32) = w at *
  generalize val (q.drop (k / 32 + 1)) = R at *
  have hB : (4294967296 : Nat) = 2 ^ (k % 32 + 1) * 2 ^ (31 - k % 32) := by
    rw [← Nat.pow_add, show k % 32 + 1 + (31 - k % 32) = 32 by omega]
  have h2 : w % 2 ^ (k % 32 + 1) = 0 := by
    have h3 : (w + 4294967296 * R) % 2 ^ (k % 32 + 1) = 0 := by rw [← h1]; exact Nat.mul_mod_right _ _
    rw [hB, Nat.mul_assoc, Nat.add_mul_mod_self_left] at h3
    exact h3
  have h4 : w = 2 ^ (k % 32 + 1) * (w / 2 ^ (k % 32 + 1)) := by
    have := Nat.div_add_mod w (2 ^ (k % 32 + 1)); omega
  have h5 : 2 ^ (k % 32) < 2 ^ (k % 32 + 1) := by rw [Nat.pow_succ]; have := Nat.pow_pos (n := k % 32) (show 0 < 2 by omega); omega
  constructor
  · rw [h4]; exact (Nat.two_pow_add_eq_or_of_lt h5 _).symm
  · have h6 : w / 2 ^ (k % 32 + 1) < 2 ^ (31 - k % 32) := by
      rw [Nat.div_lt_iff_lt_mul (Nat.pow_pos (by omega)), Nat.mul_comm, ← hB]; exact hw
    have h7 := Nat.mul_le_mul_left (2 ^ (k % 32 + 1)) (show w / 2 ^ (k % 32 + 1) + 1 ≤ 2 ^ (31 - k % 32) from h6)
    rw [← hB, Nat.mul_add, ← h4] at h7
    omega
theorem bit_set {q : List Nat} (hq : Ws q) {k Y : Nat} (hk : k / 32 < q.length) (h : val q = 2 ^ (k + 1) * Y) :
    val (q.set (k / 32) (wordW q (k / 32) + 2 ^ (k % 32))) = 2 ^ k * (2 * Y + 1) := by
  have h1 := val_set (x := wordW q (k / 32) + 2 ^ (k % 32)) hk
  rw [Nat.mul_add] at h1
  have h2 : 4294967296 ^ (k / 32) * 2 ^ (k % 32) = 2 ^ k := by rw [pow32, ← Nat.pow_add]; congr 1; omega
  rw [h2, h, Nat.pow_succ] at h1
  grind
/-- One bit more of a quotient. -/
theorem bit_div {V Bv k : Nat} (hB : 0 < Bv) :
    (Bv ≤ 2 * (V / 2 ^ (k + 1) % Bv) + V / 2 ^ k % 2 → V / 2 ^ k % Bv = 2 * (V / 2 ^ (k + 1) % Bv) + V / 2 ^ k % 2 - Bv ∧ V / 2 ^ k / Bv = 2 * (V / 2 ^ (k + 1) / Bv) + 1) ∧
    (2 * (V / 2 ^ (k + 1) % Bv) + V / 2 ^ k % 2 < Bv → V / 2 ^ k % Bv = 2 * (V / 2 ^ (k + 1) % Bv) + V / 2 ^ k % 2 ∧ V / 2 ^ k / Bv = 2 * (V / 2 ^ (k + 1) / Bv)) := by
  have h1 : V / 2 ^ (k + 1) = V / 2 ^ k / 2 := by rw [Nat.pow_succ, Nat.div_div_eq_div_mul]
  rw [h1]
  generalize V / 2 ^ k = X
  have h2 := Nat.div_add_mod X 2
  have h3 := Nat.div_add_mod (X / 2) Bv
  have h4 := Nat.mod_lt (X / 2) hB
  have h5 := Nat.mod_lt X (show 0 < 2 by omega)
  generalize X / 2 % Bv = r at *
  generalize X / 2 / Bv = q at *
  generalize X % 2 = b at *
  generalize X / 2 = Y at *
  constructor
  · intro h
    have := div_mod_of (a := X) (w := Bv) (q := 2 * q + 1) (r := 2 * r + b - Bv) (by rw [Nat.mul_add, Nat.mul_one, show Bv * (2 * q) = 2 * (Bv * q) by grind]; omega) (by omega)
    exact ⟨this.2, this.1⟩
  · intro h
    have := div_mod_of (a := X) (w := Bv) (q := 2 * q) (r := 2 * r + b) (by rw [show Bv * (2 * q) = 2 * (Bv * q) by grind]; omega) (by omega)
    exact ⟨this.2, this.1⟩
theorem wr_all {A l : List Nat} (h : l.length = A.length) : wr A 0 l = l := by
  unfold wr
  rw [List.drop_eq_nil_of_le (by omega)]; simp
theorem blen_pow {V : Nat} : V / 2 ^ blen V = 0 := Nat.div_eq_of_lt blen_lt
/-- A bit's word is there. -/
theorem bit_in {a : List Nat} (ha : Ws a) {k : Nat} (h : k < blen (val a)) : k / 32 < a.length := by
  rcases Nat.lt_or_ge (k / 32) a.length with h1 | h1
  · exact h1
  · exfalso
    have h2 := val_lt a ha
    rw [pow32] at h2
    have h3 : val a ≠ 0 := by intro h0; rw [h0] at h; simp [blen] at h
    have h4 := blen_le h3
    have h5 : 2 ^ (32 * a.length) ≤ 2 ^ (blen (val a) - 1) := two_pow_le (by omega)
    omega
end Go.Lw
namespace Go.Lw
open Go.Proofs
theorem c_r01_divide (a b : List Nat) (ha : Ws a) (hb : Ws b) (na : Nz a) (hb0 : val b ≠ 0) (la : a.length < big) (lb : b.length < big) :
    FnC Tryz.prog 214 [ws a, ws b] (.tup [ws (ofNat (val a / val b)), ws (ofNat (val a % val b))]) := by
  have la' := la
  have lb' := lb
  unfold big at la lb
  obtain ⟨V, hV⟩ : ∃ V, V = val a := ⟨_, rfl⟩
  obtain ⟨Bv, hBv⟩ : ∃ Bv, Bv = val b := ⟨_, rfl⟩
  have hBp : 0 < Bv := by omega
  have hBl : 2 * Bv ≤ 4294967296 ^ (b.length + 1) := by have := val_lt b hb; rw [Nat.pow_succ]; omega
  have hbl : blen V ≤ 32 * a.length := by
    rcases Nat.eq_zero_or_pos (blen V) with h | h
    · omega
    · have := bit_in ha (k := blen V - 1) (by rw [← hV]; omega)
      omega
  rw [← hV, ← hBv]
  refine con_of0 (N := 76) (rs := [.tmp 4, .tmp 5]) Tryz.func214 rfl rfl rfl rfl ?_
  refine sr fun K1 hK1=>?_
  refine aC ?_
  refine aC ?_
  refine hK1 _ ?_
  refine sr fun K2 hK2=>?_
  refine mT ?_
  refine ar0 (s_lenMap (.tmp rfl) T66 rfl rfl) ?_
  refine ar (s_make (.tmp rfl) T66 rfl T186 rfl rfl (by omega) (by dsimp only; omega) rfl) (newOk_of rfl) ?_
  refine aT ?_
  refine hK2 _ ?_
  refine sr fun K3 hK3=>?_
  refine mT ?_
  refine ar0 (s_lenMap (.tmp rfl) T66 rfl rfl) ?_
  refine ar0 (s_arithW (.tmp rfl) (.const _) rfl (i64_addN (y := 1) (by unfold maxL; omega) (by unfold maxL; omega)) rfl) ?_
  refine ar (s_make (.tmp rfl) T66 rfl T186 rfl rfl (by omega) (by dsimp only; omega) rfl) (newOk_of rfl) ?_
  refine aT ?_
  refine hK3 _ ?_
  refine awp_seq ?_; intro K4 hK4
  refine sr fun K5 hK5=>?_
  refine mT ?_
  refine ar0 (s_call (hV ▸ c_r01_bits a ha na (by omega)) (.cons (.tmp rfl) .nil) rfl rfl) ?_
  refine ar0 (s_arithW (.tmp rfl) (.const _) rfl (i64_subI (by omega)) rfl) ?_
  refine aT ?_
  refine hK5 _ ?_
  refine awp_block ?_
  refine awp_loop (fun n_ s_ => ∃ (q r : List Nat) (i : Nat), i = n_ ∧ (q.length = a.length ∧ r.length = b.length + 1 ∧ Ws q ∧ Ws r ∧ i ≤ blen V ∧ val r = V / 2 ^ i % Bv ∧ val q = 2 ^ i * (V / 2 ^ i / Bv)) ∧ s_ = (⟨[(0, some (ws a)), (1, some (ws b)), (6, some (.ms 13 1 0 a.length)), (7, some (.ms 17 1 0 (b.length + 1))), (8, some (i64 ((i : Int) - 1)))], [(13, some (.row 1 (q.map u32))), (17, some (.row 1 (r.map u32)))]⟩ : AS))
    (n := ((fun (q r : List Nat) (i : Nat) => i) (List.replicate a.length 0) (List.replicate (b.length + 1) 0) (blen V))) (s' := ((fun (q r : List Nat) (i : Nat) => (⟨[(0, some (ws a)), (1, some (ws b)), (6, some (.ms 13 1 0 a.length)), (7, some (.ms 17 1 0 (b.length + 1))), (8, some (i64 ((i : Int) - 1)))], [(13, some (.row 1 (q.map u32))), (17, some (.row 1 (r.map u32)))]⟩ : AS)) (List.replicate a.length 0) (List.replicate (b.length + 1) 0) (blen V)))
    (Wk.of (.k (.k (.k (.k (.k .nil))))) (.cons rfl (BlkSub.of (by rw [List.map_replicate]; rfl)) (.cons rfl (BlkSub.of (by rw [List.map_replicate]; rfl)) .nil))) ⟨List.replicate a.length 0, List.replicate (b.length + 1) 0, blen V, rfl, ⟨by simp, by simp, ws_rep _, ws_rep _, Nat.le_refl _, by rw [val_zeros, blen_pow, Nat.zero_mod], by rw [val_zeros, blen_pow, Nat.zero_div, Nat.mul_zero]⟩, rfl⟩ ?_
  intro n_ s_ hI K6 hK6
  obtain ⟨q, r, i, rfl, ⟨hql, hrl, wq, wr', hi, hr, hq⟩, rfl⟩ := hI
  refine awp_seq ?_; intro K7 hK7
  refine sr fun K8 hK8=>?_
  refine mT ?_
  refine ar0 (s_cmp (.tmp rfl) (.const _) rfl rfl) ?_
  refine hK8 _ ?_
  refine awp_cond (.tmp rfl) (fun ht22 => ?_) (fun ht22 => ?_)
  · have hi0 : 1 ≤ i := by have := ht22; simp [icmp] at this; omega
    obtain ⟨k, rfl⟩ : ∃ k, i = k + 1 := ⟨i - 1, by omega⟩
    rw [show ((k + 1 : Nat) : Int) - 1 = (k : Int) by omega]
    have hka := bit_in ha (k := k) (by rw [← hV]; omega)
    have hbit := bit_of ha hka
    have hwB := wordW_lt ha (k / 32)
    rw [← hV] at hbit
    obtain ⟨bit, hbt⟩ : ∃ bit, bit = V / 2 ^ k % 2 := ⟨_, rfl⟩
    have hb1 : bit ≤ 1 := by omega
    have hrlt := Nat.mod_lt (V / 2 ^ (k + 1)) hBp
    have hdw : wordW a (k / 32) / 2 ^ (k % 32) ≤ wordW a (k / 32) := Nat.div_le_self _ _
    refine awp_skip (hK7 _ ?_)
    refine awp_seq ?_; intro K9 hK9
    refine awp_block ?_
    refine sr fun K10 hK10=>?_
    refine mT ?_
    refine mT ?_
    refine ar0 (s_quoW (.tmp rfl) (.const _) (by omega) (i64_quo32 (by omega)) rfl) ?_
    refine ar0 (s_idxLst (.tmp rfl) (.tmp rfl) T66 rfl T186 rfl (by omega) (getz (n := k / 32) (by omega) (by first | omega | (simp; omega))) rfl) ?_
    refine ar0 (s_loadIptr (.tmp rfl) T186 rfl rfl rfl) ?_
    refine mT ?_
    refine ar0 (s_remW (.tmp rfl) (.const _) (by omega) rem32 rfl) ?_
    refine ar0 (s_shrW (.tmp rfl) (.tmp rfl) (by omega) (u32_shr _ (k % 32) (by omega)) rfl) ?_
    refine ar0 (s_bitsW (.tmp rfl) (.const _) rfl ((ibits_and32 (y := 1) (by omega) (by omega)).trans (show _ = (bit : Int) by rw [Nat.and_one_is_mod, hbit, hbt])) rfl) ?_
    refine aT ?_
    refine hK10 _ ?_
    refine awp_seq ?_; intro K11 hK11
    refine sr fun K12 hK12=>?_
    refine mT ?_
    refine ar0 (s_lenMs (.tmp rfl) T66 rfl rfl) ?_
    refine ar0 (s_move (.const _) rfl) ?_
    refine hK12 _ ?_
    refine awp_block ?_
    refine awp_loop (fun n_ s_ => ∃ (o : List Nat) (c j : Nat), b.length + 1 - j = n_ ∧ (o.length = b.length + 1 ∧ Ws o ∧ j ≤ b.length + 1 ∧ c ≤ 1 ∧ o.drop j = r.drop j ∧ val (o.take j) + c * 4294967296 ^ j = 2 * val (r.take j) + bit) ∧ s_ = (⟨[(0, some (ws a)), (1, some (ws b)), (6, some (.ms 13 1 0 a.length)), (7, some (.ms 17 1 0 (b.length + 1))), (8, some (i64 k)), (9, some (u32 c)), (35, some (i64 (b.length + 1 : Nat))), (36, some (i64 j))], [(13, some (.row 1 (q.map u32))), (17, some (.row 1 (o.map u32)))]⟩ : AS))
      (n := ((fun (o : List Nat) (c j : Nat) => b.length + 1 - j) (r) (bit) (0))) (s' := ((fun (o : List Nat) (c j : Nat) => (⟨[(0, some (ws a)), (1, some (ws b)), (6, some (.ms 13 1 0 a.length)), (7, some (.ms 17 1 0 (b.length + 1))), (8, some (i64 k)), (9, some (u32 c)), (35, some (i64 (b.length + 1 : Nat))), (36, some (i64 j))], [(13, some (.row 1 (q.map u32))), (17, some (.row 1 (o.map u32)))]⟩ : AS)) (r) (bit) (0)))
      (Wk.of (.k (.k (.k (.k (.k (.k (.k (.k .nil)))))))) (.cons rfl (.refl _) (.cons rfl (.refl _) .nil))) ⟨r, bit, 0, rfl, ⟨hrl, wr', by omega, hb1, rfl, by simp [val]⟩, rfl⟩ ?_
    intro n_ s_ hI K13 hK13
    obtain ⟨o, c, j, rfl, ⟨hol, wo, hj, hc, hd, hv⟩, rfl⟩ := hI
    refine sr fun K14 hK14=>?_
    refine ar0 (s_cmp (.tmp rfl) (.tmp rfl) rfl rfl) ?_
    refine hK14 _ ?_
    refine awp_seq ?_; intro K15 hK15
    refine awp_cond (.tmp rfl) (fun ht37 => ?_) (fun ht37 => ?_)
    · have hjn : j < b.length + 1 := by have := ht37; simp [icmp] at this; omega
      have e1 : wordW o j = wordW r j := word_of_drop hd
      have h1 := wordW_lt wr' j
      have h3 := dbl_step (w := wordW r j) h1 hv
      refine awp_skip (hK15 _ ?_)
      refine awp_seq ?_; intro K16 hK16
      refine awp_block ?_
      refine sr fun K17 hK17=>?_
      refine mT ?_
      refine aT ?_
      refine hK17 _ ?_
      refine awp_region_draw mixedP ?_
      refine mT ?_
      refine mT ?_
      refine mT ?_
      refine mT ?_
      refine ar0 (s_idxMs0 (n := j) (.tmp rfl) (.tmp rfl) T66 rfl T186 rfl (by omega) (by first | omega | (simp; omega)) rfl) ?_
      refine ar0 (s_loadEptr (.tmp rfl) rfl (by rw [getw (show j < o.length by omega), e1]) T186 rfl rfl rfl) ?_
      refine ar0 (s_shlW (.tmp rfl) (.const _) (by omega) (u32_shl (n := 1) (by omega)) rfl) ?_
      refine mT ?_
      refine ar0 (s_bitsW (.tmp rfl) (.tmp rfl) rfl ((ibits_or32 (by omega) (by omega)).trans (by rw [dbl_or hc])) rfl) ?_
      refine mT ?_
      refine mT ?_
      refine ar0 (s_idxMs0 (n := j) (.tmp rfl) (.tmp rfl) T66 rfl T186 rfl (by omega) (by first | omega | (simp; omega)) rfl) ?_
      refine ar0 (s_loadEptr (.tmp rfl) rfl (by rw [getw (show j < o.length by omega), e1]) T186 rfl rfl rfl) ?_
      refine ar0 (s_shrW (.tmp rfl) (.const _) (by omega) (u32_shr _ 31 (by omega)) rfl) ?_
      refine ar0 (s_idxMs0 (n := j) (.tmp rfl) (.tmp rfl) T66 rfl T186 rfl (by omega) (by first | omega | (simp; omega)) rfl) ?_
      refine ar (s_stElem (.tmp rfl) rfl (getw (i := j) (by omega)) rfl (.tmp rfl) rfl rfl T186 rfl rfl) (newOk_of rfl) ?_
      refine aT ?_
      refine ⟨by kernel_rfl, ?_⟩
      refine hK16 _ ?_
      refine awp_region ?_
      refine ar0 (s_arithW (.tmp rfl) (.const _) rfl (i64_addI (by omega)) rfl) ?_
      refine mT ?_
      refine hK13 _ ((fun (o : List Nat) (c j : Nat) => (⟨[(0, some (ws a)), (1, some (ws b)), (6, some (.ms 13 1 0 a.length)), (7, some (.ms 17 1 0 (b.length + 1))), (8, some (i64 k)), (9, some (u32 c)), (35, some (i64 (b.length + 1 : Nat))), (36, some (i64 j))], [(13, some (.row 1 (q.map u32))), (17, some (.row 1 (o.map u32)))]⟩ : AS)) (o.set j (wordW r j * 2 ^ 1 % 4294967296 + c)) (wordW r j / 2 ^ 31) (j + 1)) ((fun (o : List Nat) (c j : Nat) => b.length + 1 - j) (o.set j (wordW r j * 2 ^ 1 % 4294967296 + c)) (wordW r j / 2 ^ 31) (j + 1)) (Wk.of (.k (.k (.k (.k (.k (.k (.k (.k .nil)))))))) (.cons rfl (.refl _) (.cons rfl (BlkSub.of (by rw [List.map_set]; rfl)) .nil))) ⟨o.set j (wordW r j * 2 ^ 1 % 4294967296 + c), wordW r j / 2 ^ 31, j + 1, rfl, ⟨by simp [hol], ws_set wo (by omega), by omega, by omega, drop_set_next hd, by rw [val_set_take (by omega), val_take_word]; rw [show 4294967296 ^ (j + 1) = 4294967296 ^ j * 4294967296 from Nat.pow_succ _ _]; exact h3⟩, rfl⟩ (by first | omega | (dsimp only; omega))
    · have hjn : j = b.length + 1 := by have : b.length + 1 ≤ j := by have := ht37; simp [icmp] at this; omega
                                        omega
      subst hjn
      rw [val_take_ge (l := r) (by omega), val_take_ge (l := o) (by omega), hr] at hv
      have hc0 : c = 0 := by
        cases c with
        | zero => rfl
        | succ c => rw [Nat.succ_mul] at hv; omega
      subst hc0
      rw [Nat.zero_mul, Nat.add_zero] at hv
      have hot : o.take (b.length + 1) = o := List.take_of_length_le (by omega)
      obtain ⟨d1, d2⟩ := bit_div (V := V) (k := k) hBp
      rw [← hbt] at d1 d2
      have hcmp := c_r01_compareA 17 o b (b.length + 1) wo hb (by omega)
      rw [hot, ← hBv, hv] at hcmp
      have hqk : k / 32 < q.length := by omega
      obtain ⟨w1, w2⟩ := bit_word wq hqk hq
      have w3 := bit_set wq hqk hq
      refine awp_exit ?_
      refine hK11 _ ?_
      refine sr fun K18 hK18=>?_
      refine mT ?_
      refine mT ?_
      refine ar (s_callH hcmp (.cons (.tmp rfl) (.cons (.tmp rfl) .nil)) (by first | exact hH0 | exact hH1 rfl | exact hH2 rfl rfl) rfl rfl) (newOk_of rfl) ?_
      refine ar0 (s_cmp (.tmp rfl) (.const _) rfl rfl) ?_
      refine hK18 _ ?_
      refine awp_cond (.tmp rfl) (fun ht58 => ?_) (fun ht58 => ?_)
      · have hge : Bv ≤ 2 * (V / 2 ^ (k + 1) % Bv) + bit := by
          rcases Nat.lt_or_ge (2 * (V / 2 ^ (k + 1) % Bv) + bit) Bv with h | h
          · rw [if_pos h] at ht58; cases ht58
          · exact h
        obtain ⟨d3, d4⟩ := d1 hge
        have htk := c_r01_take o b (b.length + 1) wo hb (by omega) (by unfold big; omega) (by rw [hot, ← hBv, hv]; exact hge)
        rw [hot, ← hBv, hv, ← d3, wr_all (by rw [len_fixw, hol])] at htk
        have hx2 : V / 2 ^ k % Bv < 4294967296 ^ (b.length + 1) := by have := Nat.mod_lt (V / 2 ^ k) hBp; omega
        refine sr fun K19 hK19=>?_
        refine mT ?_
        refine mT ?_
        refine ar (s_callH (Con.rekey 17 rfl rfl htk) (.cons (.tmp rfl) (.cons (.tmp rfl) .nil)) (by first | exact hH0 | exact hH1 rfl | exact hH2 rfl rfl) rfl rfl) (newOk_of rfl) ?_
        refine hK19 _ ?_
        refine awp_region_draw mixedP ?_
        refine mT ?_
        refine mT ?_
        refine ar0 (s_quoW (.tmp rfl) (.const _) (by omega) (i64_quo32 (by omega)) rfl) ?_
        refine ar0 (s_idxMs0 (n := k / 32) (.tmp rfl) (.tmp rfl) T66 rfl T186 rfl (by omega) (by omega) rfl) ?_
        refine ar0 (s_loadEptr (.tmp rfl) rfl (getw (i := k / 32) hqk) T186 rfl rfl rfl) ?_
        refine mT ?_
        refine ar0 (s_remW (.tmp rfl) (.const _) (by omega) rem32 rfl) ?_
        refine ar0 (s_shlW (.const _) (.tmp rfl) (by omega) ((u32_shl (x := 1) (n := k % 32) (by omega)).trans (show _ = ((2 ^ (k % 32) : Nat) : Int) by rw [Nat.one_mul, Nat.mod_eq_of_lt (Nat.lt_of_le_of_lt (Nat.le_add_left _ _) w2)])) rfl) ?_
        refine ar0 (s_bitsW (.tmp rfl) (.tmp rfl) rfl ((ibits_or32 (wordW_lt wq _) (Nat.lt_of_le_of_lt (Nat.le_add_left _ _) w2)).trans (by rw [w1])) rfl) ?_
        refine ar0 (s_idxMs0 (n := k / 32) (.tmp rfl) (.tmp rfl) T66 rfl T186 rfl (by omega) (by omega) rfl) ?_
        refine ar (s_stElem (.tmp rfl) rfl (getw (i := k / 32) hqk) rfl (.tmp rfl) rfl rfl T186 rfl rfl) (newOk_of rfl) ?_
        refine ⟨by kernel_rfl, ?_⟩
        refine hK9 _ ?_
        refine awp_region ?_
        refine mT ?_
        refine ar0 (s_arithW (.tmp rfl) (.const _) rfl (i64_subI (by omega)) rfl) ?_
        refine aT ?_
        refine hK6 _ ((fun (q r : List Nat) (i : Nat) => (⟨[(0, some (ws a)), (1, some (ws b)), (6, some (.ms 13 1 0 a.length)), (7, some (.ms 17 1 0 (b.length + 1))), (8, some (i64 ((i : Int) - 1)))], [(13, some (.row 1 (q.map u32))), (17, some (.row 1 (r.map u32)))]⟩ : AS)) (q.set (k / 32) (wordW q (k / 32) + 2 ^ (k % 32))) (fixw (b.length + 1) (V / 2 ^ k % Bv)) (k)) ((fun (q r : List Nat) (i : Nat) => i) (q.set (k / 32) (wordW q (k / 32) + 2 ^ (k % 32))) (fixw (b.length + 1) (V / 2 ^ k % Bv)) (k)) (Wk.of (.k (.k (.k (.k (.k .nil))))) (.cons rfl (BlkSub.of (by first | rfl | (rw [List.map_set]; rfl))) (.cons rfl (.refl _) .nil))) ⟨q.set (k / 32) (wordW q (k / 32) + 2 ^ (k % 32)), fixw (b.length + 1) (V / 2 ^ k % Bv), k, rfl, ⟨by simp [hql], len_fixw _ _, ws_set wq w2, ws_fixw _ _, by omega, val_fixw _ _ hx2, by rw [w3, d4]⟩, rfl⟩ (by first | omega | (dsimp only; omega))
      · have hge : 2 * (V / 2 ^ (k + 1) % Bv) + bit < Bv := by
          rcases Nat.lt_or_ge (2 * (V / 2 ^ (k + 1) % Bv) + bit) Bv with h | h
          · exact h
          · rw [if_neg (by omega)] at ht58; split at ht58 <;> cases ht58
        obtain ⟨d3, d4⟩ := d2 hge
        refine awp_skip (hK9 _ ?_)
        refine awp_region ?_
        refine mT ?_
        refine ar0 (s_arithW (.tmp rfl) (.const _) rfl (i64_subI (by omega)) rfl) ?_
        refine aT ?_
        refine hK6 _ ((fun (q r : List Nat) (i : Nat) => (⟨[(0, some (ws a)), (1, some (ws b)), (6, some (.ms 13 1 0 a.length)), (7, some (.ms 17 1 0 (b.length + 1))), (8, some (i64 ((i : Int) - 1)))], [(13, some (.row 1 (q.map u32))), (17, some (.row 1 (r.map u32)))]⟩ : AS)) (q) (o) (k)) ((fun (q r : List Nat) (i : Nat) => i) (q) (o) (k)) (Wk.of (.k (.k (.k (.k (.k .nil))))) (.cons rfl (BlkSub.of (by first | rfl | (rw [List.map_set]; rfl))) (.cons rfl (.refl _) .nil))) ⟨q, o, k, rfl, ⟨hql, hol, wq, wo, by omega, by rw [hv, d3], by rw [hq, d4, Nat.pow_succ, Nat.mul_assoc]⟩, rfl⟩ (by first | omega | (dsimp only; omega))
  · have hi0 : i = 0 := by have := ht22; simp [icmp] at this; omega
    subst hi0
    refine awp_exit ?_
    refine hK4 _ ?_
    refine awp_weaken ((Wk.freeze (k := 13) rfl).trans <| (Wk.freeze (k := 17) rfl).trans <| Wk.of (sl := [(6, some (ws q)), (7, some (ws r))]) (hp := []) (.cons rfl (Sub.of (by rw [show AV.fz 13 1 (q.map u32) (.ms 13 1 0 a.length) = ws q from fz_all (by simp [hql])]; rfl)) (.cons rfl (Sub.of (fz_all (by simp [hrl]))) .nil)) .nil) ?_
    refine sr fun K20 hK20=>?_
    refine mT ?_
    refine ar0 (s_call (c_r01_trim q wq (by omega)) (.cons (.tmp rfl) .nil) rfl rfl) ?_
    refine mT ?_
    refine ar0 (s_call (c_r01_trim r wr' (by unfold big; omega)) (.cons (.tmp rfl) .nil) rfl rfl) ?_
    refine aT ?_
    refine aT ?_
    refine hK20 _ ?_
    refine awp_ret ⟨_, (.cons (.tmp rfl) (.cons (.tmp rfl) .nil)), ?_⟩
    exact fin_eq2 (by rw [hr, hq]; simp [resT])
end Go.Lw
namespace Go.Lw
/-- Words at the beginning of a row, without zeros at their end. -/
def GOk (L : Nat) (A : List Nat) (n : Nat) : Prop := Ws A ∧ n ≤ A.length ∧ A.length ≤ L ∧ n = (ofNat (val (A.take n))).length
theorem ofNat_fixw (v : Nat) : ofNat v = fixw (ofNat v).length v := by
  have h := eq_fixw (ofNat v) (ws_ofNat _)
  rwa [val_ofNat] at h
theorem gok_fix {L : Nat} {A : List Nat} {n v : Nat} (h : GOk L A n) (hv : v ≤ val (A.take n)) :
    GOk L (wr A 0 (fixw n v)) (ofNat v).length ∧ val ((wr A 0 (fixw n v)).take (ofNat v).length) = v ∧ val ((wr A 0 (fixw n v)).take n) = v := by
  obtain ⟨hw, hn, hl, hN⟩ := h
  have hlt := val_take_lt hw n
  have hvl : v < 4294967296 ^ n := by omega
  have hle : (ofNat v).length ≤ n := ofNat_length_le hvl
  have ht : (wr A 0 (fixw n v)).take n = fixw n v := by
    unfold wr
    rw [List.take_zero, List.nil_append, List.take_append_of_le_length (by rw [len_fixw]; omega), List.take_of_length_le (by rw [len_fixw]; omega)]
  have ht2 : (wr A 0 (fixw n v)).take (ofNat v).length = ofNat v := by
    have h1 : ((wr A 0 (fixw n v)).take n).take (ofNat v).length = (wr A 0 (fixw n v)).take (ofNat v).length := by rw [List.take_take, Nat.min_eq_left hle]
    rw [← h1, ht, fixw_takes _ _ _ hle, ← ofNat_fixw]
  have hlen : (wr A 0 (fixw n v)).length = A.length := len_wr (by rw [len_fixw]; omega)
  refine ⟨⟨ws_wr hw (ws_fixw _ _), by omega, by omega, by rw [ht2, val_ofNat]⟩, by rw [ht2, val_ofNat], by rw [ht, val_fixw _ _ hvl]⟩
theorem gok_par {L : Nat} {A : List Nat} {n : Nat} (h : GOk L A n) (hx : 0 < val (A.take n)) : 0 < n ∧ val (A.take n) % 2 = wordW A 0 % 2 := by
  have hn : 0 < n := by
    rcases Nat.eq_zero_or_pos n with h0 | h0
    · subst h0; simp [val] at hx
    · exact h0
  refine ⟨hn, ?_⟩
  have := val_drops (A.take n) 0
  rw [List.drop_zero, wordW_take hn] at this
  omega
theorem gok_take {L : Nat} {A : List Nat} {n : Nat} (h : GOk L A n) : A.take n = ofNat (val (A.take n)) := by
  obtain ⟨hw, hn, hl, hN⟩ := h
  have h1 := take_trim (ws_take hw n)
  rw [← hN, List.take_take, Nat.min_self] at h1
  exact h1
theorem gok_zero {L : Nat} {A : List Nat} {n : Nat} (h : GOk L A n) : n = 0 ↔ val (A.take n) = 0 := by
  constructor
  · intro h0; subst h0; rfl
  · intro h0
    have h1 := h.2.2.2
    rw [h0] at h1
    exact h1
theorem gcd_even2 {x y : Nat} (hx : x % 2 = 0) (hy : y % 2 = 0) : Nat.gcd x y = 2 * Nat.gcd (x / 2) (y / 2) := by
  rw [← Nat.gcd_mul_left, Nat.mul_div_cancel' (Nat.dvd_of_mod_eq_zero hx), Nat.mul_div_cancel' (Nat.dvd_of_mod_eq_zero hy)]
theorem gcd_even1 {x y : Nat} (hx : x % 2 = 0) (hy : y % 2 = 1) : Nat.gcd (x / 2) y = Nat.gcd x y := by
  have h1 : x = 2 * (x / 2) := by omega
  have h2 : Nat.Coprime 2 y := by
    rw [Nat.Coprime, Nat.gcd_rec, hy]; rfl
  conv => rhs; rw [h1]
  exact (Nat.Coprime.gcd_mul_left_cancel _ h2).symm
theorem gcd_sub {x y : Nat} (h : y ≤ x) : Nat.gcd (x - y) y = Nat.gcd x y := Nat.gcd_sub_self_left h
theorem c_pow_lt {t L g V : Nat} (hg : 0 < g) (h : 2 ^ t * g ≤ V) (hV : V < 4294967296 ^ L) : t < 32 * L := by
  rw [pow32] at hV
  have h1 := Nat.mul_le_mul_left (2 ^ t) (show 1 ≤ g from hg)
  rcases Nat.lt_or_ge t (32 * L) with h2 | h2
  · exact h2
  · have := two_pow_le h2; omega
end Go.Lw
namespace Go.Lw
open Go.Proofs
theorem c_r01_takeO (A D : List Nat) (n p : Nat) (hA : Ws A) (hD : Ws D) (hn : n ≤ A.length) (hp : p ≤ D.length) (la : A.length ≤ big) (hle : val (D.take p) ≤ val (A.take n)) :
  Con Tryz.prog 236 [.ms 901 1 0 n, .ms 902 1 0 p] [(902, some (.row 1 (D.map u32))), (901, some (.row 1 (A.map u32)))] (.tup [])
   [(902, some (.row 1 (D.map u32))), (901, some (.row 1 ((wr A 0 (fixw n (val (A.take n) - val (D.take p)))).map u32)))] := by
 have h1 := Con.rekey 901 rfl rfl (c_r01_take A (D.take p) n hA (ws_take hD p) hn la hle)
 refine Con.borrow (args := [.ms 901 1 0 n, ws (D.take p)]) 902 1 (D.map u32) rfl rfl rfl ?_ rfl ?_ h1
 ·intro j x' hj
  match j, hj with
  | 0, hj => cases hj; exact .inl rfl
  | 1, hj => cases hj; exact .inr ⟨0, p, rfl, by simpa using hp, by rw [lst_take]; rfl⟩
 ·intro k' x h
  obtain ⟨_, h⟩ := lk_one h
  cases h; exact sc_row _
theorem and1 {A : List Nat} (hA : Ws A) {i : Nat} : ibits .and .u32 (wordW A i : Int) 1 = ((wordW A i % 2 : Nat) : Int) :=
 (ibits_and32 (y := 1) (wordW_lt hA i) (by omega)).trans (by rw [Nat.and_one_is_mod])
theorem c_r01_gcd (a b : List Nat) (ha : Ws a) (hb : Ws b) (na : Nz a) (nb : Nz b) (la : a.length + b.length < big) : FnC Tryz.prog 198 [ws a, ws b] (ws (ofNat (Nat.gcd (val a) (val b)))) := by
  have la' := la
  unfold big at la
  have ea := ofNat_val ha na
  have eb := ofNat_val hb nb
  obtain ⟨L, hL⟩ : ∃ L, L = a.length + b.length := ⟨_, rfl⟩
  obtain ⟨G, hG⟩ : ∃ G, G = Nat.gcd (val a) (val b) := ⟨_, rfl⟩
  rw [← hG]
  refine con_of0 (N := 72) (rs := [.tmp 4]) Tryz.func198 rfl rfl rfl rfl ?_
  refine sr fun K1 hK1=>?_
  refine aC ?_
  refine hK1 _ ?_
  refine sr fun K2 hK2=>?_
  refine mT ?_
  refine ar (s_callH (c_r01_trimO 901 rfl a ha (by unfold big; omega)) (.cons (.tmp rfl) .nil) (by first | exact hH0 | exact hH1 rfl | exact hH2 rfl rfl) rfl rfl) (newOk_of rfl) ?_
  refine mT ?_
  refine ar (s_callH (c_r01_trimO 902 rfl b hb (by unfold big; omega)) (.cons (.tmp rfl) .nil) (by first | exact hH0 | exact hH1 rfl | exact hH2 rfl rfl) rfl rfl) (newOk_of rfl) ?_
  refine aT ?_
  refine aT ?_
  refine hK2 _ ?_
  refine awp_weaken (Wk.of (sl := [(0, some (.ms 901 1 0 a.length)), (1, some (.ms 902 1 0 b.length))]) (hp := [(901, some (.row 1 (a.map u32))), (902, some (.row 1 (b.map u32)))]) (.cons rfl (Sub.of (by rw [ea])) (.cons rfl (Sub.of (by rw [eb])) .nil)) (.cons rfl (.refl _) (.cons rfl (.refl _) .nil))) ?_
  refine awp_seq ?_; intro K3 hK3
  refine sr fun K4 hK4=>?_
  refine mT ?_
  refine ar0 (s_lenMs (.tmp rfl) T66 rfl rfl) ?_
  refine ar0 (s_cmp (.tmp rfl) (.const _) rfl rfl) ?_
  refine hK4 _ ?_
  refine awp_cond (.tmp rfl) (fun ht12 => ?_) (fun ht12 => ?_)
  · have h0 : a = [] := List.length_eq_zero_iff.1 (by simpa [icmp] using ht12)
    refine awp_weaken ((Wk.freeze (k := 902) rfl).trans <| Wk.of (sl := [(1, some (ws b))]) (hp := []) (.cons rfl (Sub.of (fz_all (by simp))) .nil) .nil) ?_
    refine sr fun K5 hK5=>?_
    refine mT ?_
    refine aT ?_
    refine hK5 _ ?_
    refine awp_ret ⟨_, (.cons (.tmp rfl) .nil), ?_⟩
    exact fin_eq1 (by rw [hG, h0]; simp [val, resT, eb])
  · have h0 : a ≠ [] := fun h => by rw [h] at ht12; simp [icmp] at ht12
    refine awp_skip (hK3 _ ?_)
    refine awp_seq ?_; intro K6 hK6
    refine sr fun K7 hK7=>?_
    refine mT ?_
    refine ar0 (s_lenMs (.tmp rfl) T66 rfl rfl) ?_
    refine ar0 (s_cmp (.tmp rfl) (.const _) rfl rfl) ?_
    refine hK7 _ ?_
    refine awp_cond (.tmp rfl) (fun ht16 => ?_) (fun ht16 => ?_)
    · have h1 : b = [] := List.length_eq_zero_iff.1 (by simpa [icmp] using ht16)
      refine awp_weaken ((Wk.freeze (k := 901) rfl).trans <| Wk.of (sl := [(0, some (ws a))]) (hp := []) (.cons rfl (Sub.of (fz_all (by simp))) .nil) .nil) ?_
      refine sr fun K8 hK8=>?_
      refine mT ?_
      refine aT ?_
      refine hK8 _ ?_
      refine awp_ret ⟨_, (.cons (.tmp rfl) .nil), ?_⟩
      exact fin_eq1 (by rw [hG, h1]; simp [val, resT, ea])
    · have h1 : b ≠ [] := fun h => by rw [h] at ht16; simp [icmp] at ht16
      have va := val_pos na h0
      have vb := val_pos nb h1
      have hGp : 0 < G := by rw [hG]; exact Nat.gcd_pos_of_pos_left _ va
      have hGa : G ≤ val a := by rw [hG]; exact Nat.gcd_le_left _ va
      have vla := val_lt a ha
      refine awp_skip (hK6 _ ?_)
      refine sr fun K9 hK9=>?_
      refine aC ?_
      refine hK9 _ ?_
      refine awp_seq ?_; intro K10 hK10
      refine awp_block ?_
      refine awp_loop (fun n_ s_ => ∃ (A D : List Nat) (n p t : Nat), val (A.take n) = n_ ∧ (GOk L A n ∧ GOk L D p ∧ 0 < val (A.take n) ∧ 0 < val (D.take p) ∧ G = 2 ^ t * Nat.gcd (val (A.take n)) (val (D.take p))) ∧ s_ = (⟨[(0, some (.ms 901 1 0 n)), (1, some (.ms 902 1 0 p)), (5, some (i64 t))], [(901, some (.row 1 (A.map u32))), (902, some (.row 1 (D.map u32)))]⟩ : AS))
        (n := ((fun (A D : List Nat) (n p t : Nat) => val (A.take n)) (a) (b) (a.length) (b.length) (0))) (s' := ((fun (A D : List Nat) (n p t : Nat) => (⟨[(0, some (.ms 901 1 0 n)), (1, some (.ms 902 1 0 p)), (5, some (i64 t))], [(901, some (.row 1 (A.map u32))), (902, some (.row 1 (D.map u32)))]⟩ : AS)) (a) (b) (a.length) (b.length) (0)))
        (Wk.of (.k (.k (.k .nil))) (.cons rfl (.refl _) (.cons rfl (.refl _) .nil))) ⟨a, b, a.length, b.length, 0, rfl, ⟨⟨ha, Nat.le_refl _, by omega, by rw [List.take_length, ea]⟩, ⟨hb, Nat.le_refl _, by omega, by rw [List.take_length, eb]⟩, by rw [List.take_length]; exact va, by rw [List.take_length]; exact vb, by rw [List.take_length, List.take_length, hG]; simp⟩, rfl⟩ ?_
      intro n_ s_ hI K11 hK11
      obtain ⟨A, D, n, p, t, rfl, ⟨gA, gD, pA, pD, hg⟩, rfl⟩ := hI
      refine awp_seq ?_; intro K12 hK12
      refine sr fun K13 hK13=>?_
      refine mT ?_
      refine ar0 (s_idxMs0 (n := 0) (.tmp rfl) (.const _) T66 rfl T186 rfl (by omega) (by have := (gok_par gA pA).1; omega) rfl) ?_
      refine ar0 (s_loadEptr (.tmp rfl) rfl (getw (i := 0) (by have := (gok_par gA pA).1; have := gA.2.1; omega)) T186 rfl rfl rfl) ?_
      refine ar0 (s_bitsW (.tmp rfl) (.const _) rfl (and1 gA.1) rfl) ?_
      refine ar0 (s_cmp (.tmp rfl) (.const _) rfl rfl) ?_
      refine mT ?_
      refine ar0 (s_guard rfl rfl rfl (fun h => s_move (.tmp rfl) rfl)) ?_
      refine ar0 (s_guard rfl rfl rfl (fun h => s_idxMs0 (n := 0) (.opt rfl (o1 h)) (.const _) T66 rfl T186 rfl (by omega) (by have := (gok_par gD pD).1; omega) rfl)) ?_
      refine ar0 (s_guard rfl rfl rfl (fun h => s_loadEptr (.opt rfl (o1 h)) rfl (getw (i := 0) (by have := (gok_par gD pD).1; have := gD.2.1; omega)) T186 rfl rfl rfl)) ?_
      refine ar0 (s_guard rfl rfl rfl (fun h => s_bitsW (.opt rfl (o1 h)) (.const _) rfl (and1 gD.1) rfl)) ?_
      refine ar0 (s_guard rfl rfl rfl (fun h => s_cmp (.opt rfl (o1 h)) (.const _) rfl rfl)) ?_
      refine ar0 (s_pick (.tmp rfl) (fun hp => .opt rfl (o1 hp)) (fun _ => .const _) rfl) ?_
      refine hK13 _ ?_
      refine awp_cond (.tmp rfl) (fun ht29 => ?_) (fun ht29 => ?_)
      · have hev : wordW A 0 % 2 = 0 ∧ wordW D 0 % 2 = 0 := by
          have := ht29
          simp [icmp] at this
          omega
        have xA : val (A.take n) % 2 = 0 := by rw [(gok_par gA pA).2]; exact hev.1
        have xD : val (D.take p) % 2 = 0 := by rw [(gok_par gD pD).2]; exact hev.2
        obtain ⟨k1, k2, k3⟩ := gok_fix gA (v := val (A.take n) / 2) (by omega)
        obtain ⟨m1, m2, m3⟩ := gok_fix gD (v := val (D.take p) / 2) (by omega)
        have ht : t < 32 * a.length := c_pow_lt (Nat.gcd_pos_of_pos_left _ pA) (by rw [← hg]; exact hGa) vla
        refine awp_skip (hK12 _ ?_)
        refine awp_block ?_
        refine sr fun K14 hK14=>?_
        refine mT ?_
        refine ar (s_callH (Con.rekeyR 901 rfl (c_r01_halve A n gA.1 gA.2.1 (by have := gA.2.2.1; unfold big; omega))) (.cons (.tmp rfl) .nil) (by first | exact hH0 | exact hH1 rfl | exact hH2 rfl rfl) rfl rfl) (newOk_of rfl) ?_
        refine mT ?_
        refine ar (s_callH (Con.rekeyR 902 rfl (c_r01_halve D p gD.1 gD.2.1 (by have := gD.2.2.1; unfold big; omega))) (.cons (.tmp rfl) .nil) (by first | exact hH0 | exact hH1 rfl | exact hH2 rfl rfl) rfl rfl) (newOk_of rfl) ?_
        refine aT ?_
        refine aT ?_
        refine hK14 _ ?_
        refine awp_region ?_
        refine mT ?_
        refine ar0 (s_arithW (.tmp rfl) (.const _) rfl (show _ = ((t + 1 : Nat) : Int) by rw [i64_addI (by omega)]; omega) rfl) ?_
        refine aT ?_
        refine hK11 _ ((fun (A D : List Nat) (n p t : Nat) => (⟨[(0, some (.ms 901 1 0 n)), (1, some (.ms 902 1 0 p)), (5, some (i64 t))], [(901, some (.row 1 (A.map u32))), (902, some (.row 1 (D.map u32)))]⟩ : AS)) (wr A 0 (fixw n (val (A.take n) / 2))) (wr D 0 (fixw p (val (D.take p) / 2))) ((ofNat (val (A.take n) / 2)).length) ((ofNat (val (D.take p) / 2)).length) (t + 1)) ((fun (A D : List Nat) (n p t : Nat) => val (A.take n)) (wr A 0 (fixw n (val (A.take n) / 2))) (wr D 0 (fixw p (val (D.take p) / 2))) ((ofNat (val (A.take n) / 2)).length) ((ofNat (val (D.take p) / 2)).length) (t + 1)) (Wk.of (.k (.k (.k .nil))) (.cons rfl (.refl _) (.cons rfl (.refl _) .nil))) ⟨wr A 0 (fixw n (val (A.take n) / 2)), wr D 0 (fixw p (val (D.take p) / 2)), (ofNat (val (A.take n) / 2)).length, (ofNat (val (D.take p) / 2)).length, t + 1, rfl, ⟨k1, m1, by rw [k2]; omega, by rw [m2]; omega, by rw [k2, m2, hg, gcd_even2 xA xD, Nat.pow_succ]; grind⟩, rfl⟩ (by dsimp only; rw [k2]; omega)
      · have hod : val (A.take n) % 2 = 1 ∨ val (D.take p) % 2 = 1 := by
          rw [(gok_par gA pA).2, (gok_par gD pD).2]
          have := ht29
          simp [icmp] at this
          omega
        refine awp_exit ?_
        refine hK10 _ ?_
        refine awp_seq ?_; intro K15 hK15
        refine awp_block ?_
        refine awp_loop (fun n_ s_ => ∃ (A1 D1 : List Nat) (n1 p1 : Nat), val (A1.take n1) + val (D1.take p1) = n_ ∧ (GOk L A1 n1 ∧ GOk L D1 p1 ∧ 0 < val (D1.take p1) ∧ (val (A1.take n1) % 2 = 1 ∨ val (D1.take p1) % 2 = 1) ∧ G = 2 ^ t * Nat.gcd (val (A1.take n1)) (val (D1.take p1))) ∧ s_ = (⟨[(0, some (.ms 901 1 0 n1)), (1, some (.ms 902 1 0 p1)), (5, some (i64 t))], [(901, some (.row 1 (A1.map u32))), (902, some (.row 1 (D1.map u32)))]⟩ : AS))
          (n := ((fun (A1 D1 : List Nat) (n1 p1 : Nat) => val (A1.take n1) + val (D1.take p1)) (A) (D) (n) (p))) (s' := ((fun (A1 D1 : List Nat) (n1 p1 : Nat) => (⟨[(0, some (.ms 901 1 0 n1)), (1, some (.ms 902 1 0 p1)), (5, some (i64 t))], [(901, some (.row 1 (A1.map u32))), (902, some (.row 1 (D1.map u32)))]⟩ : AS)) (A) (D) (n) (p)))
          (Wk.of (.k (.k (.k .nil))) (.cons rfl (.refl _) (.cons rfl (.refl _) .nil))) ⟨A, D, n, p, rfl, ⟨gA, gD, pD, hod, hg⟩, rfl⟩ ?_
        intro n_ s_ hI K16 hK16
        obtain ⟨A1, D1, n1, p1, rfl, ⟨gA1, gD1, pD1, hod1, hg1⟩, rfl⟩ := hI
        refine awp_seq ?_; intro K17 hK17
        refine sr fun K18 hK18=>?_
        refine mT ?_
        refine ar0 (s_lenMs (.tmp rfl) T66 rfl rfl) ?_
        refine ar0 (s_cmp (.tmp rfl) (.const _) rfl rfl) ?_
        refine hK18 _ ?_
        refine awp_cond (.tmp rfl) (fun ht38 => ?_) (fun ht38 => ?_)
        · have pA1 : 0 < val (A1.take n1) := by
            have h3 : n1 ≠ 0 := by have := ht38; simp [icmp] at this; omega
            exact Nat.pos_of_ne_zero (fun h => h3 ((gok_zero gA1).2 h))
          refine awp_skip (hK17 _ ?_)
          refine awp_block ?_
          refine awp_seq ?_; intro K19 hK19
          refine awp_block ?_
          refine awp_loop (fun n_ s_ => ∃ (A2 : List Nat) (n2 : Nat), val (A2.take n2) = n_ ∧ (GOk L A2 n2 ∧ 0 < val (A2.take n2) ∧ val (A2.take n2) ≤ val (A1.take n1) ∧ (val (A2.take n2) % 2 = 1 ∨ val (D1.take p1) % 2 = 1) ∧ Nat.gcd (val (A2.take n2)) (val (D1.take p1)) = Nat.gcd (val (A1.take n1)) (val (D1.take p1))) ∧ s_ = (⟨[(0, some (.ms 901 1 0 n2)), (1, some (.ms 902 1 0 p1)), (5, some (i64 t))], [(901, some (.row 1 (A2.map u32))), (902, some (.row 1 (D1.map u32)))]⟩ : AS))
            (n := ((fun (A2 : List Nat) (n2 : Nat) => val (A2.take n2)) (A1) (n1))) (s' := ((fun (A2 : List Nat) (n2 : Nat) => (⟨[(0, some (.ms 901 1 0 n2)), (1, some (.ms 902 1 0 p1)), (5, some (i64 t))], [(901, some (.row 1 (A2.map u32))), (902, some (.row 1 (D1.map u32)))]⟩ : AS)) (A1) (n1)))
            (Wk.of (.k (.k (.k .nil))) (.cons rfl (.refl _) (.cons rfl (.refl _) .nil))) ⟨A1, n1, rfl, ⟨gA1, pA1, Nat.le_refl _, hod1, rfl⟩, rfl⟩ ?_
          intro n_ s_ hI K20 hK20
          obtain ⟨A2, n2, rfl, ⟨gA2, pA2, lA2, hod2, hg2⟩, rfl⟩ := hI
          refine awp_seq ?_; intro K21 hK21
          refine sr fun K22 hK22=>?_
          refine mT ?_
          refine ar0 (s_idxMs0 (n := 0) (.tmp rfl) (.const _) T66 rfl T186 rfl (by omega) (by have := (gok_par gA2 pA2).1; omega) rfl) ?_
          refine ar0 (s_loadEptr (.tmp rfl) rfl (getw (i := 0) (by have := (gok_par gA2 pA2).1; have := gA2.2.1; omega)) T186 rfl rfl rfl) ?_
          refine ar0 (s_bitsW (.tmp rfl) (.const _) rfl (and1 gA2.1) rfl) ?_
          refine ar0 (s_cmp (.tmp rfl) (.const _) rfl rfl) ?_
          refine hK22 _ ?_
          refine awp_cond (.tmp rfl) (fun ht43 => ?_) (fun ht43 => ?_)
          · have xA2 : val (A2.take n2) % 2 = 0 := by
              rw [(gok_par gA2 pA2).2]
              have := ht43
              simp [icmp] at this
              omega
            obtain ⟨k1, k2, k3⟩ := gok_fix gA2 (v := val (A2.take n2) / 2) (by omega)
            refine awp_skip (hK21 _ ?_)
            refine awp_block ?_
            refine awp_region ?_
            refine mT ?_
            refine ar (s_callH (Con.rekeyR 901 rfl (c_r01_halve A2 n2 gA2.1 gA2.2.1 (by have := gA2.2.2.1; unfold big; omega))) (.cons (.tmp rfl) .nil) (by first | exact hH0 | exact hH1 rfl | exact hH2 rfl rfl) rfl rfl) (newOk_of rfl) ?_
            refine aT ?_
            refine hK20 _ ((fun (A2 : List Nat) (n2 : Nat) => (⟨[(0, some (.ms 901 1 0 n2)), (1, some (.ms 902 1 0 p1)), (5, some (i64 t))], [(901, some (.row 1 (A2.map u32))), (902, some (.row 1 (D1.map u32)))]⟩ : AS)) (wr A2 0 (fixw n2 (val (A2.take n2) / 2))) ((ofNat (val (A2.take n2) / 2)).length)) ((fun (A2 : List Nat) (n2 : Nat) => val (A2.take n2)) (wr A2 0 (fixw n2 (val (A2.take n2) / 2))) ((ofNat (val (A2.take n2) / 2)).length)) (Wk.of (.k (.k (.k .nil))) (.cons rfl (.refl _) (.cons rfl (.refl _) .nil))) ⟨wr A2 0 (fixw n2 (val (A2.take n2) / 2)), (ofNat (val (A2.take n2) / 2)).length, rfl, ⟨k1, by rw [k2]; omega, by rw [k2]; omega, .inr (by omega), by rw [k2, gcd_even1 xA2 (by omega), hg2]⟩, rfl⟩ (by dsimp only; rw [k2]; omega)
          · have xA2 : val (A2.take n2) % 2 = 1 := by
              rw [(gok_par gA2 pA2).2]
              have := ht43
              simp [icmp] at this
              omega
            refine awp_exit ?_
            refine hK19 _ ?_
            refine awp_seq ?_; intro K23 hK23
            refine awp_block ?_
            refine awp_loop (fun n_ s_ => ∃ (D2 : List Nat) (p2 : Nat), val (D2.take p2) = n_ ∧ (GOk L D2 p2 ∧ 0 < val (D2.take p2) ∧ val (D2.take p2) ≤ val (D1.take p1) ∧ Nat.gcd (val (A2.take n2)) (val (D2.take p2)) = Nat.gcd (val (A2.take n2)) (val (D1.take p1))) ∧ s_ = (⟨[(0, some (.ms 901 1 0 n2)), (1, some (.ms 902 1 0 p2)), (5, some (i64 t))], [(901, some (.row 1 (A2.map u32))), (902, some (.row 1 (D2.map u32)))]⟩ : AS))
              (n := ((fun (D2 : List Nat) (p2 : Nat) => val (D2.take p2)) (D1) (p1))) (s' := ((fun (D2 : List Nat) (p2 : Nat) => (⟨[(0, some (.ms 901 1 0 n2)), (1, some (.ms 902 1 0 p2)), (5, some (i64 t))], [(901, some (.row 1 (A2.map u32))), (902, some (.row 1 (D2.map u32)))]⟩ : AS)) (D1) (p1)))
              (Wk.of (.k (.k (.k .nil))) (.cons rfl (.refl _) (.cons rfl (.refl _) .nil))) ⟨D1, p1, rfl, ⟨gD1, pD1, Nat.le_refl _, rfl⟩, rfl⟩ ?_
            intro n_ s_ hI K24 hK24
            obtain ⟨D2, p2, rfl, ⟨gD2, pD2, lD2, hg3⟩, rfl⟩ := hI
            refine awp_seq ?_; intro K25 hK25
            refine sr fun K26 hK26=>?_
            refine mT ?_
            refine ar0 (s_idxMs0 (n := 0) (.tmp rfl) (.const _) T66 rfl T186 rfl (by omega) (by have := (gok_par gD2 pD2).1; omega) rfl) ?_
            refine ar0 (s_loadEptr (.tmp rfl) rfl (getw (i := 0) (by have := (gok_par gD2 pD2).1; have := gD2.2.1; omega)) T186 rfl rfl rfl) ?_
            refine ar0 (s_bitsW (.tmp rfl) (.const _) rfl (and1 gD2.1) rfl) ?_
            refine ar0 (s_cmp (.tmp rfl) (.const _) rfl rfl) ?_
            refine hK26 _ ?_
            refine awp_cond (.tmp rfl) (fun ht50 => ?_) (fun ht50 => ?_)
            · have xD2 : val (D2.take p2) % 2 = 0 := by
                rw [(gok_par gD2 pD2).2]
                have := ht50
                simp [icmp] at this
                omega
              obtain ⟨k1, k2, k3⟩ := gok_fix gD2 (v := val (D2.take p2) / 2) (by omega)
              refine awp_skip (hK25 _ ?_)
              refine awp_block ?_
              refine awp_region ?_
              refine mT ?_
              refine ar (s_callH (Con.rekeyR 902 rfl (c_r01_halve D2 p2 gD2.1 gD2.2.1 (by have := gD2.2.2.1; unfold big; omega))) (.cons (.tmp rfl) .nil) (by first | exact hH0 | exact hH1 rfl | exact hH2 rfl rfl) rfl rfl) (newOk_of rfl) ?_
              refine aT ?_
              refine hK24 _ ((fun (D2 : List Nat) (p2 : Nat) => (⟨[(0, some (.ms 901 1 0 n2)), (1, some (.ms 902 1 0 p2)), (5, some (i64 t))], [(901, some (.row 1 (A2.map u32))), (902, some (.row 1 (D2.map u32)))]⟩ : AS)) (wr D2 0 (fixw p2 (val (D2.take p2) / 2))) ((ofNat (val (D2.take p2) / 2)).length)) ((fun (D2 : List Nat) (p2 : Nat) => val (D2.take p2)) (wr D2 0 (fixw p2 (val (D2.take p2) / 2))) ((ofNat (val (D2.take p2) / 2)).length)) (Wk.of (.k (.k (.k .nil))) (.cons rfl (.refl _) (.cons rfl (.refl _) .nil))) ⟨wr D2 0 (fixw p2 (val (D2.take p2) / 2)), (ofNat (val (D2.take p2) / 2)).length, rfl, ⟨k1, by rw [k2]; omega, by rw [k2]; omega, by rw [k2, Nat.gcd_comm, gcd_even1 xD2 xA2, Nat.gcd_comm, hg3]⟩, rfl⟩ (by dsimp only; rw [k2]; omega)
            · have xD2 : val (D2.take p2) % 2 = 1 := by
                rw [(gok_par gD2 pD2).2]
                have := ht50
                simp [icmp] at this
                omega
              refine awp_exit ?_
              refine hK23 _ ?_
              refine awp_seq ?_; intro K27 hK27
              refine sr fun K28 hK28=>?_
              refine mT ?_
              refine mT ?_
              refine ar (s_callH (c_r01_compareO 901 902 (by omega) A2 D2 n2 p2 gA2.1 gD2.1 gA2.2.1 gD2.2.1) (.cons (.tmp rfl) (.cons (.tmp rfl) .nil)) (by first | exact hH0 | exact hH1 rfl | exact hH2 rfl rfl) rfl rfl) (newOk_of rfl) ?_
              refine ar0 (s_cmp (.tmp rfl) (.const _) rfl rfl) ?_
              refine hK28 _ ?_
              refine awp_cond (.tmp rfl) (fun ht56 => ?_) (fun ht56 => ?_)
              · have hlt : val (A2.take n2) < val (D2.take p2) := by
                  rcases Nat.lt_or_ge (val (A2.take n2)) (val (D2.take p2)) with h | h
                  · exact h
                  · rw [if_neg (by omega)] at ht56; split at ht56 <;> cases ht56
                refine awp_region ?_
                refine mT ?_
                refine mT ?_
                refine aT ?_
                refine aT ?_
                refine hK27 _ ?_
                refine awp_weaken (Wk.of (sl := [(0, some (.ms 902 1 0 p2)), (1, some (.ms 901 1 0 n2)), (5, some (i64 t))]) (hp := [(901, some (.row 1 (A2.map u32))), (902, some (.row 1 (D2.map u32)))]) (.k (.k (.k .nil))) (.cons rfl (.refl _) (.cons rfl (.refl _) .nil))) ?_
                refine awp_weaken (Wk.rekey (k := 901) (d := 903) rfl rfl) ?_
                refine awp_weaken (Wk.rekey (k := 902) (d := 901) rfl rfl) ?_
                refine awp_weaken (Wk.rekey (k := 903) (d := 902) rfl rfl) ?_
                refine awp_weaken (Wk.of (sl := [(0, some (.ms 901 1 0 p2)), (1, some (.ms 902 1 0 n2)), (5, some (i64 t))]) (hp := [(901, some (.row 1 (D2.map u32))), (902, some (.row 1 (A2.map u32)))]) (.cons rfl (Sub.refl _) (.cons rfl (Sub.refl _) (.cons rfl (Sub.refl _) .nil))) (.cons rfl (.refl _) (.cons rfl (.refl _) .nil))) ?_
                obtain ⟨A3, D3, n3, p3, gA3, gD3, xA3, xD3, hle3, hg4, hs3, e1, e2, e3, e4⟩ : ∃ A3 D3 n3 p3, GOk L A3 n3 ∧ GOk L D3 p3 ∧ val (A3.take n3) % 2 = 1 ∧ val (D3.take p3) % 2 = 1 ∧ val (D3.take p3) ≤ val (A3.take n3) ∧ Nat.gcd (val (A3.take n3)) (val (D3.take p3)) = Nat.gcd (val (A2.take n2)) (val (D2.take p2)) ∧ val (A3.take n3) + val (D3.take p3) = val (A2.take n2) + val (D2.take p2) ∧ A3 = D2 ∧ n3 = p2 ∧ D3 = A2 ∧ p3 = n2 := ⟨D2, A2, p2, n2, gD2, gA2, xD2, xA2, by omega, Nat.gcd_comm _ _, Nat.add_comm _ _, rfl, rfl, rfl, rfl⟩
                rw [← e1, ← e2, ← e3, ← e4]
                refine sr fun K29 hK29=>?_
                refine mT ?_
                refine mT ?_
                refine ar (s_callH (c_r01_takeO A3 D3 n3 p3 gA3.1 gD3.1 gA3.2.1 gD3.2.1 (by have := gA3.2.2.1; unfold big; omega) hle3) (.cons (.tmp rfl) (.cons (.tmp rfl) .nil)) (by first | exact hH0 | exact hH1 rfl | exact hH2 rfl rfl) rfl rfl) (newOk_of rfl) ?_
                refine hK29 _ ?_
                refine awp_region ?_
                refine mT ?_
                refine ar (s_callH (Con.rekeyR 901 rfl (c_r01_cut (wr A3 0 (fixw n3 (val (A3.take n3) - val (D3.take p3)))) n3 (ws_wr gA3.1 (ws_fixw _ _)) (by rw [len_wr (by rw [len_fixw]; have := gA3.2.1; omega)]; exact gA3.2.1) (by rw [len_wr (by rw [len_fixw]; have := gA3.2.1; omega)]; have := gA3.2.2.1; unfold big; omega))) (.cons (.tmp rfl) .nil) (by first | exact hH0 | exact hH1 rfl | exact hH2 rfl rfl) rfl rfl) (newOk_of rfl) ?_
                refine aT ?_
                refine hK16 _ ((fun (A1 D1 : List Nat) (n1 p1 : Nat) => (⟨[(0, some (.ms 901 1 0 n1)), (1, some (.ms 902 1 0 p1)), (5, some (i64 t))], [(901, some (.row 1 (A1.map u32))), (902, some (.row 1 (D1.map u32)))]⟩ : AS)) (wr A3 0 (fixw n3 (val (A3.take n3) - val (D3.take p3)))) (D3) ((ofNat (val (A3.take n3) - val (D3.take p3))).length) (p3)) ((fun (A1 D1 : List Nat) (n1 p1 : Nat) => val (A1.take n1) + val (D1.take p1)) (wr A3 0 (fixw n3 (val (A3.take n3) - val (D3.take p3)))) (D3) ((ofNat (val (A3.take n3) - val (D3.take p3))).length) (p3)) (Wk.of (.cons rfl (Sub.of (by rw [(gok_fix gA3 (v := val (A3.take n3) - val (D3.take p3)) (by omega)).2.2])) (.k (.k .nil))) (.cons rfl (.refl _) (.cons rfl (.refl _) .nil))) ⟨wr A3 0 (fixw n3 (val (A3.take n3) - val (D3.take p3))), D3, (ofNat (val (A3.take n3) - val (D3.take p3))).length, p3, rfl, ⟨(gok_fix gA3 (by omega)).1, gD3, by omega, .inr xD3, by rw [(gok_fix gA3 (v := val (A3.take n3) - val (D3.take p3)) (by omega)).2.1, gcd_sub hle3, hg4, hg3, hg2, hg1]⟩, rfl⟩ (by dsimp only; rw [(gok_fix gA3 (v := val (A3.take n3) - val (D3.take p3)) (by omega)).2.1]; omega)
              · have hlt : val (D2.take p2) ≤ val (A2.take n2) := by
                  rcases Nat.lt_or_ge (val (A2.take n2)) (val (D2.take p2)) with h | h
                  · rw [if_pos h] at ht56; cases ht56
                  · exact h
                refine awp_weaken (Wk.of (sl := [(0, some (.ms 901 1 0 n2)), (1, some (.ms 902 1 0 p2)), (5, some (i64 t))]) (hp := [(901, some (.row 1 (A2.map u32))), (902, some (.row 1 (D2.map u32)))]) (.k (.k (.k .nil))) (.cons rfl (.refl _) (.cons rfl (.refl _) .nil))) ?_
                obtain ⟨A3, D3, n3, p3, gA3, gD3, xA3, xD3, hle3, hg4, hs3, e1, e2, e3, e4⟩ : ∃ A3 D3 n3 p3, GOk L A3 n3 ∧ GOk L D3 p3 ∧ val (A3.take n3) % 2 = 1 ∧ val (D3.take p3) % 2 = 1 ∧ val (D3.take p3) ≤ val (A3.take n3) ∧ Nat.gcd (val (A3.take n3)) (val (D3.take p3)) = Nat.gcd (val (A2.take n2)) (val (D2.take p2)) ∧ val (A3.take n3) + val (D3.take p3) = val (A2.take n2) + val (D2.take p2) ∧ A3 = A2 ∧ n3 = n2 ∧ D3 = D2 ∧ p3 = p2 := ⟨A2, D2, n2, p2, gA2, gD2, xA2, xD2, hlt, rfl, rfl, rfl, rfl, rfl, rfl⟩
                rw [← e1, ← e2, ← e3, ← e4]
                obtain ⟨k1, k2, k3⟩ := gok_fix gA3 (v := val (A3.take n3) - val (D3.take p3)) (by omega)
                refine awp_skip (hK27 _ ?_)
                refine sr fun K30 hK30=>?_
                refine mT ?_
                refine mT ?_
                refine ar (s_callH (c_r01_takeO A3 D3 n3 p3 gA3.1 gD3.1 gA3.2.1 gD3.2.1 (by have := gA3.2.2.1; unfold big; omega) hle3) (.cons (.tmp rfl) (.cons (.tmp rfl) .nil)) (by first | exact hH0 | exact hH1 rfl | exact hH2 rfl rfl) rfl rfl) (newOk_of rfl) ?_
                refine hK30 _ ?_
                refine awp_region ?_
                refine mT ?_
                refine ar (s_callH (Con.rekeyR 901 rfl (c_r01_cut (wr A3 0 (fixw n3 (val (A3.take n3) - val (D3.take p3)))) n3 (ws_wr gA3.1 (ws_fixw _ _)) (by rw [len_wr (by rw [len_fixw]; have := gA3.2.1; omega)]; exact gA3.2.1) (by rw [len_wr (by rw [len_fixw]; have := gA3.2.1; omega)]; have := gA3.2.2.1; unfold big; omega))) (.cons (.tmp rfl) .nil) (by first | exact hH0 | exact hH1 rfl | exact hH2 rfl rfl) rfl rfl) (newOk_of rfl) ?_
                refine aT ?_
                refine hK16 _ ((fun (A1 D1 : List Nat) (n1 p1 : Nat) => (⟨[(0, some (.ms 901 1 0 n1)), (1, some (.ms 902 1 0 p1)), (5, some (i64 t))], [(901, some (.row 1 (A1.map u32))), (902, some (.row 1 (D1.map u32)))]⟩ : AS)) (wr A3 0 (fixw n3 (val (A3.take n3) - val (D3.take p3)))) (D3) ((ofNat (val (A3.take n3) - val (D3.take p3))).length) (p3)) ((fun (A1 D1 : List Nat) (n1 p1 : Nat) => val (A1.take n1) + val (D1.take p1)) (wr A3 0 (fixw n3 (val (A3.take n3) - val (D3.take p3)))) (D3) ((ofNat (val (A3.take n3) - val (D3.take p3))).length) (p3)) (Wk.of (.cons rfl (Sub.of (by rw [(gok_fix gA3 (v := val (A3.take n3) - val (D3.take p3)) (by omega)).2.2])) (.k (.k .nil))) (.cons rfl (.refl _) (.cons rfl (.refl _) .nil))) ⟨wr A3 0 (fixw n3 (val (A3.take n3) - val (D3.take p3))), D3, (ofNat (val (A3.take n3) - val (D3.take p3))).length, p3, rfl, ⟨(gok_fix gA3 (by omega)).1, gD3, by omega, .inr xD3, by rw [(gok_fix gA3 (v := val (A3.take n3) - val (D3.take p3)) (by omega)).2.1, gcd_sub hle3, hg4, hg3, hg2, hg1]⟩, rfl⟩ (by dsimp only; rw [(gok_fix gA3 (v := val (A3.take n3) - val (D3.take p3)) (by omega)).2.1]; omega)
        · have zA1 : val (A1.take n1) = 0 := by
            have h3 : n1 = 0 := by have := ht38; simp [icmp] at this; omega
            exact (gok_zero gA1).1 h3
          rw [zA1, Nat.gcd_zero_left] at hg1
          refine awp_exit ?_
          refine hK15 _ ?_
          refine awp_weaken ((Wk.freeze (k := 902) rfl).trans <| Wk.of (sl := [(1, some (ws (ofNat (val (D1.take p1))))), (5, some (i64 t))]) (hp := []) (.cons rfl (Sub.of (by rw [fz_ms (by rw [List.length_map]; have := gD1.2.1; omega), lst_take, ← gok_take gD1])) (.k .nil)) .nil) ?_
          refine awp_seq ?_; intro K31 hK31
          refine sr fun K32 hK32=>?_
          refine mT ?_
          refine ar0 (s_move (.const _) rfl) ?_
          refine hK32 _ ?_
          refine awp_block ?_
          refine awp_loop (fun n_ s_ => ∃ (i : Nat), t - i = n_ ∧ (i ≤ t) ∧ s_ = (⟨[(1, some (ws (ofNat (2 ^ i * val (D1.take p1))))), (64, some (i64 t)), (65, some (i64 i))], []⟩ : AS))
            (n := ((fun (i : Nat) => t - i) (0))) (s' := ((fun (i : Nat) => (⟨[(1, some (ws (ofNat (2 ^ i * val (D1.take p1))))), (64, some (i64 t)), (65, some (i64 i))], []⟩ : AS)) (0)))
            (Wk.of (.cons rfl (Sub.of (by rw [Nat.pow_zero, Nat.one_mul])) (.k (.k .nil))) .nil) ⟨0, rfl, Nat.zero_le _, rfl⟩ ?_
          intro n_ s_ hI K33 hK33
          obtain ⟨i, rfl, hit, rfl⟩ := hI
          refine sr fun K34 hK34=>?_
          refine ar0 (s_cmp (.tmp rfl) (.tmp rfl) rfl rfl) ?_
          refine hK34 _ ?_
          refine awp_seq ?_; intro K35 hK35
          refine awp_cond (.tmp rfl) (fun ht66 => ?_) (fun ht66 => ?_)
          · have hin : i < t := by simpa [icmp] using ht66
            have h3 : 2 ^ i * val (D1.take p1) ≤ G := by rw [hg1]; exact Nat.mul_le_mul_right _ (two_pow_le (by omega))
            have h4 : (ofNat (2 ^ i * val (D1.take p1))).length ≤ a.length := ofNat_length_le (by omega)
            have ht : t < 32 * a.length := c_pow_lt pD1 (by rw [← hg1]; exact hGa) vla
            refine awp_skip (hK35 _ ?_)
            refine awp_seq ?_; intro K36 hK36
            refine awp_block ?_
            refine awp_region ?_
            refine mT ?_
            refine mT ?_
            refine ar0 (s_call (c_r01_plus _ _ (ws_ofNat _) (ws_ofNat _) (by unfold big; omega) (by unfold big; omega)) (.cons (.tmp rfl) (.cons (.tmp rfl) .nil)) rfl rfl) ?_
            refine aT ?_
            refine hK36 _ ?_
            refine awp_region ?_
            refine ar0 (s_arithW (.tmp rfl) (.const _) rfl (i64_addI (by omega)) rfl) ?_
            refine mT ?_
            refine hK33 _ ((fun (i : Nat) => (⟨[(1, some (ws (ofNat (2 ^ i * val (D1.take p1))))), (64, some (i64 t)), (65, some (i64 i))], []⟩ : AS)) (i + 1)) ((fun (i : Nat) => t - i) (i + 1)) (Wk.of (.cons rfl (Sub.of (by rw [val_ofNat, Nat.pow_succ]; congr 2; grind)) (.k (.k .nil))) .nil) ⟨i + 1, rfl, hin, rfl⟩ (by first | omega | (dsimp only; omega))
          · have hin : i = t := by have : t ≤ i := by simpa [icmp] using ht66
                                   omega
            subst hin
            refine awp_exit ?_
            refine hK31 _ ?_
            refine sr fun K37 hK37=>?_
            refine mT ?_
            refine aT ?_
            refine hK37 _ ?_
            refine awp_ret ⟨_, (.cons (.tmp rfl) .nil), ?_⟩
            exact fin_eq1 (by rw [hg1])
end Go.Lw
namespace Go.Lw
open Go.Proofs
theorem c_r01_Gcd (a b : Wh) (ha : a.ok) (hb : b.ok) (la : a.mag.length + b.mag.length < big) : FnC Tryz.prog 143 [a.av, b.av] (zA (Int.gcd a.z b.z)) := by
 have h1 := Wh.m_le (w := a)
 have h2 := Wh.m_le (w := b)
 have h3 : Int.gcd a.z b.z = Nat.gcd (val a.m) (val b.m) := by rw [Int.gcd, Wh.abs, Wh.abs]
 have h4 : (ofNat (Nat.gcd (val a.m) (val b.m))).length ≤ a.m.length + b.m.length := by
  rcases Nat.eq_zero_or_pos (val a.m) with h | h
  ·rw [h, Nat.gcd_zero_left, Wh.ofNat_m hb]; omega
  ·exact Nat.le_trans (ofNat_length_le (Nat.lt_of_le_of_lt (Nat.gcd_le_left _ h) (val_lt _ (Wh.ws ha)))) (by omega)
 refine con_of0 (N := 11) (rs := [.cell 4 123]) Tryz.func143 rfl rfl rfl rfl ?_
 refine sr fun K1 hK1=>?_
 refine bX ?_
 refine bX ?_
 refine al T123 ?_
 refine hK1 _ ?_
 refine awp_seq ?_; intro K2 hK2
 refine awp_region_draw mixedP ?_
 refine lP T123 ?_
 refine ar0 (s_call (c_r01_mag a ha) (.cons (.tmp rfl) .nil) rfl rfl) ?_
 refine lP T123 ?_
 refine ar0 (s_call (c_r01_mag b hb) (.cons (.tmp rfl) .nil) rfl rfl) ?_
 refine ar0 (s_call (c_r01_gcd a.m b.m (Wh.ws ha) (Wh.ws hb) a.nz b.nz (by omega)) (.cons (.tmp rfl) (.cons (.tmp rfl) .nil)) rfl rfl) ?_
 refine ar0 (s_call (c_r01_form false _ (ws_ofNat _) (by omega)) (.cons (.const _) (.cons (.tmp rfl) .nil)) rfl rfl) ?_
 refine sP T123 ?_
 refine ⟨by kernel_rfl, ?_⟩
 refine hK2 _ ?_
 refine awp_ret ⟨_, (.cons (.cell rfl rfl T123 rfl rfl) .nil), ?_⟩
 exact fin_eq (by rw [val_ofNat, h3]; rfl)
theorem c_r01_Div (a b : Wh) (ha : a.ok) (hb : b.ok) (la : a.mag.length + 1 < big) (lb : b.mag.length < big) (h0 : b.z ≠ 0) : FnC Tryz.prog 168 [a.av, b.av] (.tup [zA (a.z / b.z), zA (a.z % b.z), i64 0]) := by
 have hm1 := Wh.m_le (w := a)
 have hm2 := Wh.m_le (w := b)
 have hb1 : val b.m ≠ 0 := by have := Wh.abs (w := b); omega
 have hl1 : (ofNat (val a.m / val b.m)).length ≤ a.m.length := ofNat_length_le (Nat.lt_of_le_of_lt (Nat.div_le_self _ _) (val_lt _ (Wh.ws ha)))
 have hmod := Nat.mod_lt (val a.m) (show 0 < val b.m by omega)
 have hl2 : (ofNat (val a.m % val b.m)).length ≤ b.m.length := ofNat_length_le (Nat.lt_trans hmod (val_lt _ (Wh.ws hb)))
 have hl3 : (ofNat (val a.m / val b.m + 1)).length ≤ a.m.length + 1 := ofNat_length_le (by have h7 := Nat.lt_of_le_of_lt (Nat.div_le_self (val a.m) (val b.m)) (val_lt _ (Wh.ws ha)); rw [Nat.pow_succ]; generalize val a.m / val b.m = m at *; omega)
 have hl4 : (ofNat (val b.m - val a.m % val b.m)).length ≤ b.m.length := ofNat_length_le (by have := val_lt _ (Wh.ws hb); omega)
 have hv1 : val [1] = 1 := rfl
 refine con_of0 (N := 45) (rs := [.cell 4 123, .cell 5 123, .tmp 6]) Tryz.func168 rfl rfl rfl rfl ?_
 refine sr fun K1 hK1=>?_
 refine bX ?_
 refine bX ?_
 refine al T123 ?_
 refine al T123 ?_
 refine aC ?_
 refine hK1 _ ?_
 refine awp_seq ?_; intro K2 hK2
 refine sr fun K3 hK3=>?_
 refine lP T123 ?_
 refine ar0 (s_call (c_r01_Sign b hb) (.cons (.tmp rfl) .nil) rfl rfl) ?_
 refine ar0 (s_cmp (.tmp rfl) (.const _) rfl rfl) ?_
 refine hK3 _ ?_
 refine awp_cond (.tmp rfl) (fun ht11 => ?_) (fun ht11 => ?_)
 ·exact absurd (Int.sign_eq_zero_iff_zero.1 (by simpa [icmp] using ht11)) h0
 ·skip
  refine awp_skip (hK2 _ ?_)
  refine awp_seq ?_; intro K4 hK4
  refine awp_region_draw mixedP ?_
  refine lP T123 ?_
  refine ar0 (s_call (c_r01_mag a ha) (.cons (.tmp rfl) .nil) rfl rfl) ?_
  refine lP T123 ?_
  refine ar0 (s_call (c_r01_mag b hb) (.cons (.tmp rfl) .nil) rfl rfl) ?_
  refine ar0 (s_call (c_r01_divide a.m b.m (Wh.ws ha) (Wh.ws hb) a.nz hb1 (by omega) (by omega)) (.cons (.tmp rfl) (.cons (.tmp rfl) .nil)) rfl rfl) ?_
  refine mT ?_
  refine ar0 (s_extract (.tmp rfl) rfl rfl) ?_
  refine ar0 (s_extract (.tmp rfl) rfl rfl) ?_
  refine aT ?_
  refine aT ?_
  refine ⟨by kernel_rfl, ?_⟩
  refine hK4 _ ?_
  refine awp_seq ?_; intro K5 hK5
  refine sr fun K6 hK6=>?_
  refine lP T123 ?_
  refine ar0 (s_call (c_r01_neg a ha) (.cons (.tmp rfl) .nil) rfl rfl) ?_
  refine mT ?_
  refine ar0 (s_guard rfl rfl rfl (fun h => s_move (.tmp rfl) rfl)) ?_
  refine ar0 (s_guard rfl rfl rfl (fun h => s_lenMap (.opt rfl (o1 h)) T66 rfl rfl)) ?_
  refine ar0 (s_guard rfl rfl rfl (fun h => s_cmp (.opt rfl (o1 h)) (.const _) rfl rfl)) ?_
  refine ar0 (s_pick (.tmp rfl) (fun hp => .opt rfl (o1 hp)) (fun _ => .const _) rfl) ?_
  refine hK6 _ ?_
  refine awp_cond (.tmp rfl) (fun ht28 => ?_) (fun ht28 => ?_)
  ·have h1 : a.n = true ∧ 0 < val a.m % val b.m := div_cond.1 ht28
   obtain ⟨e1, e2⟩ := div_high hb1 h1.1 h1.2
   refine awp_region_draw mixedP ?_
   refine mT ?_
   refine ar0 (s_buildLst rfl (.cons (.const _) .nil) T66 rfl T186 rfl rfl rfl rfl rfl rfl rfl rfl) ?_
   refine ar0 (s_call (c_r01_plus (ofNat (val a.m / val b.m)) [1] (ws_ofNat _) (ws_one (by omega)) (by omega) (by unfold big; simp)) (.cons (.tmp rfl) (.cons (.tmp rfl) .nil)) rfl rfl) ?_
   refine lP T123 ?_
   refine ar0 (s_call (c_r01_mag b hb) (.cons (.tmp rfl) .nil) rfl rfl) ?_
   refine mT ?_
   refine ar0 (s_call (c_r01_minus b.m (ofNat (val a.m % val b.m)) (Wh.ws hb) (ws_ofNat _) (by omega) (by rw [val_ofNat]; omega)) (.cons (.tmp rfl) (.cons (.tmp rfl) .nil)) rfl rfl) ?_
   refine aT ?_
   refine aT ?_
   refine ⟨by kernel_rfl, ?_⟩
   refine hK5 _ ?_
   refine awp_weaken (Wk.of (sl := [(2, some (.ptr 2 0)), (3, some (.ptr 3 0)), (4, some (.ptr 4 0)), (5, some (.ptr 5 0)), (7, some (ws (ofNat (val a.m / val b.m + 1)))), (8, some (ws (ofNat (val b.m - val a.m % val b.m))))]) (hp := [(2, some (.box [bl a.neg, ws a.mag])), (3, some (.box [bl b.neg, ws b.mag])), (4, some (.box [.v (.bool false), .v (.slice none 0 0)])), (5, some (.box [.v (.bool false), .v (.slice none 0 0)]))]) (.k (.k (.k (.k (.cons rfl (Sub.of (by rw [val_ofNat, hv1])) (.cons rfl (Sub.of (by rw [val_ofNat])) .nil)))))) (.cons rfl (.refl _) (.cons rfl (.refl _) (.cons rfl (.refl _) (.cons rfl (.refl _) .nil))))) ?_
   refine awp_seq ?_; intro K7 hK7
   refine awp_region_draw mixedP ?_
   refine lP T123 ?_
   refine ar0 (s_call (c_r01_neg a ha) (.cons (.tmp rfl) .nil) rfl rfl) ?_
   refine lP T123 ?_
   refine ar0 (s_call (c_r01_neg b hb) (.cons (.tmp rfl) .nil) rfl rfl) ?_
   refine ar0 (s_boolNe (.tmp rfl) (.tmp rfl) T4 rfl rfl) ?_
   refine mT ?_
   refine ar0 (s_call (by apply c_r01_form _ _ (ws_ofNat _) (by omega)) (.cons (.tmp rfl) (.cons (.tmp rfl) .nil)) rfl rfl) ?_
   refine mT ?_
   refine ar0 (s_call (by apply c_r01_form _ _ (ws_ofNat _) (by omega)) (.cons (.const _) (.cons (.tmp rfl) .nil)) rfl rfl) ?_
   refine sP T123 ?_
   refine sP T123 ?_
   refine aC ?_
   refine ⟨by kernel_rfl, ?_⟩
   refine hK7 _ ?_
   refine awp_ret ⟨_, (.cons (.cell rfl rfl T123 rfl rfl) (.cons (.cell rfl rfl T123 rfl rfl) (.cons (.tmp rfl) .nil))), ?_⟩
   exact fin_eq3 (by rw [val_ofNat, val_ofNat, e1, show sgn false _ = _ from e2]; rfl)
  ·have h1 : ¬ (a.n = true ∧ 0 < val a.m % val b.m) := fun h => Bool.eq_false_iff.1 ht28 (div_cond.2 h)
   obtain ⟨e1, e2⟩ := div_low hb1 h1
   refine awp_skip (hK5 _ ?_)
   refine awp_seq ?_; intro K8 hK8
   refine awp_region_draw mixedP ?_
   refine lP T123 ?_
   refine ar0 (s_call (c_r01_neg a ha) (.cons (.tmp rfl) .nil) rfl rfl) ?_
   refine lP T123 ?_
   refine ar0 (s_call (c_r01_neg b hb) (.cons (.tmp rfl) .nil) rfl rfl) ?_
   refine ar0 (s_boolNe (.tmp rfl) (.tmp rfl) T4 rfl rfl) ?_
   refine mT ?_
   refine ar0 (s_call (by apply c_r01_form _ _ (ws_ofNat _) (by omega)) (.cons (.tmp rfl) (.cons (.tmp rfl) .nil)) rfl rfl) ?_
   refine mT ?_
   refine ar0 (s_call (by apply c_r01_form _ _ (ws_ofNat _) (by omega)) (.cons (.const _) (.cons (.tmp rfl) .nil)) rfl rfl) ?_
   refine sP T123 ?_
   refine sP T123 ?_
   refine aC ?_
   refine ⟨by kernel_rfl, ?_⟩
   refine hK8 _ ?_
   refine awp_ret ⟨_, (.cons (.cell rfl rfl T123 rfl rfl) (.cons (.cell rfl rfl T123 rfl rfl) (.cons (.tmp rfl) .nil))), ?_⟩
   exact fin_eq3 (by rw [val_ofNat, val_ofNat, e1, show sgn false _ = _ from e2]; rfl)
end Go.Lw
namespace Go.Lw
open Go.Proofs
theorem z_Sign {x : Int} (hx : Zs x) : FnC Tryz.prog 133 [zA x] (i64 x.sign) := by
 have h := c_integer_Sign (ofInt x) hx.ok
 rw [ofInt_z] at h
 exact h
theorem z_Neg {x : Int} (hx : Zs x) : FnC Tryz.prog 213 [zA x] (zA (-x)) := by
 have h := c_integer_Neg (ofInt x) hx.ok (by have := hx.len; unfold big; omega)
 rw [ofInt_z] at h
 exact h
theorem z_Cmp {x y : Int} (hx : Zs x) (hy : Zs y) : FnC Tryz.prog 129 [zA x, zA y] (i64 (cmp3 x y)) := by
 have h := c_integer_Cmp (ofInt x) (ofInt y) hx.ok hy.ok
 rw [ofInt_z, ofInt_z] at h
 exact h
theorem z_Add {x y : Int} (hx : Zs x) (hy : Zs y) : FnC Tryz.prog 210 [zA x, zA y] (zA (x + y)) := by
 have h := c_integer_Add (ofInt x) (ofInt y) hx.ok hy.ok (by have := hx.len; unfold big; omega) (by have := hy.len; unfold big; omega)
 rw [ofInt_z, ofInt_z] at h
 exact h
theorem z_Mul {x y : Int} (hx : Zs x) (hy : Zs y) : FnC Tryz.prog 211 [zA x, zA y] (zA (x * y)) := by
 have h := c_integer_Mul (ofInt x) (ofInt y) hx.ok hy.ok (by have := hx.len; have := hy.len; unfold big; omega)
 rw [ofInt_z, ofInt_z] at h
 exact h
theorem z_Gcd {x y : Int} (hx : Zs x) (hy : Zs y) : FnC Tryz.prog 130 [zA x, zA y] (zA (Int.gcd x y)) := by
 have h := c_integer_Gcd (ofInt x) (ofInt y) hx.ok hy.ok (by have := hx.len; unfold big; omega) (by have := hy.len; unfold big; omega)
 rw [ofInt_z, ofInt_z] at h
 exact h
theorem z_Div {x y : Int} (hx : Zs x) (hy : Zs y) (h0 : y ≠ 0) : FnC Tryz.prog 228 [zA x, zA y] (.tup [zA (x / y), zA (x % y), .v .nilIface]) := by
 have h := c_integer_Div (ofInt x) (ofInt y) hx.ok hy.ok (by have := hx.len; unfold big; omega) (by have := hy.len; unfold big; omega) (by rw [ofInt_z]; exact h0)
 rw [ofInt_z, ofInt_z] at h
 exact h
theorem zr_Sign {x : Int} (hx : Zs x) : FnC Tryz.prog 53 [zA x] (i64 x.sign) := by
 have h := c_r01_Sign (ofInt x) hx.ok
 rw [ofInt_z] at h
 exact h
theorem zr_Neg {x : Int} (hx : Zs x) : FnC Tryz.prog 167 [zA x] (zA (-x)) := by
 have h := c_r01_Neg (ofInt x) hx.ok (by have := hx.len; unfold big; omega)
 rw [ofInt_z] at h
 exact h
theorem zr_Cmp {x y : Int} (hx : Zs x) (hy : Zs y) : FnC Tryz.prog 142 [zA x, zA y] (i64 (cmp3 x y)) := by
 have h := c_r01_Cmp (ofInt x) (ofInt y) hx.ok hy.ok (by have := hx.len; unfold big; omega) (by have := hy.len; unfold big; omega)
 rw [ofInt_z, ofInt_z] at h
 exact h
theorem zr_Add {x y : Int} (hx : Zs x) (hy : Zs y) : FnC Tryz.prog 113 [zA x, zA y] (zA (x + y)) := by
 have h := c_r01_Add (ofInt x) (ofInt y) hx.ok hy.ok (by have := hx.len; unfold big; omega) (by have := hy.len; unfold big; omega)
 rw [ofInt_z, ofInt_z] at h
 exact h
theorem zr_Mul {x y : Int} (hx : Zs x) (hy : Zs y) : FnC Tryz.prog 114 [zA x, zA y] (zA (x * y)) := by
 have h := c_r01_Mul (ofInt x) (ofInt y) hx.ok hy.ok (by have := hx.len; have := hy.len; unfold big; omega)
 rw [ofInt_z, ofInt_z] at h
 exact h
theorem zr_Gcd {x y : Int} (hx : Zs x) (hy : Zs y) : FnC Tryz.prog 143 [zA x, zA y] (zA (Int.gcd x y)) := by
 have h := c_r01_Gcd (ofInt x) (ofInt y) hx.ok hy.ok (by have := hx.len; have := hy.len; unfold big; omega)
 rw [ofInt_z, ofInt_z] at h
 exact h
theorem zr_Div {x y : Int} (hx : Zs x) (hy : Zs y) (h0 : y ≠ 0) : FnC Tryz.prog 168 [zA x, zA y] (.tup [zA (x / y), zA (x % y), i64 0]) := by
 have h := c_r01_Div (ofInt x) (ofInt y) hx.ok hy.ok (by have := hx.len; unfold big; omega) (by have := hy.len; unfold big; omega) (by rw [ofInt_z]; exact h0)
 rw [ofInt_z, ofInt_z] at h
 exact h
end Go.Lw
namespace Go.Lw
open Go.Proofs
/-- The error of a number; 0: none. -/
def errV (e : Nat) : Value := match e with | 0 => .nilIface | e + 1 => .iface 97 (.int .i64 ((e + 1 : Nat) : Int))
def errA (e : Nat) : AV := .v (errV e)
theorem errV_or (e : Nat) : errV e = .nilIface ∨ ∃ T u, errV e = .iface T u := by cases e; exact .inl rfl; exact .inr ⟨_, _, rfl⟩
theorem isNil_err (e : Nat) : isNil (errV e) = decide (e = 0) := by cases e <;> simp [errV, isNil]
theorem isNil_t {e : Nat} (h : isNil (errV e) = true) : e = 0 := by rw [isNil_err] at h; exact of_decide_eq_true h
theorem isNil_f {e : Nat} (h : isNil (errV e) = false) : e ≠ 0 := by rw [isNil_err] at h; exact of_decide_eq_false h
theorem nNil_t {e : Nat} (h : (!isNil (errV e)) = true) : e ≠ 0 := isNil_f (by cases h' : isNil (errV e) <;> simp_all)
theorem nNil_f {e : Nat} (h : (!isNil (errV e)) = false) : e = 0 := isNil_t (by cases h' : isNil (errV e) <;> simp_all)
theorem c_fraction_one : FnC Tryz.prog 131 [] (zA 1) := by
 refine con_of0 (N := 2) (rs := [.cell 0 123]) Tryz.func131 rfl rfl rfl rfl ?_
 refine sr fun K1 hK1=>?_
 refine al T123 ?_
 refine hK1 _ ?_
 refine sr fun K2 hK2=>?_
 refine ar0 (s_call (c_integer_Of 1 (by omega)) (.cons (.const _) .nil) rfl rfl) ?_
 refine sP T123 ?_
 refine hK2 _ ?_
 refine awp_ret ⟨_, (.cons (.cell rfl rfl T123 rfl rfl) .nil), ?_⟩
 exact fin_eq (by first | rfl | (simp; done))
theorem c_fraction_Valid (r : Rt) (h : r.ok) : FnC Tryz.prog 69 [r.av] (bl r.valid) := by
 have hn := h.n0
 have hd := h.d0
 refine con_of0 (N := 50) (rs := [.tmp 2]) Tryz.func69 rfl rfl rfl rfl ?_
 refine sr fun K1 hK1=>?_
 refine bX ?_
 refine aC ?_
 refine hK1 _ ?_
 refine awp_seq ?_; intro K2 hK2
 refine sr fun K3 hK3=>?_
 refine fP T68 ?_
 refine lP T66 ?_
 refine ar0 (s_lenMap (.tmp rfl) T66 rfl rfl) ?_
 refine ar0 (s_cmp (.tmp rfl) (.const _) rfl rfl) ?_
 refine mT ?_
 refine ar0 (s_guard rfl rfl rfl (fun h => s_fldPtr (.tmp rfl) T68 rfl rfl rfl rfl)) ?_
 refine ar0 (s_guard rfl rfl rfl (fun h => s_loadPtr (.opt rfl (o1 h)) rfl T66 rfl rfl rfl)) ?_
 refine ar0 (s_guard rfl rfl rfl (fun h => s_lenMap (.opt rfl (o1 h)) T66 rfl rfl)) ?_
 refine ar0 (s_guard rfl rfl rfl (fun h => s_cmp (.opt rfl (o1 h)) (.const _) rfl rfl)) ?_
 refine ar0 (s_pick (.tmp rfl) (fun hp => .opt rfl (o1 hp)) (fun _ => .const _) rfl) ?_
 refine hK3 _ ?_
 refine awp_cond (.tmp rfl) (fun ht14 => ?_) (fun ht14 => ?_)
 ·have h0 : r.num = [] ∧ r.den = [] := by simpa [icmp] using ht14
  refine sr fun K4 hK4=>?_
  refine fP T68 ?_
  refine lP T4 ?_
  refine ar0 (s_not (.tmp rfl) rfl) ?_
  refine aT ?_
  refine hK4 _ ?_
  refine awp_ret ⟨_, (.cons (.tmp rfl) .nil), ?_⟩
  exact fin_eq1 (by unfold Rt.valid; rw [if_pos h0]; rfl)
 ·have h0 : ¬ (r.num = [] ∧ r.den = []) := by
   have := ht14
   simp [icmp] at this
   exact fun h => this h.1 h.2
  refine awp_skip (hK2 _ ?_)
  refine awp_seq ?_; intro K5 hK5
  refine awp_region_draw mixedP ?_
  refine fP T68 ?_
  refine lP T66 ?_
  refine ar0 (s_build (.cons (.tmp rfl) .nil) T123 rfl rfl rfl rfl rfl) ?_
  refine fP T68 ?_
  refine lP T66 ?_
  refine ar0 (s_build (.cons (.tmp rfl) .nil) T123 rfl rfl rfl rfl rfl) ?_
  refine al T123 ?_
  refine al T123 ?_
  refine sP T123 ?_
  refine sP T123 ?_
  refine ⟨by kernel_rfl, ?_⟩
  refine hK5 _ ?_
  refine awp_seq ?_; intro K6 hK6
  refine sr fun K7 hK7=>?_
  refine fP T68 ?_
  refine lP T66 ?_
  refine ar0 (s_lenMap (.tmp rfl) T66 rfl rfl) ?_
  refine ar0 (s_cmp (.tmp rfl) (.const _) rfl rfl) ?_
  refine mT ?_
  refine ar0 (s_guard rfl rfl rfl (fun h => s_fldPtr (.tmp rfl) T68 rfl rfl rfl rfl)) ?_
  refine ar0 (s_guard rfl rfl rfl (fun h => s_loadPtr (.opt rfl (o1 h)) rfl T66 rfl rfl rfl)) ?_
  refine ar0 (s_guard rfl rfl rfl (fun h => s_lenMap (.opt rfl (o1 h)) T66 rfl rfl)) ?_
  refine ar0 (s_guard rfl rfl rfl (fun h => s_cmp (.opt rfl (o1 h)) (.const _) rfl rfl)) ?_
  refine ar0 (s_pick (.tmp rfl) (fun _ => .const _) (fun hp => .opt rfl (o1 hp)) rfl) ?_
  refine mT ?_
  refine ar0 (s_guard rfl rfl rfl (fun h => s_loadPtr (.tmp rfl) rfl T123 rfl rfl rfl)) ?_
  refine ar0 (s_guard rfl rfl rfl (fun h => s_call (c_integer_Valid r.n0 hn) (.cons (.opt rfl (o1 h)) .nil) rfl rfl)) ?_
  refine ar0 (s_guard rfl rfl rfl (fun h => s_not (.opt rfl (o1 h)) rfl)) ?_
  refine ar0 (s_pick (.tmp rfl) (fun _ => .const _) (fun hp => .opt rfl (o1 hp)) rfl) ?_
  refine mT ?_
  refine ar0 (s_guard rfl rfl rfl (fun h => s_loadPtr (.tmp rfl) rfl T123 rfl rfl rfl)) ?_
  refine ar0 (s_guard rfl rfl rfl (fun h => s_call (c_integer_Valid r.d0 hd) (.cons (.opt rfl (o1 h)) .nil) rfl rfl)) ?_
  refine ar0 (s_guard rfl rfl rfl (fun h => s_not (.opt rfl (o1 h)) rfl)) ?_
  refine ar0 (s_pick (.tmp rfl) (fun _ => .const _) (fun hp => .opt rfl (o1 hp)) rfl) ?_
  refine hK7 _ ?_
  refine awp_cond (.tmp rfl) (fun ht43 => ?_) (fun ht43 => ?_)
  ·have h1 : r.valid = false := valid_no h0 ht43
   refine sr fun K8 hK8=>?_
   refine aC ?_
   refine hK8 _ ?_
   refine awp_ret ⟨_, (.cons (.tmp rfl) .nil), ?_⟩
   exact fin_eq1 (by rw [h1]; rfl)
  ·have h1 := valid_yes h0 ht43
   refine awp_skip (hK6 _ ?_)
   refine sr fun K9 hK9=>?_
   refine lP T123 ?_
   refine lP T123 ?_
   refine ar0 (s_call (c_integer_Gcd r.n0 r.d0 hn hd h.n0l h.d0l) (.cons (.tmp rfl) (.cons (.tmp rfl) .nil)) rfl rfl) ?_
   refine ar0 (s_call (by apply c_fraction_one) .nil rfl rfl) ?_
   refine ar0 (s_call (z_Cmp (Rt.gcd_zs h) zs1) (.cons (.tmp rfl) (.cons (.tmp rfl) .nil)) rfl rfl) ?_
   refine ar0 (s_cmp (.tmp rfl) (.const _) rfl rfl) ?_
   refine aT ?_
   refine hK9 _ ?_
   refine awp_ret ⟨_, (.cons (.tmp rfl) .nil), ?_⟩
   exact fin_eq1 (by rw [h1]; rfl)
theorem c_fraction_Parts (r : Rt) (h : r.ok) : FnC Tryz.prog 132 [r.av] (.tup [zA r.q.num, zA r.q.den]) := by
 have hl1 : r.num.length ≤ 137438953472 := h.2.2.1
 have hl2 : r.den.length ≤ 137438953472 := h.2.2.2
 refine con_of0 (N := 28) (rs := [.cell 2 123, .cell 3 123]) Tryz.func132 rfl rfl rfl rfl ?_
 refine sr fun K1 hK1=>?_
 refine bX ?_
 refine al T123 ?_
 refine al T123 ?_
 refine hK1 _ ?_
 refine awp_seq ?_; intro K2 hK2
 refine sr fun K3 hK3=>?_
 refine lP T68 ?_
 refine ar0 (s_call (c_fraction_Valid r h) (.cons (.tmp rfl) .nil) rfl rfl) ?_
 refine ar0 (s_not (.tmp rfl) rfl) ?_
 refine mT ?_
 refine ar0 (s_guard rfl rfl rfl (fun h => s_fldPtr (.tmp rfl) T68 rfl rfl rfl rfl)) ?_
 refine ar0 (s_guard rfl rfl rfl (fun h => s_loadPtr (.opt rfl (o1 h)) rfl T66 rfl rfl rfl)) ?_
 refine ar0 (s_guard rfl rfl rfl (fun h => s_lenMap (.opt rfl (o1 h)) T66 rfl rfl)) ?_
 refine ar0 (s_guard rfl rfl rfl (fun h => s_cmp (.opt rfl (o1 h)) (.const _) rfl rfl)) ?_
 refine ar0 (s_pick (.tmp rfl) (fun _ => .const _) (fun hp => .opt rfl (o1 hp)) rfl) ?_
 refine hK3 _ ?_
 refine awp_cond (.tmp rfl) (fun ht12 => ?_) (fun ht12 => ?_)
 ·have h0 : ¬ (r.valid = true ∧ r.num ≠ []) := by
   have := ht12
   intro h'
   simp [icmp, h'.1, h'.2] at this
  refine sr fun K4 hK4=>?_
  refine ar0 (s_build .nil T123 rfl rfl rfl rfl rfl) ?_
  refine ar0 (s_call c_fraction_one .nil rfl rfl) ?_
  refine sP T123 ?_
  refine sP T123 ?_
  refine hK4 _ ?_
  refine awp_ret ⟨_, (.cons (.cell rfl rfl T123 rfl rfl) (.cons (.cell rfl rfl T123 rfl rfl) .nil)), ?_⟩
  exact fin_sub (by rw [Rt.zero h0]; exact Sub.tup (.cons sub_zz (.cons (.refl _) .nil)))
 ·have h0 : r.valid = true ∧ r.num ≠ [] := by
   have := ht12
   cases hv : r.valid
   ·rw [hv] at this; cases this
   ·rw [hv] at this; exact ⟨rfl, by simpa [icmp] using this⟩
  obtain ⟨e1, e2, e3, e4, e5, e6⟩ := Rt.parts h h0.1 h0.2
  refine awp_skip (hK2 _ ?_)
  refine awp_seq ?_; intro K5 hK5
  refine awp_region_draw mixedP ?_
  refine fP T68 ?_
  refine lP T4 ?_
  refine ar (s_buildMs0 T66 rfl T186 rfl rfl rfl) (newOk_of rfl) ?_
  refine fP T68 ?_
  refine lP T66 ?_
  refine ar (s_append (.tmp rfl) rfl rfl (.tmp rfl) T66 rfl T186 rfl rfl (by simp only [List.length_map]; omega) rfl rfl) (newOk_of rfl) ?_
  refine ar0 (s_build (.cons (.tmp rfl) (.cons (.tmp rfl) .nil)) T123 rfl rfl rfl rfl rfl) ?_
  refine sP T123 ?_
  refine ⟨by kernel_rfl, ?_⟩
  refine hK5 _ ?_
  refine awp_weaken ((Wk.freeze (k := 20) rfl).trans <| Wk.of (sl := [(1, some (.ptr 1 0)), (2, some (.ptr 2 0)), (3, some (.ptr 3 0))]) (hp := [(1, some (.box [bl r.neg, ws r.num, ws r.den])), (2, some (.box [bl r.neg, ws r.num])), (3, some (.box [bl false, .v (.slice none 0 0)]))]) (.k (.k (.k .nil))) (.cons rfl (.refl _) (.cons rfl (BlkSub.boxL (.cons (.refl _) (.cons (.of (fz_all (by simp))) .nil)) rfl) (.cons rfl (.refl _) .nil)))) ?_
  refine awp_seq ?_; intro K6 hK6
  refine awp_region_draw mixedP ?_
  refine lP T123 ?_
  refine ar (s_buildMs0 T66 rfl T186 rfl rfl rfl) (newOk_of rfl) ?_
  refine fP T68 ?_
  refine lP T66 ?_
  refine ar (s_append (.tmp rfl) rfl rfl (.tmp rfl) T66 rfl T186 rfl rfl (by simp only [List.length_map]; omega) rfl rfl) (newOk_of rfl) ?_
  refine ar0 (s_build (.cons (.tmp rfl) .nil) T123 rfl rfl rfl rfl rfl) ?_
  refine sP T123 ?_
  refine sP T123 ?_
  refine ⟨by kernel_rfl, ?_⟩
  refine hK6 _ ?_
  refine awp_weaken ((Wk.freeze (k := 26) rfl).trans <| Wk.of (sl := [(2, some (.ptr 2 0)), (3, some (.ptr 3 0))]) (hp := [(2, some (.box [bl r.neg, ws r.num])), (3, some (.box [bl false, ws r.den]))]) (.k (.k .nil)) (.cons rfl (.refl _) (.cons rfl (BlkSub.boxL (.cons (.refl _) (.cons (.of (fz_all (by simp))) .nil)) rfl) .nil))) ?_
  refine awp_ret ⟨_, (.cons (.cell rfl rfl T123 rfl rfl) (.cons (.cell rfl rfl T123 rfl rfl) .nil)), ?_⟩
  exact fin_eq2 (by rw [e1, e2]; exact parts_av e3 e4 e5)
theorem c_fraction_form {n d : Int} (hn : Zs n) (hd : Zs d) (h0 : d ≠ 0) : FnC Tryz.prog 191 [zA n, zA d] (qA (Rat.divInt n d)) := by
  refine con_of0 (N := 47) (rs := [.cell 4 68]) Tryz.func191 rfl rfl rfl rfl ?_
  refine sr fun K1 hK1=>?_
  refine bX ?_
  refine bX ?_
  refine al T68 ?_
  refine hK1 _ ?_
  refine awp_seq ?_; intro K2 hK2
  refine sr fun K3 hK3=>?_
  refine lP T123 ?_
  refine ar0 (s_call (z_Sign hn) (.cons (.tmp rfl) .nil) rfl rfl) ?_
  refine ar0 (s_cmp (.tmp rfl) (.const _) rfl rfl) ?_
  refine hK3 _ ?_
  refine awp_cond (.tmp rfl) (fun ht9 => ?_) (fun ht9 => ?_)
  · have e0 : n = 0 := Int.sign_eq_zero_iff_zero.1 (by simpa [icmp] using ht9)
    refine sr fun K4 hK4=>?_
    refine ar0 (s_build .nil T68 rfl rfl rfl rfl rfl) ?_
    refine sP T68 ?_
    refine hK4 _ ?_
    refine awp_ret ⟨_, (.cons (.cell rfl rfl T68 rfl rfl) .nil), ?_⟩
    exact fin_sub1 (by rw [e0, Rat.zero_divInt]; exact sub_q0)
  · have e0 : n ≠ 0 := fun h => by rw [h] at ht9; cases ht9
    refine awp_skip (hK2 _ ?_)
    refine awp_seqJ (fun s_ => ∃ (n1 d1 : Int), (0 < d1 ∧ n1 ≠ 0 ∧ Zs n1 ∧ Zs d1 ∧ Rat.divInt n1 d1 = Rat.divInt n d) ∧ s_ = (⟨[(2, some (.ptr 2 0)), (3, some (.ptr 3 0)), (4, some (.ptr 4 0))], [(2, some (.box (zA n1).cells)), (3, some (.box (zA d1).cells)), (4, some (.box [.v (.bool false), .v (.slice none 0 0), .v (.slice none 0 0)]))]⟩ : AS)) ?_ ?_
    · intro K5 hK5
      refine sr fun K6 hK6=>?_
      refine lP T123 ?_
      refine ar0 (s_call (z_Sign hd) (.cons (.tmp rfl) .nil) rfl rfl) ?_
      refine ar0 (s_cmp (.tmp rfl) (.const _) rfl rfl) ?_
      refine hK6 _ ?_
      refine awp_cond (.tmp rfl) (fun ht13 => ?_) (fun ht13 => ?_)
      · have e1 : d < 0 := Int.sign_eq_neg_one_iff_neg.1 (by have := Int.sign_trichotomy d; have h9 : d.sign < 0 := by simpa [icmp] using ht13
                                                             omega)
        refine awp_region_draw mixedP ?_
        refine lP T123 ?_
        refine ar0 (s_call (z_Neg hn) (.cons (.tmp rfl) .nil) rfl rfl) ?_
        refine lP T123 ?_
        refine ar0 (s_call (z_Neg hd) (.cons (.tmp rfl) .nil) rfl rfl) ?_
        refine sP T123 ?_
        refine sP T123 ?_
        refine ⟨by kernel_rfl, ?_⟩
        exact hK5 _ ((fun (n1 d1 : Int) => (⟨[(2, some (.ptr 2 0)), (3, some (.ptr 3 0)), (4, some (.ptr 4 0))], [(2, some (.box (zA n1).cells)), (3, some (.box (zA d1).cells)), (4, some (.box [.v (.bool false), .v (.slice none 0 0), .v (.slice none 0 0)]))]⟩ : AS)) (-n) (-d)) (Wk.of (.k (.k (.k .nil))) (.cons rfl (.refl _) (.cons rfl (.refl _) (.cons rfl (.refl _) .nil)))) ⟨-n, -d, ⟨by omega, by omega, hn.neg, hd.neg, divInt_neg2 n d⟩, rfl⟩
      · have e1 : 0 < d := by
          have h9 : 0 ≤ d.sign := by simpa [icmp] using ht13
          have := Int.sign_nonneg_iff.1 h9
          omega
        refine awp_skip ?_
        exact hK5 _ ((fun (n1 d1 : Int) => (⟨[(2, some (.ptr 2 0)), (3, some (.ptr 3 0)), (4, some (.ptr 4 0))], [(2, some (.box (zA n1).cells)), (3, some (.box (zA d1).cells)), (4, some (.box [.v (.bool false), .v (.slice none 0 0), .v (.slice none 0 0)]))]⟩ : AS)) (n) (d)) (Wk.of (.k (.k (.k .nil))) (.cons rfl (.refl _) (.cons rfl (.refl _) (.cons rfl (.refl _) .nil)))) ⟨n, d, ⟨e1, e0, hn, hd, rfl⟩, rfl⟩
    · rintro s_ ⟨n1, d1, ⟨f1, f2, f3, f4, f5⟩, rfl⟩
      refine sr fun K7 hK7=>?_
      refine lP T123 ?_
      refine lP T123 ?_
      refine ar0 (s_call (z_Gcd f3 f4) (.cons (.tmp rfl) (.cons (.tmp rfl) .nil)) rfl rfl) ?_
      refine al T123 ?_
      refine sP T123 ?_
      refine hK7 _ ?_
      refine sr fun K8 hK8=>?_
      refine lP T123 ?_
      refine ar0 (s_call (z_Sign f3) (.cons (.tmp rfl) .nil) rfl rfl) ?_
      refine ar0 (s_cmp (.tmp rfl) (.const _) rfl rfl) ?_
      refine aT ?_
      refine hK8 _ ?_
      refine awp_seqJ (fun s_ => ∃ (n2 : Int), (n2 = (n1.natAbs : Int)) ∧ s_ = (⟨[(2, some (.ptr 2 0)), (3, some (.ptr 3 0)), (4, some (.ptr 4 0)), (5, some (.ptr 5 0)), (6, some (bl (decide (n1 < 0))))], [(2, some (.box (zA n2).cells)), (3, some (.box (zA d1).cells)), (4, some (.box [.v (.bool false), .v (.slice none 0 0), .v (.slice none 0 0)])), (5, some (.box (zA (Int.gcd n1 d1)).cells))]⟩ : AS)) ?_ ?_
      · intro K9 hK9
        refine sr fun K10 hK10=>?_
        refine mT ?_
        refine hK10 _ ?_
        refine awp_cond (.tmp rfl) (fun ht24 => ?_) (fun ht24 => ?_)
        · have e2 : n1 < 0 := Int.sign_eq_neg_one_iff_neg.1 (by have := Int.sign_trichotomy n1; have h9 : n1.sign < 0 := by simpa [icmp] using ht24
                                                                omega)
          refine awp_region ?_
          refine lP T123 ?_
          refine ar0 (s_call (z_Neg f3) (.cons (.tmp rfl) .nil) rfl rfl) ?_
          refine sP T123 ?_
          exact hK9 _ ((fun (n2 : Int) => (⟨[(2, some (.ptr 2 0)), (3, some (.ptr 3 0)), (4, some (.ptr 4 0)), (5, some (.ptr 5 0)), (6, some (bl (decide (n1 < 0))))], [(2, some (.box (zA n2).cells)), (3, some (.box (zA d1).cells)), (4, some (.box [.v (.bool false), .v (.slice none 0 0), .v (.slice none 0 0)])), (5, some (.box (zA (Int.gcd n1 d1)).cells))]⟩ : AS)) (-n1)) (Wk.of (.k (.k (.k (.k (.cons rfl (Sub.of (by rw [show icmp .lss n1.sign 0 = true from ht24, decide_eq_true e2]; rfl)) .nil))))) (.cons rfl (.refl _) (.cons rfl (.refl _) (.cons rfl (.refl _) (.cons rfl (.refl _) .nil))))) ⟨-n1, (by omega), rfl⟩
        · have e2 : 0 < n1 := by
            have h9 : 0 ≤ n1.sign := by simpa [icmp] using ht24
            have := Int.sign_nonneg_iff.1 h9
            omega
          refine awp_skip ?_
          exact hK9 _ ((fun (n2 : Int) => (⟨[(2, some (.ptr 2 0)), (3, some (.ptr 3 0)), (4, some (.ptr 4 0)), (5, some (.ptr 5 0)), (6, some (bl (decide (n1 < 0))))], [(2, some (.box (zA n2).cells)), (3, some (.box (zA d1).cells)), (4, some (.box [.v (.bool false), .v (.slice none 0 0), .v (.slice none 0 0)])), (5, some (.box (zA (Int.gcd n1 d1)).cells))]⟩ : AS)) (n1)) (Wk.of (.k (.k (.k (.k (.cons rfl (Sub.of (by rw [show icmp .lss n1.sign 0 = false from ht24, decide_eq_false (by omega)]; rfl)) .nil))))) (.cons rfl (.refl _) (.cons rfl (.refl _) (.cons rfl (.refl _) (.cons rfl (.refl _) .nil))))) ⟨n1, (by omega), rfl⟩
      · rintro s_ ⟨n2, g1, rfl⟩
        have g2 : Zs (Int.gcd n1 d1 : Int) := f3.of_le (by rw [Int.natAbs_natCast]; exact Nat.le_of_dvd (by omega) (Int.gcd_dvd_natAbs_left _ _))
        have g3 : (Int.gcd n1 d1 : Int) ≠ 0 := by have := Int.gcd_pos_of_ne_zero_left d1 f2; omega
        have g4 : Zs n2 := f3.of_le (by omega)
        refine sr fun K11 hK11=>?_
        refine lP T123 ?_
        refine lP T123 ?_
        refine ar0 (s_call (z_Div g4 g2 g3) (.cons (.tmp rfl) (.cons (.tmp rfl) .nil)) rfl rfl) ?_
        refine mT ?_
        refine ar0 (s_extract (.tmp rfl) rfl rfl) ?_
        refine ar0 (s_extract (.tmp rfl) rfl rfl) ?_
        refine ar0 (s_extract (.tmp rfl) rfl rfl) ?_
        refine sP T123 ?_
        refine hK11 _ ?_
        refine sr fun K12 hK12=>?_
        refine lP T123 ?_
        refine lP T123 ?_
        refine ar0 (s_call (z_Div f4 g2 g3) (.cons (.tmp rfl) (.cons (.tmp rfl) .nil)) rfl rfl) ?_
        refine mT ?_
        refine ar0 (s_extract (.tmp rfl) rfl rfl) ?_
        refine ar0 (s_extract (.tmp rfl) rfl rfl) ?_
        refine ar0 (s_extract (.tmp rfl) rfl rfl) ?_
        refine sP T123 ?_
        refine hK12 _ ?_
        refine sr fun K13 hK13=>?_
        refine mT ?_
        refine fP T123 ?_
        refine lP T66 ?_
        refine fP T123 ?_
        refine lP T66 ?_
        refine ar0 (s_build (.cons (.tmp rfl) (.cons (.tmp rfl) (.cons (.tmp rfl) .nil))) T68 rfl rfl rfl rfl rfl) ?_
        refine sP T68 ?_
        refine hK13 _ ?_
        refine awp_ret ⟨_, (.cons (.cell rfl rfl T68 rfl rfl) .nil), ?_⟩
        exact fin_eq (by rw [← f5, ← form_av f1 f2, ← g1]; rfl)
theorem c_fraction_From {n d : Int} (hn : Zs n) (hd : Zs d) : FnC Tryz.prog 254 [zA n, zA d] (.tup [qA (Rat.divInt n d), errA (if d = 0 then 8 else 0)]) := by
 refine con_of0 (N := 14) (rs := [.cell 4 68, .tmp 5]) Tryz.func254 rfl rfl rfl rfl ?_
 refine sr fun K1 hK1=>?_
 refine bX ?_
 refine bX ?_
 refine al T68 ?_
 refine aC ?_
 refine hK1 _ ?_
 refine awp_seq ?_; intro K2 hK2
 refine sr fun K3 hK3=>?_
 refine lP T123 ?_
 refine ar0 (s_call (z_Sign hd) (.cons (.tmp rfl) .nil) rfl rfl) ?_
 refine ar0 (s_cmp (.tmp rfl) (.const _) rfl rfl) ?_
 refine hK3 _ ?_
 refine awp_cond (.tmp rfl) (fun ht8 => ?_) (fun ht8 => ?_)
 ·have h0 : d = 0 := Int.sign_eq_zero_iff_zero.1 (by simpa [icmp] using ht8)
  refine sr fun K4 hK4=>?_
  refine ar0 (s_build .nil T68 rfl rfl rfl rfl rfl) ?_
  refine ar0 (s_mkIface (.const _) rfl T97 rfl) ?_
  refine sP T68 ?_
  refine aT ?_
  refine hK4 _ ?_
  refine awp_ret ⟨_, (.cons (.cell rfl rfl T68 rfl rfl) (.cons (.tmp rfl) .nil)), ?_⟩
  exact fin_sub (by rw [if_pos h0, h0, Rat.divInt_zero]; exact Sub.tup (.cons sub_q0 (.cons (.refl _) .nil)))
 ·have h0 : d ≠ 0 := fun h => by rw [h] at ht8; cases ht8
  refine awp_skip (hK2 _ ?_)
  refine sr fun K5 hK5=>?_
  refine lP T123 ?_
  refine lP T123 ?_
  refine ar0 (s_call (c_fraction_form hn hd h0) (.cons (.tmp rfl) (.cons (.tmp rfl) .nil)) rfl rfl) ?_
  refine sP T68 ?_
  refine aC ?_
  refine hK5 _ ?_
  refine awp_ret ⟨_, (.cons (.cell rfl rfl T68 rfl rfl) (.cons (.tmp rfl) .nil)), ?_⟩
  exact fin_eq (by rw [if_neg h0]; rfl)
theorem c_fraction_Of (n : Int) (h : -9223372036854775808 ≤ n ∧ n ≤ 9223372036854775807) : FnC Tryz.prog 137 [i64 n] (qA n) := by
 have hz : Zs n := ⟨2, by omega, by unfold Lz; simp only [Nat.reducePow]; omega⟩
 refine con_of0 (N := 7) (rs := [.cell 2 68]) Tryz.func137 rfl rfl rfl rfl ?_
 refine sr fun K1 hK1=>?_
 refine al T68 ?_
 refine hK1 _ ?_
 refine sr fun K2 hK2=>?_
 refine mT ?_
 refine ar0 (s_call (c_integer_Of n h) (.cons (.tmp rfl) .nil) rfl rfl) ?_
 refine ar0 (s_call c_fraction_one .nil rfl rfl) ?_
 refine ar0 (s_call (c_fraction_form hz zs1 (by omega)) (.cons (.tmp rfl) (.cons (.tmp rfl) .nil)) rfl rfl) ?_
 refine sP T68 ?_
 refine hK2 _ ?_
 refine awp_ret ⟨_, (.cons (.cell rfl rfl T68 rfl rfl) .nil), ?_⟩
 exact fin_eq (by exact congrArg qA (Rat.num_divInt_den (n : Rat)))
theorem c_fraction_Neg (a : Rt) (ha : a.ok) : FnC Tryz.prog 161 [a.av] (qA (-a.q)) := by
 have za := ha.qs
 refine con_of0 (N := 14) (rs := [.cell 2 68]) Tryz.func161 rfl rfl rfl rfl ?_
 refine sr fun K1 hK1=>?_
 refine bX ?_
 refine al T68 ?_
 refine hK1 _ ?_
 refine sr fun K2 hK2=>?_
 refine lP T68 ?_
 refine ar0 (s_call (c_fraction_Parts a ha) (.cons (.tmp rfl) .nil) rfl rfl) ?_
 refine mT ?_
 refine ar0 (s_extract (.tmp rfl) rfl rfl) ?_
 refine ar0 (s_extract (.tmp rfl) rfl rfl) ?_
 refine al T123 ?_
 refine al T123 ?_
 refine sP T123 ?_
 refine sP T123 ?_
 refine hK2 _ ?_
 refine awp_seq ?_; intro K3 hK3
 refine awp_region_draw mixedP ?_
 refine lP T123 ?_
 refine ar0 (s_call (z_Neg za.num) (.cons (.tmp rfl) .nil) rfl rfl) ?_
 refine lP T123 ?_
 refine ar0 (s_call (c_fraction_form za.num.neg za.den (by have := a.q.den_nz; omega)) (.cons (.tmp rfl) (.cons (.tmp rfl) .nil)) rfl rfl) ?_
 refine sP T68 ?_
 refine ⟨by kernel_rfl, ?_⟩
 refine hK3 _ ?_
 refine awp_ret ⟨_, (.cons (.cell rfl rfl T68 rfl rfl) .nil), ?_⟩
 exact fin_eq (by rw [rat_neg]; rfl)
theorem c_fraction_Sign (a : Rt) (ha : a.ok) : FnC Tryz.prog 70 [a.av] (i64 (sgnQ a.q)) := by
 refine con_of0 (N := 12) (rs := [.tmp 2]) Tryz.func70 rfl rfl rfl rfl ?_
 refine sr fun K1 hK1=>?_
 refine bX ?_
 refine aC ?_
 refine hK1 _ ?_
 refine sr fun K2 hK2=>?_
 refine lP T68 ?_
 refine ar0 (s_call (c_fraction_Parts a ha) (.cons (.tmp rfl) .nil) rfl rfl) ?_
 refine mT ?_
 refine ar0 (s_extract (.tmp rfl) rfl rfl) ?_
 refine ar0 (s_extract (.tmp rfl) rfl rfl) ?_
 refine al T123 ?_
 refine al T123 ?_
 refine sP T123 ?_
 refine sP T123 ?_
 refine hK2 _ ?_
 refine sr fun K3 hK3=>?_
 refine lP T123 ?_
 refine ar0 (s_call (z_Sign ha.qs.num) (.cons (.tmp rfl) .nil) rfl rfl) ?_
 refine aT ?_
 refine hK3 _ ?_
 refine awp_ret ⟨_, (.cons (.tmp rfl) .nil), ?_⟩
 exact fin_eq1 (by rw [rat_sign])
theorem c_fraction_Cmp (a b : Rt) (ha : a.ok) (hb : b.ok) : FnC Tryz.prog 182 [a.av, b.av] (i64 (sgnQ (a.q - b.q))) := by
 have za := ha.qs
 have zb := hb.qs
 have m1 := za.mul zb
 have m2 := zb.mul za
 refine con_of0 (N := 26) (rs := [.tmp 4]) Tryz.func182 rfl rfl rfl rfl ?_
 refine sr fun K1 hK1=>?_
 refine bX ?_
 refine bX ?_
 refine aC ?_
 refine hK1 _ ?_
 refine sr fun K2 hK2=>?_
 refine lP T68 ?_
 refine ar0 (s_call (c_fraction_Parts a ha) (.cons (.tmp rfl) .nil) rfl rfl) ?_
 refine mT ?_
 refine ar0 (s_extract (.tmp rfl) rfl rfl) ?_
 refine ar0 (s_extract (.tmp rfl) rfl rfl) ?_
 refine al T123 ?_
 refine al T123 ?_
 refine sP T123 ?_
 refine sP T123 ?_
 refine hK2 _ ?_
 refine sr fun K3 hK3=>?_
 refine lP T68 ?_
 refine ar0 (s_call (c_fraction_Parts b hb) (.cons (.tmp rfl) .nil) rfl rfl) ?_
 refine mT ?_
 refine ar0 (s_extract (.tmp rfl) rfl rfl) ?_
 refine ar0 (s_extract (.tmp rfl) rfl rfl) ?_
 refine al T123 ?_
 refine al T123 ?_
 refine sP T123 ?_
 refine sP T123 ?_
 refine hK3 _ ?_
 refine awp_seq ?_; intro K4 hK4
 refine awp_region_draw mixedP ?_
 refine lP T123 ?_
 refine lP T123 ?_
 refine ar0 (s_call (z_Mul za.num zb.den) (.cons (.tmp rfl) (.cons (.tmp rfl) .nil)) rfl rfl) ?_
 refine lP T123 ?_
 refine lP T123 ?_
 refine ar0 (s_call (z_Mul zb.num za.den) (.cons (.tmp rfl) (.cons (.tmp rfl) .nil)) rfl rfl) ?_
 refine ar0 (s_call (z_Cmp m1.1 m2.1) (.cons (.tmp rfl) (.cons (.tmp rfl) .nil)) rfl rfl) ?_
 refine aT ?_
 refine ⟨by kernel_rfl, ?_⟩
 refine hK4 _ ?_
 refine awp_ret ⟨_, (.cons (.tmp rfl) .nil), ?_⟩
 exact fin_eq1 (by rw [rat_cmp])
theorem c_fraction_Add (a b : Rt) (ha : a.ok) (hb : b.ok) : FnC Tryz.prog 156 [a.av, b.av] (qA (a.q + b.q)) := by
 have za := ha.qs
 have zb := hb.qs
 have m1 := za.mul zb
 have m2 := zb.mul za
 refine con_of0 (N := 30) (rs := [.cell 4 68]) Tryz.func156 rfl rfl rfl rfl ?_
 refine sr fun K1 hK1=>?_
 refine bX ?_
 refine bX ?_
 refine al T68 ?_
 refine hK1 _ ?_
 refine sr fun K2 hK2=>?_
 refine lP T68 ?_
 refine ar0 (s_call (c_fraction_Parts a ha) (.cons (.tmp rfl) .nil) rfl rfl) ?_
 refine mT ?_
 refine ar0 (s_extract (.tmp rfl) rfl rfl) ?_
 refine ar0 (s_extract (.tmp rfl) rfl rfl) ?_
 refine al T123 ?_
 refine al T123 ?_
 refine sP T123 ?_
 refine sP T123 ?_
 refine hK2 _ ?_
 refine sr fun K3 hK3=>?_
 refine lP T68 ?_
 refine ar0 (s_call (c_fraction_Parts b hb) (.cons (.tmp rfl) .nil) rfl rfl) ?_
 refine mT ?_
 refine ar0 (s_extract (.tmp rfl) rfl rfl) ?_
 refine ar0 (s_extract (.tmp rfl) rfl rfl) ?_
 refine al T123 ?_
 refine al T123 ?_
 refine sP T123 ?_
 refine sP T123 ?_
 refine hK3 _ ?_
 refine awp_seq ?_; intro K4 hK4
 refine awp_region_draw mixedP ?_
 refine lP T123 ?_
 refine lP T123 ?_
 refine ar0 (s_call (z_Mul za.num zb.den) (.cons (.tmp rfl) (.cons (.tmp rfl) .nil)) rfl rfl) ?_
 refine lP T123 ?_
 refine lP T123 ?_
 refine ar0 (s_call (z_Mul zb.num za.den) (.cons (.tmp rfl) (.cons (.tmp rfl) .nil)) rfl rfl) ?_
 refine ar0 (s_call (z_Add m1.1 m2.1) (.cons (.tmp rfl) (.cons (.tmp rfl) .nil)) rfl rfl) ?_
 refine lP T123 ?_
 refine lP T123 ?_
 refine ar0 (s_call (z_Mul za.den zb.den) (.cons (.tmp rfl) (.cons (.tmp rfl) .nil)) rfl rfl) ?_
 refine ar0 (s_call (c_fraction_form (za.cross zb) m1.2.2.1 (Int.mul_ne_zero (by have := a.q.den_nz; omega) (by have := b.q.den_nz; omega))) (.cons (.tmp rfl) (.cons (.tmp rfl) .nil)) rfl rfl) ?_
 refine sP T68 ?_
 refine ⟨by kernel_rfl, ?_⟩
 refine hK4 _ ?_
 refine awp_ret ⟨_, (.cons (.cell rfl rfl T68 rfl rfl) .nil), ?_⟩
 exact fin_eq (by rw [rat_add]; rfl)
theorem c_fraction_Sub (a b : Rt) (ha : a.ok) (hb : b.ok) : FnC Tryz.prog 209 [a.av, b.av] (qA (a.q - b.q)) := by
 refine con_of0 (N := 9) (rs := [.cell 4 68]) Tryz.func209 rfl rfl rfl rfl ?_
 refine sr fun K1 hK1=>?_
 refine bX ?_
 refine bX ?_
 refine al T68 ?_
 refine hK1 _ ?_
 refine awp_seq ?_; intro K2 hK2
 refine awp_region_draw mixedP ?_
 refine lP T68 ?_
 refine lP T68 ?_
 refine ar0 (s_call (c_fraction_Neg b hb) (.cons (.tmp rfl) .nil) rfl rfl) ?_
 refine ar0 (s_call (c_fraction_Add a (rt (-b.q)) ha hb.qs.neg.ok) (.cons (.tmp rfl) (.cons (.tmp rfl) .nil)) rfl rfl) ?_
 refine sP T68 ?_
 refine ⟨by kernel_rfl, ?_⟩
 refine hK2 _ ?_
 refine awp_ret ⟨_, (.cons (.cell rfl rfl T68 rfl rfl) .nil), ?_⟩
 exact fin_eq (by rw [rt_q, ← Rat.sub_eq_add_neg]; rfl)
theorem c_fraction_Mul (a b : Rt) (ha : a.ok) (hb : b.ok) : FnC Tryz.prog 207 [a.av, b.av] (qA (a.q * b.q)) := by
 have za := ha.qs
 have zb := hb.qs
 have m1 := za.mul zb
 refine con_of0 (N := 26) (rs := [.cell 4 68]) Tryz.func207 rfl rfl rfl rfl ?_
 refine sr fun K1 hK1=>?_
 refine bX ?_
 refine bX ?_
 refine al T68 ?_
 refine hK1 _ ?_
 refine sr fun K2 hK2=>?_
 refine lP T68 ?_
 refine ar0 (s_call (c_fraction_Parts a ha) (.cons (.tmp rfl) .nil) rfl rfl) ?_
 refine mT ?_
 refine ar0 (s_extract (.tmp rfl) rfl rfl) ?_
 refine ar0 (s_extract (.tmp rfl) rfl rfl) ?_
 refine al T123 ?_
 refine al T123 ?_
 refine sP T123 ?_
 refine sP T123 ?_
 refine hK2 _ ?_
 refine sr fun K3 hK3=>?_
 refine lP T68 ?_
 refine ar0 (s_call (c_fraction_Parts b hb) (.cons (.tmp rfl) .nil) rfl rfl) ?_
 refine mT ?_
 refine ar0 (s_extract (.tmp rfl) rfl rfl) ?_
 refine ar0 (s_extract (.tmp rfl) rfl rfl) ?_
 refine al T123 ?_
 refine al T123 ?_
 refine sP T123 ?_
 refine sP T123 ?_
 refine hK3 _ ?_
 refine awp_seq ?_; intro K4 hK4
 refine awp_region_draw mixedP ?_
 refine lP T123 ?_
 refine lP T123 ?_
 refine ar0 (s_call (z_Mul za.num zb.num) (.cons (.tmp rfl) (.cons (.tmp rfl) .nil)) rfl rfl) ?_
 refine lP T123 ?_
 refine lP T123 ?_
 refine ar0 (s_call (z_Mul za.den zb.den) (.cons (.tmp rfl) (.cons (.tmp rfl) .nil)) rfl rfl) ?_
 refine ar0 (s_call (c_fraction_form m1.2.1 m1.2.2.1 (Int.mul_ne_zero (by have := a.q.den_nz; omega) (by have := b.q.den_nz; omega))) (.cons (.tmp rfl) (.cons (.tmp rfl) .nil)) rfl rfl) ?_
 refine sP T68 ?_
 refine ⟨by kernel_rfl, ?_⟩
 refine hK4 _ ?_
 refine awp_ret ⟨_, (.cons (.cell rfl rfl T68 rfl rfl) .nil), ?_⟩
 exact fin_eq (by rw [rat_mul]; rfl)
theorem c_fraction_Div (a b : Rt) (ha : a.ok) (hb : b.ok) : FnC Tryz.prog 240 [a.av, b.av] (.tup [qA (a.q / b.q), errA (if b.q = 0 then 8 else 0)]) := by
 have za := ha.qs
 have zb := hb.qs
 have m1 := za.mul zb
 refine con_of0 (N := 29) (rs := [.cell 4 68, .tmp 5]) Tryz.func240 rfl rfl rfl rfl ?_
 refine sr fun K1 hK1=>?_
 refine bX ?_
 refine bX ?_
 refine al T68 ?_
 refine aC ?_
 refine hK1 _ ?_
 refine sr fun K2 hK2=>?_
 refine lP T68 ?_
 refine ar0 (s_call (c_fraction_Parts a ha) (.cons (.tmp rfl) .nil) rfl rfl) ?_
 refine mT ?_
 refine ar0 (s_extract (.tmp rfl) rfl rfl) ?_
 refine ar0 (s_extract (.tmp rfl) rfl rfl) ?_
 refine al T123 ?_
 refine al T123 ?_
 refine sP T123 ?_
 refine sP T123 ?_
 refine hK2 _ ?_
 refine sr fun K3 hK3=>?_
 refine lP T68 ?_
 refine ar0 (s_call (c_fraction_Parts b hb) (.cons (.tmp rfl) .nil) rfl rfl) ?_
 refine mT ?_
 refine ar0 (s_extract (.tmp rfl) rfl rfl) ?_
 refine ar0 (s_extract (.tmp rfl) rfl rfl) ?_
 refine al T123 ?_
 refine al T123 ?_
 refine sP T123 ?_
 refine sP T123 ?_
 refine hK3 _ ?_
 refine awp_seq ?_; intro K4 hK4
 refine awp_region_draw mixedP ?_
 refine lP T123 ?_
 refine lP T123 ?_
 refine ar0 (s_call (z_Mul za.num zb.den) (.cons (.tmp rfl) (.cons (.tmp rfl) .nil)) rfl rfl) ?_
 refine lP T123 ?_
 refine lP T123 ?_
 refine ar0 (s_call (z_Mul za.den zb.num) (.cons (.tmp rfl) (.cons (.tmp rfl) .nil)) rfl rfl) ?_
 refine ar0 (s_call (c_fraction_From m1.1 m1.2.2.2) (.cons (.tmp rfl) (.cons (.tmp rfl) .nil)) rfl rfl) ?_
 refine ar0 (s_extract (.tmp rfl) rfl rfl) ?_
 refine ar0 (s_extract (.tmp rfl) rfl rfl) ?_
 refine sP T68 ?_
 refine aT ?_
 refine ⟨by kernel_rfl, ?_⟩
 refine hK4 _ ?_
 refine awp_ret ⟨_, (.cons (.cell rfl rfl T68 rfl rfl) (.cons (.tmp rfl) .nil)), ?_⟩
 exact fin_eq (by
  have e1 : ((a.q.den : Int) * b.q.num = 0) = (b.q = 0) := by
   apply propext
   rw [← Rat.num_eq_zero, Int.mul_eq_zero]
   exact ⟨fun h => h.resolve_left (by have := a.q.den_nz; omega), .inr⟩
  simp only [rat_div, e1]
  rfl)
end Go.Lw
namespace Go.Lw
open Go.Proofs
theorem c_r02_plain (m : List Nat) (hm : Ws m) (hl : m.length ≤ lim) : FnC Tryz.prog 141 [ws m] (bl (!decide (m = []) && (⟨false, m⟩ : Wh).valid)) := by
 refine con_of0 (N := 15) (rs := [.tmp 2]) Tryz.func141 rfl rfl rfl rfl ?_
 refine sr fun K1 hK1=>?_
 refine aC ?_
 refine hK1 _ ?_
 refine sr fun K2 hK2=>?_
 refine mT ?_
 refine ar0 (s_lenMap (.tmp rfl) T66 rfl rfl) ?_
 refine ar0 (s_cmp (.tmp rfl) (.const _) rfl rfl) ?_
 refine mT ?_
 refine ar0 (s_guard rfl rfl rfl (fun h => s_move (.tmp rfl) rfl)) ?_
 refine ar0 (s_guard rfl rfl rfl (fun h => s_move (.tmp rfl) rfl)) ?_
 refine ar0 (s_guard rfl rfl rfl (fun h => s_lenMap (.opt rfl (o1 h)) T66 rfl rfl)) ?_
 refine ar0 (s_guard rfl rfl rfl (fun h => s_arithW (.opt rfl (o1 h)) (.const _) rfl (i64_sub1 (by simp [icmp] at h; omega) (by unfold lim at hl; unfold maxL; exact Nat.le_trans hl (by omega))) rfl)) ?_
 refine ar0 (s_guard rfl rfl rfl (fun h => s_idxLst (.opt rfl (o1 h)) (.opt rfl (o1 h)) T66 rfl T186 rfl (by omega) (getw (i := m.length - 1) (by simp [icmp] at h; omega)) rfl)) ?_
 refine ar0 (s_guard rfl rfl rfl (fun h => s_loadIptr (.opt rfl (o1 h)) T186 rfl rfl rfl)) ?_
 refine ar0 (s_guard rfl rfl rfl (fun h => s_cmp (.opt rfl (o1 h)) (.const _) rfl rfl)) ?_
 refine ar0 (s_pick (.tmp rfl) (fun hp => .opt rfl (o1 hp)) (fun _ => .const _) rfl) ?_
 refine aT ?_
 refine hK2 _ ?_
 refine awp_ret ⟨_, (.cons (.tmp rfl) .nil), ?_⟩
 exact fin_eq1 (by
  by_cases h : m = []
  ·subst h; rfl
  ·have h1 : 0 < m.length := List.length_pos_iff.2 h
   have h2 : icmp .gtr (m.length : Int) 0 = true := by simp [icmp, h1]
   simp only [bl, h2, cond_true, h, decide_false, Bool.not_false, Bool.true_and, Wh.valid, if_neg h, List.getLast?_eq_getElem?, word_get (show m.length - 1 < m.length by omega), icmp]
   congr 2
   generalize wordW m _ = x
   rw [Bool.eq_iff_iff]; simp [h1])
theorem c_r02_one : FnC Tryz.prog 106 [] (zA 1) := by
 refine con_of0 (N := 2) (rs := [.cell 0 123]) Tryz.func106 rfl rfl rfl rfl ?_
 refine sr fun K1 hK1=>?_
 refine al T123 ?_
 refine hK1 _ ?_
 refine sr fun K2 hK2=>?_
 refine ar0 (s_call (c_r01_Of 1 (by omega)) (.cons (.const _) .nil) rfl rfl) ?_
 refine sP T123 ?_
 refine hK2 _ ?_
 refine awp_ret ⟨_, (.cons (.cell rfl rfl T123 rfl rfl) .nil), ?_⟩
 exact fin_eq (by first | rfl | (simp; done))
theorem c_r02_Valid (r : Rt) (h : r.ok) : FnC Tryz.prog 81 [r.av] (bl r.valid) := by
 have hr := h
 have hn := h.n0
 have hd := h.d0
 have hl1 : r.num.length ≤ 137438953472 := h.2.2.1
 have hl2 : r.den.length ≤ 137438953472 := h.2.2.2
 refine con_of0 (N := 36) (rs := [.tmp 2]) Tryz.func81 rfl rfl rfl rfl ?_
 refine sr fun K1 hK1=>?_
 refine bX ?_
 refine aC ?_
 refine hK1 _ ?_
 refine awp_seq ?_; intro K2 hK2
 refine sr fun K3 hK3=>?_
 refine fP T68 ?_
 refine lP T66 ?_
 refine ar0 (s_lenMap (.tmp rfl) T66 rfl rfl) ?_
 refine ar0 (s_cmp (.tmp rfl) (.const _) rfl rfl) ?_
 refine mT ?_
 refine ar0 (s_guard rfl rfl rfl (fun h => s_fldPtr (.tmp rfl) T68 rfl rfl rfl rfl)) ?_
 refine ar0 (s_guard rfl rfl rfl (fun h => s_loadPtr (.opt rfl (o1 h)) rfl T66 rfl rfl rfl)) ?_
 refine ar0 (s_guard rfl rfl rfl (fun h => s_lenMap (.opt rfl (o1 h)) T66 rfl rfl)) ?_
 refine ar0 (s_guard rfl rfl rfl (fun h => s_cmp (.opt rfl (o1 h)) (.const _) rfl rfl)) ?_
 refine ar0 (s_pick (.tmp rfl) (fun hp => .opt rfl (o1 hp)) (fun _ => .const _) rfl) ?_
 refine hK3 _ ?_
 refine awp_cond (.tmp rfl) (fun ht12 => ?_) (fun ht12 => ?_)
 ·have h0 : r.num = [] ∧ r.den = [] := by simpa [icmp] using ht12
  refine sr fun K4 hK4=>?_
  refine fP T68 ?_
  refine lP T4 ?_
  refine ar0 (s_not (.tmp rfl) rfl) ?_
  refine aT ?_
  refine hK4 _ ?_
  refine awp_ret ⟨_, (.cons (.tmp rfl) .nil), ?_⟩
  exact fin_eq1 (by unfold Rt.valid; rw [if_pos h0]; rfl)
 ·have h0 : ¬ (r.num = [] ∧ r.den = []) := by
   have := ht12
   simp [icmp] at this
   exact fun h => this h.1 h.2
  refine awp_skip (hK2 _ ?_)
  refine sr fun K5 hK5=>?_
  refine fP T68 ?_
  refine lP T66 ?_
  refine ar0 (s_call (c_r02_plain r.num hr.1 hr.2.2.1) (.cons (.tmp rfl) .nil) rfl rfl) ?_
  refine mT ?_
  refine ar0 (s_guard rfl rfl rfl (fun h => s_fldPtr (.tmp rfl) T68 rfl rfl rfl rfl)) ?_
  refine ar0 (s_guard rfl rfl rfl (fun h => s_loadPtr (.opt rfl (o1 h)) rfl T66 rfl rfl rfl)) ?_
  refine ar0 (s_guard rfl rfl rfl (fun h => s_call (c_r02_plain r.den hr.2.1 hr.2.2.2) (.cons (.opt rfl (o1 h)) .nil) rfl rfl)) ?_
  refine ar0 (s_pick (.tmp rfl) (fun hp => .opt rfl (o1 hp)) (fun _ => .const _) rfl) ?_
  refine mT ?_
  refine ar0 (s_guard rfl rfl rfl (fun h => s_fldPtr (.tmp rfl) T68 rfl rfl rfl rfl)) ?_
  refine ar0 (s_guard rfl rfl rfl (fun h => s_loadPtr (.opt rfl (o1 h)) rfl T66 rfl rfl rfl)) ?_
  refine ar0 (s_guard rfl rfl rfl (fun h => s_build (.cons (.opt rfl (o1 h)) .nil) T123 rfl rfl rfl rfl rfl)) ?_
  refine ar0 (s_guard rfl rfl rfl (fun h => s_fldPtr (.tmp rfl) T68 rfl rfl rfl rfl)) ?_
  refine ar0 (s_guard rfl rfl rfl (fun h => s_loadPtr (.opt rfl (o1 h)) rfl T66 rfl rfl rfl)) ?_
  refine ar0 (s_guard rfl rfl rfl (fun h => s_build (.cons (.opt rfl (o1 h)) .nil) T123 rfl rfl rfl rfl rfl)) ?_
  refine ar0 (s_guard rfl rfl rfl (fun h => s_call (c_r01_Gcd r.n0 r.d0 hn hd (by show r.num.length + r.den.length < _; unfold big; omega)) (.cons (.opt rfl (o1 h)) (.cons (.opt rfl (o1 h)) .nil)) rfl rfl)) ?_
  refine ar0 (s_guard rfl rfl rfl (fun h => s_call c_r02_one .nil rfl rfl)) ?_
  refine ar0 (s_guard rfl rfl rfl (fun h => s_call (zr_Cmp (Rt.gcd_zs hr) zs1) (.cons (.opt rfl (o1 h)) (.cons (.opt rfl (o1 h)) .nil)) rfl rfl)) ?_
  refine ar0 (s_guard rfl rfl rfl (fun h => s_cmp (.opt rfl (o1 h)) (.const _) rfl rfl)) ?_
  refine ar0 (s_pick (.tmp rfl) (fun hp => .opt rfl (o1 hp)) (fun _ => .const _) rfl) ?_
  refine aT ?_
  refine hK5 _ ?_
  refine awp_ret ⟨_, (.cons (.tmp rfl) .nil), ?_⟩
  exact fin_eq1 (by exact congrArg bl (valid_ref h0).symm)
theorem c_r02_Parts (r : Rt) (h : r.ok) : FnC Tryz.prog 52 [r.av] (.tup [zA r.q.num, zA r.q.den]) := by
 have hl1 : r.num.length ≤ 137438953472 := h.2.2.1
 have hl2 : r.den.length ≤ 137438953472 := h.2.2.2
 refine con_of0 (N := 23) (rs := [.cell 2 123, .cell 3 123]) Tryz.func52 rfl rfl rfl rfl ?_
 refine sr fun K1 hK1=>?_
 refine bX ?_
 refine al T123 ?_
 refine al T123 ?_
 refine hK1 _ ?_
 refine awp_seq ?_; intro K2 hK2
 refine sr fun K3 hK3=>?_
 refine lP T68 ?_
 refine ar0 (s_call (c_r02_Valid r h) (.cons (.tmp rfl) .nil) rfl rfl) ?_
 refine ar0 (s_not (.tmp rfl) rfl) ?_
 refine mT ?_
 refine ar0 (s_guard rfl rfl rfl (fun h => s_fldPtr (.tmp rfl) T68 rfl rfl rfl rfl)) ?_
 refine ar0 (s_guard rfl rfl rfl (fun h => s_loadPtr (.opt rfl (o1 h)) rfl T66 rfl rfl rfl)) ?_
 refine ar0 (s_guard rfl rfl rfl (fun h => s_lenMap (.opt rfl (o1 h)) T66 rfl rfl)) ?_
 refine ar0 (s_guard rfl rfl rfl (fun h => s_cmp (.opt rfl (o1 h)) (.const _) rfl rfl)) ?_
 refine ar0 (s_pick (.tmp rfl) (fun _ => .const _) (fun hp => .opt rfl (o1 hp)) rfl) ?_
 refine hK3 _ ?_
 refine awp_cond (.tmp rfl) (fun ht12 => ?_) (fun ht12 => ?_)
 ·have h0 : ¬ (r.valid = true ∧ r.num ≠ []) := by
   have := ht12
   intro h'
   simp [icmp, h'.1, h'.2] at this
  refine sr fun K4 hK4=>?_
  refine ar0 (s_build .nil T123 rfl rfl rfl rfl rfl) ?_
  refine ar0 (s_call c_r02_one .nil rfl rfl) ?_
  refine sP T123 ?_
  refine sP T123 ?_
  refine hK4 _ ?_
  refine awp_ret ⟨_, (.cons (.cell rfl rfl T123 rfl rfl) (.cons (.cell rfl rfl T123 rfl rfl) .nil)), ?_⟩
  exact fin_sub (by rw [Rt.zero h0]; exact Sub.tup (.cons sub_zz (.cons (.refl _) .nil)))
 ·have h0 : r.valid = true ∧ r.num ≠ [] := by
   have := ht12
   cases hv : r.valid
   ·rw [hv] at this; cases this
   ·rw [hv] at this; exact ⟨rfl, by simpa [icmp] using this⟩
  obtain ⟨e1, e2, e3, e4, e5, e6⟩ := Rt.parts h h0.1 h0.2
  refine awp_skip (hK2 _ ?_)
  refine awp_seq ?_; intro K5 hK5
  refine awp_region_draw mixedP ?_
  refine fP T68 ?_
  refine lP T4 ?_
  refine fP T68 ?_
  refine lP T66 ?_
  refine ar0 (s_build (.cons (.tmp rfl) (.cons (.tmp rfl) .nil)) T123 rfl rfl rfl rfl rfl) ?_
  refine fP T68 ?_
  refine lP T66 ?_
  refine ar0 (s_build (.cons (.tmp rfl) .nil) T123 rfl rfl rfl rfl rfl) ?_
  refine sP T123 ?_
  refine sP T123 ?_
  refine ⟨by kernel_rfl, ?_⟩
  refine hK5 _ ?_
  refine awp_ret ⟨_, (.cons (.cell rfl rfl T123 rfl rfl) (.cons (.cell rfl rfl T123 rfl rfl) .nil)), ?_⟩
  exact fin_eq2 (by rw [e1, e2]; exact parts_av e3 e4 e5)
theorem c_r02_form {n d : Int} (hn : Zs n) (hd : Zs d) (h0 : d ≠ 0) : FnC Tryz.prog 112 [zA n, zA d] (qA (Rat.divInt n d)) := by
  refine con_of0 (N := 47) (rs := [.cell 4 68]) Tryz.func112 rfl rfl rfl rfl ?_
  refine sr fun K1 hK1=>?_
  refine bX ?_
  refine bX ?_
  refine al T68 ?_
  refine hK1 _ ?_
  refine awp_seq ?_; intro K2 hK2
  refine sr fun K3 hK3=>?_
  refine lP T123 ?_
  refine ar0 (s_call (zr_Sign hn) (.cons (.tmp rfl) .nil) rfl rfl) ?_
  refine ar0 (s_cmp (.tmp rfl) (.const _) rfl rfl) ?_
  refine hK3 _ ?_
  refine awp_cond (.tmp rfl) (fun ht14 => ?_) (fun ht14 => ?_)
  · have e0 : n = 0 := Int.sign_eq_zero_iff_zero.1 (by simpa [icmp] using ht14)
    refine sr fun K4 hK4=>?_
    refine ar0 (s_build .nil T68 rfl rfl rfl rfl rfl) ?_
    refine sP T68 ?_
    refine hK4 _ ?_
    refine awp_ret ⟨_, (.cons (.cell rfl rfl T68 rfl rfl) .nil), ?_⟩
    exact fin_sub1 (by rw [e0, Rat.zero_divInt]; exact sub_q0)
  · have e0 : n ≠ 0 := fun h => by rw [h] at ht14; cases ht14
    refine awp_skip (hK2 _ ?_)
    refine awp_seqJ (fun s_ => ∃ (n1 d1 : Int), (0 < d1 ∧ n1 ≠ 0 ∧ Zs n1 ∧ Zs d1 ∧ Rat.divInt n1 d1 = Rat.divInt n d) ∧ s_ = (⟨[(2, some (.ptr 2 0)), (3, some (.ptr 3 0)), (4, some (.ptr 4 0))], [(2, some (.box (zA n1).cells)), (3, some (.box (zA d1).cells)), (4, some (.box [.v (.bool false), .v (.slice none 0 0), .v (.slice none 0 0)]))]⟩ : AS)) ?_ ?_
    · intro K5 hK5
      refine sr fun K6 hK6=>?_
      refine lP T123 ?_
      refine ar0 (s_call (zr_Sign hd) (.cons (.tmp rfl) .nil) rfl rfl) ?_
      refine ar0 (s_cmp (.tmp rfl) (.const _) rfl rfl) ?_
      refine hK6 _ ?_
      refine awp_cond (.tmp rfl) (fun ht18 => ?_) (fun ht18 => ?_)
      · have e1 : d < 0 := Int.sign_eq_neg_one_iff_neg.1 (by have := Int.sign_trichotomy d; have h9 : d.sign < 0 := by simpa [icmp] using ht18
                                                             omega)
        refine awp_region_draw mixedP ?_
        refine lP T123 ?_
        refine ar0 (s_call (zr_Neg hn) (.cons (.tmp rfl) .nil) rfl rfl) ?_
        refine lP T123 ?_
        refine ar0 (s_call (zr_Neg hd) (.cons (.tmp rfl) .nil) rfl rfl) ?_
        refine sP T123 ?_
        refine sP T123 ?_
        refine ⟨by kernel_rfl, ?_⟩
        exact hK5 _ ((fun (n1 d1 : Int) => (⟨[(2, some (.ptr 2 0)), (3, some (.ptr 3 0)), (4, some (.ptr 4 0))], [(2, some (.box (zA n1).cells)), (3, some (.box (zA d1).cells)), (4, some (.box [.v (.bool false), .v (.slice none 0 0), .v (.slice none 0 0)]))]⟩ : AS)) (-n) (-d)) (Wk.of (.k (.k (.k .nil))) (.cons rfl (.refl _) (.cons rfl (.refl _) (.cons rfl (.refl _) .nil)))) ⟨-n, -d, ⟨by omega, by omega, hn.neg, hd.neg, divInt_neg2 n d⟩, rfl⟩
      · have e1 : 0 < d := by
          have h9 : 0 ≤ d.sign := by simpa [icmp] using ht18
          have := Int.sign_nonneg_iff.1 h9
          omega
        refine awp_skip ?_
        exact hK5 _ ((fun (n1 d1 : Int) => (⟨[(2, some (.ptr 2 0)), (3, some (.ptr 3 0)), (4, some (.ptr 4 0))], [(2, some (.box (zA n1).cells)), (3, some (.box (zA d1).cells)), (4, some (.box [.v (.bool false), .v (.slice none 0 0), .v (.slice none 0 0)]))]⟩ : AS)) (n) (d)) (Wk.of (.k (.k (.k .nil))) (.cons rfl (.refl _) (.cons rfl (.refl _) (.cons rfl (.refl _) .nil)))) ⟨n, d, ⟨e1, e0, hn, hd, rfl⟩, rfl⟩
    · rintro s_ ⟨n1, d1, ⟨f1, f2, f3, f4, f5⟩, rfl⟩
      have g2 : Zs (Int.gcd n1 d1 : Int) := f3.of_le (by rw [Int.natAbs_natCast]; exact Nat.le_of_dvd (by omega) (Int.gcd_dvd_natAbs_left _ _))
      have g3 : (Int.gcd n1 d1 : Int) ≠ 0 := by have := Int.gcd_pos_of_ne_zero_left d1 f2; omega
      refine sr fun K7 hK7=>?_
      refine lP T123 ?_
      refine lP T123 ?_
      refine ar0 (s_call (zr_Gcd f3 f4) (.cons (.tmp rfl) (.cons (.tmp rfl) .nil)) rfl rfl) ?_
      refine al T123 ?_
      refine sP T123 ?_
      refine hK7 _ ?_
      refine sr fun K8 hK8=>?_
      refine lP T123 ?_
      refine lP T123 ?_
      refine ar0 (s_call (zr_Div f3 g2 g3) (.cons (.tmp rfl) (.cons (.tmp rfl) .nil)) rfl rfl) ?_
      refine mT ?_
      refine ar0 (s_extract (.tmp rfl) rfl rfl) ?_
      refine ar0 (s_extract (.tmp rfl) rfl rfl) ?_
      refine ar0 (s_extract (.tmp rfl) rfl rfl) ?_
      refine al T123 ?_
      refine al T123 ?_
      refine sP T123 ?_
      refine sP T123 ?_
      refine aT ?_
      refine hK8 _ ?_
      refine sr fun K9 hK9=>?_
      refine lP T123 ?_
      refine lP T123 ?_
      refine ar0 (s_call (zr_Div f4 g2 g3) (.cons (.tmp rfl) (.cons (.tmp rfl) .nil)) rfl rfl) ?_
      refine mT ?_
      refine ar0 (s_extract (.tmp rfl) rfl rfl) ?_
      refine ar0 (s_extract (.tmp rfl) rfl rfl) ?_
      refine ar0 (s_extract (.tmp rfl) rfl rfl) ?_
      refine al T123 ?_
      refine al T123 ?_
      refine sP T123 ?_
      refine sP T123 ?_
      refine aT ?_
      refine hK9 _ ?_
      refine sr fun K10 hK10=>?_
      refine fP T123 ?_
      refine lP T4 ?_
      refine fP T123 ?_
      refine lP T66 ?_
      refine fP T123 ?_
      refine lP T66 ?_
      refine ar0 (s_build (.cons (.tmp rfl) (.cons (.tmp rfl) (.cons (.tmp rfl) .nil))) T68 rfl rfl rfl rfl rfl) ?_
      refine sP T68 ?_
      refine hK10 _ ?_
      refine awp_ret ⟨_, (.cons (.cell rfl rfl T68 rfl rfl) .nil), ?_⟩
      exact fin_eq (by rw [← f5, ← form_av2 f1 f2]; rfl)
theorem c_r02_From {n d : Int} (hn : Zs n) (hd : Zs d) : FnC Tryz.prog 206 [zA n, zA d] (.tup [qA (Rat.divInt n d), i64 (if d = 0 then 8 else 0)]) := by
 refine con_of0 (N := 13) (rs := [.cell 4 68, .tmp 5]) Tryz.func206 rfl rfl rfl rfl ?_
 refine sr fun K1 hK1=>?_
 refine bX ?_
 refine bX ?_
 refine al T68 ?_
 refine aC ?_
 refine hK1 _ ?_
 refine awp_seq ?_; intro K2 hK2
 refine sr fun K3 hK3=>?_
 refine lP T123 ?_
 refine ar0 (s_call (zr_Sign hd) (.cons (.tmp rfl) .nil) rfl rfl) ?_
 refine ar0 (s_cmp (.tmp rfl) (.const _) rfl rfl) ?_
 refine hK3 _ ?_
 refine awp_cond (.tmp rfl) (fun ht8 => ?_) (fun ht8 => ?_)
 ·have h0 : d = 0 := Int.sign_eq_zero_iff_zero.1 (by simpa [icmp] using ht8)
  refine sr fun K4 hK4=>?_
  refine ar0 (s_build .nil T68 rfl rfl rfl rfl rfl) ?_
  refine sP T68 ?_
  refine aC ?_
  refine hK4 _ ?_
  refine awp_ret ⟨_, (.cons (.cell rfl rfl T68 rfl rfl) (.cons (.tmp rfl) .nil)), ?_⟩
  exact fin_sub (by rw [if_pos h0, h0, Rat.divInt_zero]; exact Sub.tup (.cons sub_q0 (.cons (.refl _) .nil)))
 ·have h0 : d ≠ 0 := fun h => by rw [h] at ht8; cases ht8
  refine awp_skip (hK2 _ ?_)
  refine sr fun K5 hK5=>?_
  refine lP T123 ?_
  refine lP T123 ?_
  refine ar0 (s_call (c_r02_form hn hd h0) (.cons (.tmp rfl) (.cons (.tmp rfl) .nil)) rfl rfl) ?_
  refine sP T68 ?_
  refine aC ?_
  refine hK5 _ ?_
  refine awp_ret ⟨_, (.cons (.cell rfl rfl T68 rfl rfl) (.cons (.tmp rfl) .nil)), ?_⟩
  exact fin_eq (by rw [if_neg h0]; rfl)
theorem c_r02_Of (n : Int) (h : -9223372036854775808 ≤ n ∧ n ≤ 9223372036854775807) : FnC Tryz.prog 56 [i64 n] (qA n) := by
 have hz : Zs n := ⟨2, by omega, by unfold Lz; simp only [Nat.reducePow]; omega⟩
 refine con_of0 (N := 7) (rs := [.cell 2 68]) Tryz.func56 rfl rfl rfl rfl ?_
 refine sr fun K1 hK1=>?_
 refine al T68 ?_
 refine hK1 _ ?_
 refine sr fun K2 hK2=>?_
 refine mT ?_
 refine ar0 (s_call (c_r01_Of n h) (.cons (.tmp rfl) .nil) rfl rfl) ?_
 refine ar0 (s_call c_r02_one .nil rfl rfl) ?_
 refine ar0 (s_call (c_r02_form hz zs1 (by omega)) (.cons (.tmp rfl) (.cons (.tmp rfl) .nil)) rfl rfl) ?_
 refine sP T68 ?_
 refine hK2 _ ?_
 refine awp_ret ⟨_, (.cons (.cell rfl rfl T68 rfl rfl) .nil), ?_⟩
 exact fin_eq (by exact congrArg qA (Rat.num_divInt_den (n : Rat)))
theorem c_r02_Neg (a : Rt) (ha : a.ok) : FnC Tryz.prog 154 [a.av] (qA (-a.q)) := by
 have za := ha.qs
 refine con_of0 (N := 14) (rs := [.cell 2 68]) Tryz.func154 rfl rfl rfl rfl ?_
 refine sr fun K1 hK1=>?_
 refine bX ?_
 refine al T68 ?_
 refine hK1 _ ?_
 refine sr fun K2 hK2=>?_
 refine lP T68 ?_
 refine ar0 (s_call (c_r02_Parts a ha) (.cons (.tmp rfl) .nil) rfl rfl) ?_
 refine mT ?_
 refine ar0 (s_extract (.tmp rfl) rfl rfl) ?_
 refine ar0 (s_extract (.tmp rfl) rfl rfl) ?_
 refine al T123 ?_
 refine al T123 ?_
 refine sP T123 ?_
 refine sP T123 ?_
 refine hK2 _ ?_
 refine awp_seq ?_; intro K3 hK3
 refine awp_region_draw mixedP ?_
 refine lP T123 ?_
 refine ar0 (s_call (zr_Neg za.num) (.cons (.tmp rfl) .nil) rfl rfl) ?_
 refine lP T123 ?_
 refine ar0 (s_call (c_r02_form za.num.neg za.den (by have := a.q.den_nz; omega)) (.cons (.tmp rfl) (.cons (.tmp rfl) .nil)) rfl rfl) ?_
 refine sP T68 ?_
 refine ⟨by kernel_rfl, ?_⟩
 refine hK3 _ ?_
 refine awp_ret ⟨_, (.cons (.cell rfl rfl T68 rfl rfl) .nil), ?_⟩
 exact fin_eq (by rw [rat_neg]; rfl)
theorem c_r02_Sign (a : Rt) (ha : a.ok) : FnC Tryz.prog 21 [a.av] (i64 (sgnQ a.q)) := by
 refine con_of0 (N := 12) (rs := [.tmp 2]) Tryz.func21 rfl rfl rfl rfl ?_
 refine sr fun K1 hK1=>?_
 refine bX ?_
 refine aC ?_
 refine hK1 _ ?_
 refine sr fun K2 hK2=>?_
 refine lP T68 ?_
 refine ar0 (s_call (c_r02_Parts a ha) (.cons (.tmp rfl) .nil) rfl rfl) ?_
 refine mT ?_
 refine ar0 (s_extract (.tmp rfl) rfl rfl) ?_
 refine ar0 (s_extract (.tmp rfl) rfl rfl) ?_
 refine al T123 ?_
 refine al T123 ?_
 refine sP T123 ?_
 refine sP T123 ?_
 refine hK2 _ ?_
 refine sr fun K3 hK3=>?_
 refine lP T123 ?_
 refine ar0 (s_call (zr_Sign ha.qs.num) (.cons (.tmp rfl) .nil) rfl rfl) ?_
 refine aT ?_
 refine hK3 _ ?_
 refine awp_ret ⟨_, (.cons (.tmp rfl) .nil), ?_⟩
 exact fin_eq1 (by rw [rat_sign])
theorem c_r02_Add (a b : Rt) (ha : a.ok) (hb : b.ok) : FnC Tryz.prog 55 [a.av, b.av] (qA (a.q + b.q)) := by
 have za := ha.qs
 have zb := hb.qs
 have m1 := za.mul zb
 have m2 := zb.mul za
 refine con_of0 (N := 30) (rs := [.cell 4 68]) Tryz.func55 rfl rfl rfl rfl ?_
 refine sr fun K1 hK1=>?_
 refine bX ?_
 refine bX ?_
 refine al T68 ?_
 refine hK1 _ ?_
 refine sr fun K2 hK2=>?_
 refine lP T68 ?_
 refine ar0 (s_call (c_r02_Parts a ha) (.cons (.tmp rfl) .nil) rfl rfl) ?_
 refine mT ?_
 refine ar0 (s_extract (.tmp rfl) rfl rfl) ?_
 refine ar0 (s_extract (.tmp rfl) rfl rfl) ?_
 refine al T123 ?_
 refine al T123 ?_
 refine sP T123 ?_
 refine sP T123 ?_
 refine hK2 _ ?_
 refine sr fun K3 hK3=>?_
 refine lP T68 ?_
 refine ar0 (s_call (c_r02_Parts b hb) (.cons (.tmp rfl) .nil) rfl rfl) ?_
 refine mT ?_
 refine ar0 (s_extract (.tmp rfl) rfl rfl) ?_
 refine ar0 (s_extract (.tmp rfl) rfl rfl) ?_
 refine al T123 ?_
 refine al T123 ?_
 refine sP T123 ?_
 refine sP T123 ?_
 refine hK3 _ ?_
 refine awp_seq ?_; intro K4 hK4
 refine awp_region_draw mixedP ?_
 refine lP T123 ?_
 refine lP T123 ?_
 refine ar0 (s_call (zr_Mul za.num zb.den) (.cons (.tmp rfl) (.cons (.tmp rfl) .nil)) rfl rfl) ?_
 refine lP T123 ?_
 refine lP T123 ?_
 refine ar0 (s_call (zr_Mul zb.num za.den) (.cons (.tmp rfl) (.cons (.tmp rfl) .nil)) rfl rfl) ?_
 refine ar0 (s_call (zr_Add m1.1 m2.1) (.cons (.tmp rfl) (.cons (.tmp rfl) .nil)) rfl rfl) ?_
 refine lP T123 ?_
 refine lP T123 ?_
 refine ar0 (s_call (zr_Mul za.den zb.den) (.cons (.tmp rfl) (.cons (.tmp rfl) .nil)) rfl rfl) ?_
 refine ar0 (s_call (c_r02_form (za.cross zb) m1.2.2.1 (Int.mul_ne_zero (by have := a.q.den_nz; omega) (by have := b.q.den_nz; omega))) (.cons (.tmp rfl) (.cons (.tmp rfl) .nil)) rfl rfl) ?_
 refine sP T68 ?_
 refine ⟨by kernel_rfl, ?_⟩
 refine hK4 _ ?_
 refine awp_ret ⟨_, (.cons (.cell rfl rfl T68 rfl rfl) .nil), ?_⟩
 exact fin_eq (by rw [rat_add]; rfl)
theorem c_r02_Sub (a b : Rt) (ha : a.ok) (hb : b.ok) : FnC Tryz.prog 92 [a.av, b.av] (qA (a.q - b.q)) := by
 refine con_of0 (N := 9) (rs := [.cell 4 68]) Tryz.func92 rfl rfl rfl rfl ?_
 refine sr fun K1 hK1=>?_
 refine bX ?_
 refine bX ?_
 refine al T68 ?_
 refine hK1 _ ?_
 refine awp_seq ?_; intro K2 hK2
 refine awp_region_draw mixedP ?_
 refine lP T68 ?_
 refine lP T68 ?_
 refine ar0 (s_call (c_r02_Neg b hb) (.cons (.tmp rfl) .nil) rfl rfl) ?_
 refine ar0 (s_call (c_r02_Add a (rt (-b.q)) ha hb.qs.neg.ok) (.cons (.tmp rfl) (.cons (.tmp rfl) .nil)) rfl rfl) ?_
 refine sP T68 ?_
 refine ⟨by kernel_rfl, ?_⟩
 refine hK2 _ ?_
 refine awp_ret ⟨_, (.cons (.cell rfl rfl T68 rfl rfl) .nil), ?_⟩
 exact fin_eq (by rw [rt_q, ← Rat.sub_eq_add_neg]; rfl)
theorem c_r02_Mul (a b : Rt) (ha : a.ok) (hb : b.ok) : FnC Tryz.prog 90 [a.av, b.av] (qA (a.q * b.q)) := by
 have za := ha.qs
 have zb := hb.qs
 have m1 := za.mul zb
 refine con_of0 (N := 26) (rs := [.cell 4 68]) Tryz.func90 rfl rfl rfl rfl ?_
 refine sr fun K1 hK1=>?_
 refine bX ?_
 refine bX ?_
 refine al T68 ?_
 refine hK1 _ ?_
 refine sr fun K2 hK2=>?_
 refine lP T68 ?_
 refine ar0 (s_call (c_r02_Parts a ha) (.cons (.tmp rfl) .nil) rfl rfl) ?_
 refine mT ?_
 refine ar0 (s_extract (.tmp rfl) rfl rfl) ?_
 refine ar0 (s_extract (.tmp rfl) rfl rfl) ?_
 refine al T123 ?_
 refine al T123 ?_
 refine sP T123 ?_
 refine sP T123 ?_
 refine hK2 _ ?_
 refine sr fun K3 hK3=>?_
 refine lP T68 ?_
 refine ar0 (s_call (c_r02_Parts b hb) (.cons (.tmp rfl) .nil) rfl rfl) ?_
 refine mT ?_
 refine ar0 (s_extract (.tmp rfl) rfl rfl) ?_
 refine ar0 (s_extract (.tmp rfl) rfl rfl) ?_
 refine al T123 ?_
 refine al T123 ?_
 refine sP T123 ?_
 refine sP T123 ?_
 refine hK3 _ ?_
 refine awp_seq ?_; intro K4 hK4
 refine awp_region_draw mixedP ?_
 refine lP T123 ?_
 refine lP T123 ?_
 refine ar0 (s_call (zr_Mul za.num zb.num) (.cons (.tmp rfl) (.cons (.tmp rfl) .nil)) rfl rfl) ?_
 refine lP T123 ?_
 refine lP T123 ?_
 refine ar0 (s_call (zr_Mul za.den zb.den) (.cons (.tmp rfl) (.cons (.tmp rfl) .nil)) rfl rfl) ?_
 refine ar0 (s_call (c_r02_form m1.2.1 m1.2.2.1 (Int.mul_ne_zero (by have := a.q.den_nz; omega) (by have := b.q.den_nz; omega))) (.cons (.tmp rfl) (.cons (.tmp rfl) .nil)) rfl rfl) ?_
 refine sP T68 ?_
 refine ⟨by kernel_rfl, ?_⟩
 refine hK4 _ ?_
 refine awp_ret ⟨_, (.cons (.cell rfl rfl T68 rfl rfl) .nil), ?_⟩
 exact fin_eq (by rw [rat_mul]; rfl)
theorem c_r02_Div (a b : Rt) (ha : a.ok) (hb : b.ok) : FnC Tryz.prog 153 [a.av, b.av] (.tup [qA (a.q / b.q), i64 (if b.q = 0 then 8 else 0)]) := by
 have za := ha.qs
 have zb := hb.qs
 have m1 := za.mul zb
 refine con_of0 (N := 29) (rs := [.cell 4 68, .tmp 5]) Tryz.func153 rfl rfl rfl rfl ?_
 refine sr fun K1 hK1=>?_
 refine bX ?_
 refine bX ?_
 refine al T68 ?_
 refine aC ?_
 refine hK1 _ ?_
 refine sr fun K2 hK2=>?_
 refine lP T68 ?_
 refine ar0 (s_call (c_r02_Parts a ha) (.cons (.tmp rfl) .nil) rfl rfl) ?_
 refine mT ?_
 refine ar0 (s_extract (.tmp rfl) rfl rfl) ?_
 refine ar0 (s_extract (.tmp rfl) rfl rfl) ?_
 refine al T123 ?_
 refine al T123 ?_
 refine sP T123 ?_
 refine sP T123 ?_
 refine hK2 _ ?_
 refine sr fun K3 hK3=>?_
 refine lP T68 ?_
 refine ar0 (s_call (c_r02_Parts b hb) (.cons (.tmp rfl) .nil) rfl rfl) ?_
 refine mT ?_
 refine ar0 (s_extract (.tmp rfl) rfl rfl) ?_
 refine ar0 (s_extract (.tmp rfl) rfl rfl) ?_
 refine al T123 ?_
 refine al T123 ?_
 refine sP T123 ?_
 refine sP T123 ?_
 refine hK3 _ ?_
 refine awp_seq ?_; intro K4 hK4
 refine awp_region_draw mixedP ?_
 refine lP T123 ?_
 refine lP T123 ?_
 refine ar0 (s_call (zr_Mul za.num zb.den) (.cons (.tmp rfl) (.cons (.tmp rfl) .nil)) rfl rfl) ?_
 refine lP T123 ?_
 refine lP T123 ?_
 refine ar0 (s_call (zr_Mul za.den zb.num) (.cons (.tmp rfl) (.cons (.tmp rfl) .nil)) rfl rfl) ?_
 refine ar0 (s_call (c_r02_From m1.1 m1.2.2.2) (.cons (.tmp rfl) (.cons (.tmp rfl) .nil)) rfl rfl) ?_
 refine ar0 (s_extract (.tmp rfl) rfl rfl) ?_
 refine ar0 (s_extract (.tmp rfl) rfl rfl) ?_
 refine sP T68 ?_
 refine aT ?_
 refine ⟨by kernel_rfl, ?_⟩
 refine hK4 _ ?_
 refine awp_ret ⟨_, (.cons (.cell rfl rfl T68 rfl rfl) (.cons (.tmp rfl) .nil)), ?_⟩
 exact fin_eq (by
  have e1 : ((a.q.den : Int) * b.q.num = 0) = (b.q = 0) := by
   apply propext
   rw [← Rat.num_eq_zero, Int.mul_eq_zero]
   exact ⟨fun h => h.resolve_left (by have := a.q.den_nz; omega), .inr⟩
  simp only [rat_div, e1]
  rfl)
end Go.Lw
