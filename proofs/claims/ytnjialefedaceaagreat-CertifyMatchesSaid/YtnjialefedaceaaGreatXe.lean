/- CertifyMatches: for any assembly and any poses the law returns true and leaves its arguments as they were. No condition. Part 5 of 7: what the later parts need -/
import Derived.Test.YtnjialefedaceaaGreatXd
set_option linter.unusedVariables false
namespace Go.Lw
open Go.Proofs
theorem c_tower_level {α : Type} (f : α → AV) (l : List α) (hl : l.length ≤ 281474976710656) : FnC Tryz.prog 157 [.lst 3 (l.map f)] (i64 (lvl l.length)) := by
 refine con_of0 (N := 17) (rs := [.tmp 2]) Tryz.func157 rfl rfl rfl rfl ?_
 refine sr fun K1 hK1=>?_
 refine aC ?_
 refine hK1 _ ?_
 refine sr fun K2 hK2=>?_
 refine aC ?_
 refine hK2 _ ?_
 refine awp_seq ?_; intro K3 hK3
 refine awp_block ?_
 refine awp_loop (fun n_ s_ => ∃ (k : Nat), 48 - k = n_ ∧ (k ≤ 48 ∧ ∀ j, j < k → 2 ^ j < l.length) ∧ s_ = (⟨[(0, some (.lst 3 (l.map f))), (3, some (i64 k))], []⟩ : AS))
  (n := ((fun (k : Nat) => 48 - k) (0))) (s' := ((fun (k : Nat) => (⟨[(0, some (.lst 3 (l.map f))), (3, some (i64 k))], []⟩ : AS)) (0)))
  (Wk.of (.k (.k .nil)) .nil) ⟨0, rfl, ⟨by omega, fun j h => by omega⟩, rfl⟩ ?_
 intro n_ s_ hI K4 hK4
 obtain ⟨k, rfl, ⟨hk, hj⟩, rfl⟩ := hI
 refine awp_seq ?_; intro K5 hK5
 refine sr fun K6 hK6=>?_
 refine mT ?_
 refine ar0 (s_shlW (.const _) (.tmp rfl) (by omega) (i64_shl1 (by omega)) rfl) ?_
 refine mT ?_
 refine ar0 (s_lenMap (.tmp rfl) T60 rfl rfl) ?_
 refine ar0 (s_cmp (.tmp rfl) (.tmp rfl) rfl rfl) ?_
 refine hK6 _ ?_
 refine awp_cond (.tmp rfl) (fun ht8 => ?_) (fun ht8 => ?_)
 ·have h1 : 2 ^ k < l.length := by have := ht8; simp only [icmp, decide_eq_true_eq] at this; omega
  have h2 : k < 48 := by
   rcases Nat.lt_or_ge k 48 with h | h
   ·exact h
   ·have : 2 ^ 48 ≤ 2 ^ k := pow_le2 h
    have : (2 : Nat) ^ 48 = 281474976710656 := by decide
    omega
  refine awp_skip (hK5 _ ?_)
  refine awp_block ?_
  refine awp_region ?_
  refine mT ?_
  refine ar0 (s_arithW (.tmp rfl) (.const _) rfl (i64_addI (by omega)) rfl) ?_
  refine aT ?_
  refine hK4 _ ((fun (k : Nat) => (⟨[(0, some (.lst 3 (l.map f))), (3, some (i64 k))], []⟩ : AS)) (k + 1)) ((fun (k : Nat) => 48 - k) (k + 1)) (Wk.of (.k (.k .nil)) .nil) ⟨k + 1, rfl, ⟨by omega, fun j h => by rcases Nat.lt_or_ge j k with h3 | h3; exact hj j h3; (have : j = k := by omega); subst this; exact h1⟩, rfl⟩ (by first | omega | (dsimp only; omega))
 ·have h1 : l.length ≤ 2 ^ k := by have := ht8; simp only [icmp, decide_eq_false_iff_not] at this; omega
  have h2 := clog_eq hj h1
  refine awp_exit ?_
  refine hK3 _ ?_
  refine awp_seq ?_; intro K7 hK7
  refine sr fun K8 hK8=>?_
  refine mT ?_
  refine ar0 (s_shlW (.const _) (.tmp rfl) (by omega) (i64_shl1 (by omega)) rfl) ?_
  refine mT ?_
  refine ar0 (s_lenMap (.tmp rfl) T60 rfl rfl) ?_
  refine ar0 (s_cmp (.tmp rfl) (.tmp rfl) rfl rfl) ?_
  refine hK8 _ ?_
  refine awp_cond (.tmp rfl) (fun ht15 => ?_) (fun ht15 => ?_)
  ·have h3 : 2 ^ k ≠ l.length := by have := ht15; simp only [icmp, bne_iff_ne, ne_eq] at this; omega
   refine sr fun K9 hK9=>?_
   refine aC ?_
   refine hK9 _ ?_
   refine awp_ret ⟨_, (.cons (.tmp rfl) .nil), ?_⟩
   exact fin_eq1 (by unfold lvl; rw [h2, if_neg h3]; rfl)
  ·have h3 : 2 ^ k = l.length := by have := ht15; simp only [icmp, bne_eq_false_iff_eq] at this; omega
   refine awp_skip (hK7 _ ?_)
   refine sr fun K10 hK10=>?_
   refine mT ?_
   refine aT ?_
   refine hK10 _ ?_
   refine awp_ret ⟨_, (.cons (.tmp rfl) .nil), ?_⟩
   exact fin_eq1 (by unfold lvl; rw [h2, if_pos h3])
theorem c_tower_number (ts : List (List Rt)) (a : List Rt) (ha : ∀ r ∈ a, r.ok) (hl : a.length ≤ 281474976710656) (ht : ts.length ≤ 281474976710656) : FnC Tryz.prog 97 [towR ts, nR a] (errA (numE ts.length a)) := by
  refine con_of0 (N := 34) (rs := [.tmp 4]) Tryz.func97 rfl rfl rfl rfl ?_
  refine sr fun K1 hK1=>?_
  refine bX ?_
  refine aC ?_
  refine hK1 _ ?_
  refine awp_seqJ (fun s_ => (¬ (a ≠ [] ∧ (lvl a.length < 0 ∨ (ts.length : Int) < lvl a.length))) ∧ s_ = (⟨[(1, some (nR a)), (4, some (.v .nilIface))], []⟩ : AS)) ?_ ?_
  · intro K2 hK2
    refine sr fun K3 hK3=>?_
    refine mT ?_
    refine ar0 (s_lenMap (.tmp rfl) T60 rfl rfl) ?_
    refine ar0 (s_cmp (.tmp rfl) (.const _) rfl rfl) ?_
    refine hK3 _ ?_
    refine awp_cond (.tmp rfl) (fun ht10 => ?_) (fun ht10 => ?_)
    · have h0 : a ≠ [] := fun h => by rw [h] at ht10; simp [icmp] at ht10
      refine sr fun K4 hK4=>?_
      refine mT ?_
      refine ar0 (s_call (c_tower_level Rt.av a hl) (.cons (.tmp rfl) .nil) rfl rfl) ?_
      refine aT ?_
      refine hK4 _ ?_
      refine sr fun K5 hK5=>?_
      refine mT ?_
      refine ar0 (s_cmp (.tmp rfl) (.const _) rfl rfl) ?_
      refine mT ?_
      refine ar0 (s_guard rfl rfl rfl (fun h => s_move (.tmp rfl) rfl)) ?_
      refine ar0 (s_guard rfl rfl rfl (fun h => s_fldPtr (.tmp rfl) T30 rfl rfl rfl rfl)) ?_
      refine ar0 (s_guard rfl rfl rfl (fun h => s_loadPtr (.opt rfl (o1 h)) rfl T28 rfl rfl rfl)) ?_
      refine ar0 (s_guard rfl rfl rfl (fun h => s_lenMap (.opt rfl (o1 h)) T28 rfl rfl)) ?_
      refine ar0 (s_guard rfl rfl rfl (fun h => s_cmp (.opt rfl (o1 h)) (.opt rfl (o1 h)) rfl rfl)) ?_
      refine ar0 (s_pick (.tmp rfl) (fun _ => .const _) (fun hp => .opt rfl (o1 hp)) rfl) ?_
      refine hK5 _ ?_
      refine awp_cond (.tmp rfl) (fun ht21 => ?_) (fun ht21 => ?_)
      · have h1 : lvl a.length < 0 ∨ (ts.length : Int) < lvl a.length := by
          have h9 := ht21
          by_cases h : lvl a.length < 0
          · exact .inl h
          · simp only [icmp, decide_eq_false h, cond_false, decide_eq_true_eq] at h9; exact .inr h9
        refine sr fun K6 hK6=>?_
        refine ar0 (s_mkIface (.const _) rfl T97 rfl) ?_
        refine aT ?_
        refine hK6 _ ?_
        refine awp_ret ⟨_, (.cons (.tmp rfl) .nil), ?_⟩
        exact fin_eq1 (by unfold numE; rw [if_pos ⟨h0, h1⟩]; rfl)
      · have h1 : ¬ (lvl a.length < 0 ∨ (ts.length : Int) < lvl a.length) := by
          have h9 := ht21
          by_cases h : lvl a.length < 0
          · simp only [icmp, decide_eq_true h, cond_true] at h9; cases h9
          · simp only [icmp, decide_eq_false h, cond_false, decide_eq_false_iff_not] at h9
            exact fun h' => h'.elim h h9
        refine awp_skip ?_
        exact hK2 _ ((⟨[(1, some (nR a)), (4, some (.v .nilIface))], []⟩ : AS)) (Wk.of (.k (.k .nil)) .nil) ⟨(fun h => h1 h.2), rfl⟩
    · have h0 : a = [] := by
        cases a with
        | nil => rfl
        | cons c l => simp [icmp] at ht10
      refine awp_skip ?_
      exact hK2 _ ((⟨[(1, some (nR a)), (4, some (.v .nilIface))], []⟩ : AS)) (Wk.of (.k (.k .nil)) .nil) ⟨(fun h => h.1 h0), rfl⟩
  · rintro s_ ⟨hn, rfl⟩
    refine awp_seq ?_; intro K7 hK7
    refine sr fun K8 hK8=>?_
    refine mT ?_
    refine ar0 (s_lenMap (.tmp rfl) T60 rfl rfl) ?_
    refine ar0 (s_move (.const _) rfl) ?_
    refine hK8 _ ?_
    refine awp_block ?_
    refine awp_loop (fun n_ s_ => ∃ (i : Nat), a.length - i = n_ ∧ (i ≤ a.length ∧ (a.take i).all Rt.valid = true) ∧ s_ = (⟨[(23, some (nR a)), (24, some (i64 a.length)), (25, some (i64 i))], []⟩ : AS))
      (n := ((fun (i : Nat) => a.length - i) (0))) (s' := ((fun (i : Nat) => (⟨[(23, some (nR a)), (24, some (i64 a.length)), (25, some (i64 i))], []⟩ : AS)) (0)))
      (Wk.of (.k (.k (.k .nil))) .nil) ⟨0, rfl, ⟨Nat.zero_le _, by simp⟩, rfl⟩ ?_
    intro n_ s_ hI K9 hK9
    obtain ⟨i, rfl, ⟨hi, hv⟩, rfl⟩ := hI
    refine sr fun K10 hK10=>?_
    refine ar0 (s_cmp (.tmp rfl) (.tmp rfl) rfl rfl) ?_
    refine hK10 _ ?_
    refine awp_seq ?_; intro K11 hK11
    refine awp_cond (.tmp rfl) (fun ht26 => ?_) (fun ht26 => ?_)
    · have hin : i < a.length := by simpa [icmp] using ht26
      obtain ⟨r, hr⟩ := getx hin
      have hrok := ha r (List.mem_of_getElem? hr)
      refine awp_skip (hK11 _ ?_)
      refine awp_seq ?_; intro K12 hK12
      refine awp_block ?_
      refine sr fun K13 hK13=>?_
      refine ar0 (s_idxLst (.tmp rfl) (.tmp rfl) T60 rfl T68 rfl (by omega) (getmap hr) rfl) ?_
      refine ar0 (s_loadIptr (.tmp rfl) T68 rfl rfl rfl) ?_
      refine al T68 ?_
      refine sP T68 ?_
      refine hK13 _ ?_
      refine sr fun K14 hK14=>?_
      refine lP T68 ?_
      refine ar0 (s_call (c_fraction_Valid r hrok) (.cons (.tmp rfl) .nil) rfl rfl) ?_
      refine ar0 (s_not (.tmp rfl) rfl) ?_
      refine hK14 _ ?_
      refine awp_cond (.tmp rfl) (fun ht31 => ?_) (fun ht31 => ?_)
      · have hrv : r.valid = false := by simpa using ht31
        refine sr fun K15 hK15=>?_
        refine ar0 (s_mkIface (.const _) rfl T97 rfl) ?_
        refine aT ?_
        refine hK15 _ ?_
        refine awp_ret ⟨_, (.cons (.tmp rfl) .nil), ?_⟩
        exact fin_eq1 (by
          unfold numE
          rw [if_neg hn, if_neg]
          · rfl
          · rw [List.all_eq_true]
            intro h
            rw [h r (List.mem_of_getElem? hr)] at hrv; cases hrv)
      · have hrv : r.valid = true := by simpa using ht31
        refine awp_skip (hK12 _ ?_)
        refine awp_region ?_
        refine ar0 (s_arithW (.tmp rfl) (.const _) rfl (i64_add1 (by unfold maxL; omega)) rfl) ?_
        refine mT ?_
        refine hK9 _ ((fun (i : Nat) => (⟨[(23, some (nR a)), (24, some (i64 a.length)), (25, some (i64 i))], []⟩ : AS)) (i + 1)) ((fun (i : Nat) => a.length - i) (i + 1)) (Wk.of (.k (.k (.k .nil))) .nil) ⟨i + 1, rfl, ⟨by omega, by rw [take_succ_get hr, List.all_append, hv]; simp [hrv]⟩, rfl⟩ (by first | omega | (dsimp only; omega))
    · have hin : i = a.length := by have : a.length ≤ i := by simpa [icmp] using ht26
                                    omega
      subst hin
      rw [List.take_length] at hv
      refine awp_exit ?_
      refine hK7 _ ?_
      refine sr fun K16 hK16=>?_
      refine aC ?_
      refine hK16 _ ?_
      refine awp_ret ⟨_, (.cons (.tmp rfl) .nil), ?_⟩
      exact fin_eq1 (by unfold numE; rw [if_neg hn, if_pos hv]; rfl)
theorem c_tower_zero (a : List Rat) (ha : ∀ q ∈ a, Qs q) (hl : a.length ≤ 281474976710656) : FnC Tryz.prog 244 [nA a] (bl (zeroL a)) := by
  refine con_of0 (N := 15) (rs := [.tmp 2]) Tryz.func244 rfl rfl rfl rfl ?_
  refine sr fun K1 hK1=>?_
  refine aC ?_
  refine hK1 _ ?_
  refine awp_seq ?_; intro K2 hK2
  refine sr fun K3 hK3=>?_
  refine mT ?_
  refine ar0 (s_lenMap (.tmp rfl) T60 rfl rfl) ?_
  refine ar0 (s_move (.const _) rfl) ?_
  refine hK3 _ ?_
  refine awp_block ?_
  refine awp_loop (fun n_ s_ => ∃ (i : Nat), a.length - i = n_ ∧ (i ≤ a.length ∧ zeroL (a.take i) = true) ∧ s_ = (⟨[(5, some (nA a)), (6, some (i64 a.length)), (7, some (i64 i))], []⟩ : AS))
    (n := ((fun (i : Nat) => a.length - i) (0))) (s' := ((fun (i : Nat) => (⟨[(5, some (nA a)), (6, some (i64 a.length)), (7, some (i64 i))], []⟩ : AS)) (0)))
    (Wk.of (.k (.k (.k .nil))) .nil) ⟨0, rfl, ⟨Nat.zero_le _, by simp [zeroL]⟩, rfl⟩ ?_
  intro n_ s_ hI K4 hK4
  obtain ⟨i, rfl, ⟨hi, hv⟩, rfl⟩ := hI
  refine sr fun K5 hK5=>?_
  refine ar0 (s_cmp (.tmp rfl) (.tmp rfl) rfl rfl) ?_
  refine hK5 _ ?_
  refine awp_seq ?_; intro K6 hK6
  refine awp_cond (.tmp rfl) (fun ht8 => ?_) (fun ht8 => ?_)
  · have hin : i < a.length := by simpa [icmp] using ht8
    obtain ⟨q, hq⟩ := getx hin
    have hqs := ha q (List.mem_of_getElem? hq)
    refine awp_skip (hK6 _ ?_)
    refine awp_seq ?_; intro K7 hK7
    refine awp_block ?_
    refine sr fun K8 hK8=>?_
    refine ar0 (s_idxLst (.tmp rfl) (.tmp rfl) T60 rfl T68 rfl (by omega) (getmap hq) rfl) ?_
    refine ar0 (s_loadIptr (.tmp rfl) T68 rfl rfl rfl) ?_
    refine al T68 ?_
    refine sP T68 ?_
    refine hK8 _ ?_
    refine sr fun K9 hK9=>?_
    refine lP T68 ?_
    refine ar0 (s_call (c_fraction_Sign (rt q) hqs.ok) (.cons (.tmp rfl) .nil) rfl rfl) ?_
    refine ar0 (s_cmp (.tmp rfl) (.const _) rfl rfl) ?_
    refine hK9 _ ?_
    refine awp_cond (.tmp rfl) (fun ht13 => ?_) (fun ht13 => ?_)
    · have h0 : q ≠ 0 := by
        intro h
        have h9 := ht13
        rw [rt_q, h] at h9
        cases h9
      refine sr fun K10 hK10=>?_
      refine aC ?_
      refine hK10 _ ?_
      refine awp_ret ⟨_, (.cons (.tmp rfl) .nil), ?_⟩
      exact fin_eq1 (by
        have : zeroL a = false := by
          rw [Bool.eq_false_iff]
          intro h
          exact h0 (by simpa using List.all_eq_true.1 h q (List.mem_of_getElem? hq))
        rw [this]; rfl)
    · have h0 : q = 0 := by
        have h9 : sgnQ q = 0 := by have := ht13; rw [rt_q] at this; simpa [icmp] using this
        exact sgnQ_zero h9
      refine awp_skip (hK7 _ ?_)
      refine awp_region ?_
      refine ar0 (s_arithW (.tmp rfl) (.const _) rfl (i64_add1 (by unfold maxL; omega)) rfl) ?_
      refine mT ?_
      refine hK4 _ ((fun (i : Nat) => (⟨[(5, some (nA a)), (6, some (i64 a.length)), (7, some (i64 i))], []⟩ : AS)) (i + 1)) ((fun (i : Nat) => a.length - i) (i + 1)) (Wk.of (.k (.k (.k .nil))) .nil) ⟨i + 1, rfl, ⟨by omega, by rw [take_succ_get hq]; simp only [zeroL, List.all_append, Bool.and_eq_true]; exact ⟨hv, by simp [h0]⟩⟩, rfl⟩ (by first | omega | (dsimp only; omega))
  · have hin : i = a.length := by have : a.length ≤ i := by simpa [icmp] using ht8
                                  omega
    subst hin
    rw [List.take_length] at hv
    refine awp_exit ?_
    refine hK2 _ ?_
    refine sr fun K11 hK11=>?_
    refine aC ?_
    refine hK11 _ ?_
    refine awp_ret ⟨_, (.cons (.tmp rfl) .nil), ?_⟩
    exact fin_eq1 (by rw [hv]; rfl)
theorem c_tower_empty (a : List Rat) (hl : a.length ≤ 281474976710656) : FnC Tryz.prog 160 [nA a] (bl (zeroL a)) := by
  refine con_of0 (N := 26) (rs := [.tmp 2]) Tryz.func160 rfl rfl rfl rfl ?_
  refine sr fun K1 hK1=>?_
  refine aC ?_
  refine hK1 _ ?_
  refine awp_seq ?_; intro K2 hK2
  refine sr fun K3 hK3=>?_
  refine mT ?_
  refine ar0 (s_lenMap (.tmp rfl) T60 rfl rfl) ?_
  refine ar0 (s_move (.const _) rfl) ?_
  refine hK3 _ ?_
  refine awp_block ?_
  refine awp_loop (fun n_ s_ => ∃ (i : Nat), a.length - i = n_ ∧ (i ≤ a.length ∧ zeroL (a.take i) = true) ∧ s_ = (⟨[(5, some (nA a)), (6, some (i64 a.length)), (7, some (i64 i))], []⟩ : AS))
    (n := ((fun (i : Nat) => a.length - i) (0))) (s' := ((fun (i : Nat) => (⟨[(5, some (nA a)), (6, some (i64 a.length)), (7, some (i64 i))], []⟩ : AS)) (0)))
    (Wk.of (.k (.k (.k .nil))) .nil) ⟨0, rfl, ⟨Nat.zero_le _, by simp [zeroL]⟩, rfl⟩ ?_
  intro n_ s_ hI K4 hK4
  obtain ⟨i, rfl, ⟨hi, hv⟩, rfl⟩ := hI
  refine sr fun K5 hK5=>?_
  refine ar0 (s_cmp (.tmp rfl) (.tmp rfl) rfl rfl) ?_
  refine hK5 _ ?_
  refine awp_seq ?_; intro K6 hK6
  refine awp_cond (.tmp rfl) (fun ht8 => ?_) (fun ht8 => ?_)
  · have hin : i < a.length := by simpa [icmp] using ht8
    obtain ⟨q, hq⟩ := getx hin
    refine awp_skip (hK6 _ ?_)
    refine awp_seq ?_; intro K7 hK7
    refine awp_block ?_
    refine sr fun K8 hK8=>?_
    refine ar0 (s_idxLst (.tmp rfl) (.tmp rfl) T60 rfl T68 rfl (by omega) (getmap hq) rfl) ?_
    refine ar0 (s_loadIptr (.tmp rfl) T68 rfl rfl rfl) ?_
    refine al T68 ?_
    refine sP T68 ?_
    refine hK8 _ ?_
    refine sr fun K9 hK9=>?_
    refine fP T68 ?_
    refine lP T4 ?_
    refine mT ?_
    refine ar0 (s_guard rfl rfl rfl (fun h => s_fldPtr (.tmp rfl) T68 rfl rfl rfl rfl)) ?_
    refine ar0 (s_guard rfl rfl rfl (fun h => s_loadPtr (.opt rfl (o1 h)) rfl T66 rfl rfl rfl)) ?_
    refine ar0 (s_guard rfl rfl rfl (fun h => s_lenMap (.opt rfl (o1 h)) T66 rfl rfl)) ?_
    refine ar0 (s_guard rfl rfl rfl (fun h => s_cmp (.opt rfl (o1 h)) (.const _) rfl rfl)) ?_
    refine ar0 (s_pick (.tmp rfl) (fun _ => .const _) (fun hp => .opt rfl (o1 hp)) rfl) ?_
    refine mT ?_
    refine ar0 (s_guard rfl rfl rfl (fun h => s_fldPtr (.tmp rfl) T68 rfl rfl rfl rfl)) ?_
    refine ar0 (s_guard rfl rfl rfl (fun h => s_loadPtr (.opt rfl (o1 h)) rfl T66 rfl rfl rfl)) ?_
    refine ar0 (s_guard rfl rfl rfl (fun h => s_lenMap (.opt rfl (o1 h)) T66 rfl rfl)) ?_
    refine ar0 (s_guard rfl rfl rfl (fun h => s_cmp (.opt rfl (o1 h)) (.const _) rfl rfl)) ?_
    refine ar0 (s_pick (.tmp rfl) (fun _ => .const _) (fun hp => .opt rfl (o1 hp)) rfl) ?_
    refine hK9 _ ?_
    refine awp_cond (.tmp rfl) (fun ht24 => ?_) (fun ht24 => ?_)
    · have h0 : q ≠ 0 := empty_no ht24
      refine sr fun K10 hK10=>?_
      refine aC ?_
      refine hK10 _ ?_
      refine awp_ret ⟨_, (.cons (.tmp rfl) .nil), ?_⟩
      exact fin_eq1 (by
        have : zeroL a = false := by
          rw [Bool.eq_false_iff]
          intro h
          exact h0 (by simpa using List.all_eq_true.1 h q (List.mem_of_getElem? hq))
        rw [this]; rfl)
    · have h0 : q = 0 := empty_yes ht24
      refine awp_skip (hK7 _ ?_)
      refine awp_region ?_
      refine ar0 (s_arithW (.tmp rfl) (.const _) rfl (i64_add1 (by unfold maxL; omega)) rfl) ?_
      refine mT ?_
      refine hK4 _ ((fun (i : Nat) => (⟨[(5, some (nA a)), (6, some (i64 a.length)), (7, some (i64 i))], []⟩ : AS)) (i + 1)) ((fun (i : Nat) => a.length - i) (i + 1)) (Wk.of (.k (.k (.k .nil))) .nil) ⟨i + 1, rfl, ⟨by omega, by rw [take_succ_get hq]; simp only [zeroL, List.all_append, Bool.and_eq_true]; exact ⟨hv, by simp [h0]⟩⟩, rfl⟩ (by first | omega | (dsimp only; omega))
  · have hin : i = a.length := by have : a.length ≤ i := by simpa [icmp] using ht8
                                  omega
    subst hin
    rw [List.take_length] at hv
    refine awp_exit ?_
    refine hK2 _ ?_
    refine sr fun K11 hK11=>?_
    refine aC ?_
    refine hK11 _ ?_
    refine awp_ret ⟨_, (.cons (.tmp rfl) .nil), ?_⟩
    exact fin_eq1 (by rw [hv]; rfl)
theorem c_tower_copied (a : List Rat) (ha : ∀ q ∈ a, Qs q) (hl : a.length ≤ 1099511627776) : FnC Tryz.prog 159 [nA a] (nA a) := by
  refine con_of0 (N := 28) (rs := [.tmp 2]) Tryz.func159 rfl rfl rfl rfl ?_
  refine sr fun K1 hK1=>?_
  refine aC ?_
  refine hK1 _ ?_
  refine sr fun K2 hK2=>?_
  refine aC ?_
  refine hK2 _ ?_
  refine awp_seq ?_; intro K3 hK3
  refine sr fun K4 hK4=>?_
  refine mT ?_
  refine ar0 (s_lenMap (.tmp rfl) T60 rfl rfl) ?_
  refine ar0 (s_move (.const _) rfl) ?_
  refine hK4 _ ?_
  refine awp_block ?_
  refine awp_weaken (Wk.virt 900 3 rfl) ?_
  refine awp_loop (fun n_ s_ => ∃ (i : Nat), a.length - i = n_ ∧ (i ≤ a.length) ∧ s_ = (⟨[(3, some (.ms 900 3 0 i)), (6, some (nA a)), (7, some (i64 a.length)), (8, some (i64 i))], [(900, some (.row 3 ((a.take i).map qA)))]⟩ : AS))
    (n := ((fun (i : Nat) => a.length - i) (0))) (s' := ((fun (i : Nat) => (⟨[(3, some (.ms 900 3 0 i)), (6, some (nA a)), (7, some (i64 a.length)), (8, some (i64 i))], [(900, some (.row 3 ((a.take i).map qA)))]⟩ : AS)) (0)))
    (Wk.of (.k (.k (.k (.k .nil)))) (.cons rfl (.refl _) .nil)) ⟨0, rfl, Nat.zero_le _, rfl⟩ ?_
  intro n_ s_ hI K5 hK5
  obtain ⟨i, rfl, hi, rfl⟩ := hI
  refine sr fun K6 hK6=>?_
  refine ar0 (s_cmp (.tmp rfl) (.tmp rfl) rfl rfl) ?_
  refine hK6 _ ?_
  refine awp_seq ?_; intro K7 hK7
  refine awp_cond (.tmp rfl) (fun ht9 => ?_) (fun ht9 => ?_)
  · have hin : i < a.length := by simpa [icmp] using ht9
    obtain ⟨q, hq⟩ := getx hin
    have hqs := (ha q (List.mem_of_getElem? hq)).ok
    have hl1 : (rt q).num.length ≤ 137438953472 := hqs.2.2.1
    have hl2 : (rt q).den.length ≤ 137438953472 := hqs.2.2.2
    refine awp_skip (hK7 _ ?_)
    refine awp_seq ?_; intro K8 hK8
    refine awp_block ?_
    refine sr fun K9 hK9=>?_
    refine ar0 (s_idxLst (.tmp rfl) (.tmp rfl) T60 rfl T68 rfl (by omega) (getmap hq) rfl) ?_
    refine ar0 (s_loadIptr (.tmp rfl) T68 rfl rfl rfl) ?_
    refine al T68 ?_
    refine sP T68 ?_
    refine hK9 _ ?_
    refine awp_region_draw mixedP ?_
    refine mT ?_
    refine fP T68 ?_
    refine lP T4 ?_
    refine ar (s_buildMs0 T66 rfl T186 rfl rfl rfl) (newOk_of rfl) ?_
    refine fP T68 ?_
    refine lP T66 ?_
    refine ar (s_appendF (.tmp rfl) rfl rfl (.tmp rfl) T66 rfl T186 rfl rfl (by simp only [List.length_map]; omega) rfl rfl) (newOk_of rfl) ?_
    refine ar (s_buildMs0 T66 rfl T186 rfl rfl rfl) (newOk_of rfl) ?_
    refine fP T68 ?_
    refine lP T66 ?_
    refine ar (s_appendF (.tmp rfl) rfl rfl (.tmp rfl) T66 rfl T186 rfl rfl (by simp only [List.length_map]; omega) rfl rfl) (newOk_of rfl) ?_
    refine ar0 (s_build (.cons (.tmp rfl) (.cons (.tmp rfl) (.cons (.tmp rfl) .nil))) T68 rfl rfl rfl rfl rfl) ?_
    refine ar0 (s_buildLst rfl (.cons (.tmp rfl) .nil) T60 rfl T68 rfl rfl rfl rfl rfl rfl rfl rfl) ?_
    refine ar (s_append (.tmp rfl) rfl (by simp; omega) (.tmp rfl) T60 rfl T68 rfl rfl (by simp; omega) rfl rfl) (newOk_of rfl) ?_
    refine aT ?_
    refine ⟨by kernel_rfl, ?_⟩
    refine hK8 _ ?_
    refine awp_weaken (Wk.of (sl := [(3, some (.ms 25 3 0 (i + 1))), (6, some (nA a)), (7, some (i64 a.length)), (8, some (i64 i))]) (hp := [(25, some (.row 3 ((a.take (i + 1)).map qA)))]) (.k (.k (.k (.k .nil)))) (.cons rfl (BlkSub.of (by rw [take_succ_get hq, List.map_append]; rfl)) .nil)) ?_
    refine awp_weaken (Wk.rekey (k := 25) (d := 900) rfl rfl) ?_
    refine awp_region ?_
    refine ar0 (s_arithW (.tmp rfl) (.const _) rfl (i64_add1 (by unfold maxL; omega)) rfl) ?_
    refine mT ?_
    refine hK5 _ ((fun (i : Nat) => (⟨[(3, some (.ms 900 3 0 i)), (6, some (nA a)), (7, some (i64 a.length)), (8, some (i64 i))], [(900, some (.row 3 ((a.take i).map qA)))]⟩ : AS)) (i + 1)) ((fun (i : Nat) => a.length - i) (i + 1)) (Wk.of (.k (.k (.k (.k .nil)))) (.cons rfl (.refl _) .nil)) ⟨i + 1, rfl, hin, rfl⟩ (by first | omega | (dsimp only; omega))
  · have hin : i = a.length := by have : a.length ≤ i := by simpa [icmp] using ht9
                                  omega
    subst hin
    refine awp_exit ?_
    refine hK3 _ ?_
    refine awp_weaken ((Wk.freeze (k := 900) rfl).trans <| Wk.of (sl := [(3, some (nA a))]) (hp := []) (.cons rfl (Sub.of (by rw [fz_all (by simp), List.take_length]; rfl)) .nil) .nil) ?_
    refine sr fun K10 hK10=>?_
    refine mT ?_
    refine aT ?_
    refine hK10 _ ?_
    refine awp_ret ⟨_, (.cons (.tmp rfl) .nil), ?_⟩
    exact fin_eq1 (by rfl)
end Go.Lw
namespace Go.Lw
open Go.Proofs
theorem c_tower_Short {n : Nat} (a : List Rat) (hn : n ≤ 5) (ha : Nl n a) (hs : ∀ q ∈ a, Qs q) : FnC Tryz.prog 100 [nA a] (nA (sh n (dec n a))) := by
 have hl := ha.len5 hn
 rw [← shortL_sh ha hn]
 refine con_of0 (N := 45) (rs := [.tmp 2]) Tryz.func100 rfl rfl rfl rfl ?_
 refine sr fun K1 hK1=>?_
 refine aC ?_
 refine hK1 _ ?_
 refine awp_seq ?_; intro K2 hK2
 refine sr fun K3 hK3=>?_
 refine mT ?_
 refine ar0 (s_call (c_tower_level qA a (by omega)) (.cons (.tmp rfl) .nil) rfl rfl) ?_
 refine aT ?_
 refine hK3 _ ?_
 refine sr fun K4 hK4=>?_
 refine mT ?_
 refine ar0 (s_lenMap (.tmp rfl) T60 rfl rfl) ?_
 refine ar0 (s_cmp (.tmp rfl) (.const _) rfl rfl) ?_
 refine mT ?_
 refine ar0 (s_guard rfl rfl rfl (fun h => s_move (.tmp rfl) rfl)) ?_
 refine ar0 (s_guard rfl rfl rfl (fun h => s_cmp (.opt rfl (o1 h)) (.const _) rfl rfl)) ?_
 refine ar0 (s_guard rfl rfl rfl (fun h => s_move (.opt rfl (o1 h)) rfl)) ?_
 refine ar0 (s_guardO rfl rfl rfl (fun h h2 => s_move (.tmp rfl) rfl)) ?_
 refine ar0 (s_guardO rfl rfl rfl (fun h h2 => s_cmp (.opt rfl (o2 h h2)) (.const _) rfl rfl)) ?_
 refine ar0 (s_guard rfl rfl rfl (fun h => s_pick (.opt rfl (o1 h)) (fun _ => .const _) (fun hp => .opt rfl (o2 (o1 h) hp)) rfl)) ?_
 refine ar0 (s_pick (.tmp rfl) (fun hp => .opt rfl (o1 hp)) (fun _ => .const _) rfl) ?_
 refine hK4 _ ?_
 refine awp_cond (.tmp rfl) (fun ht17 => ?_) (fun ht17 => ?_)
 ·exact absurd ht17 (by rcases ha with rfl | ⟨j, hj, h⟩; (simp [icmp]); (rw [h, lvl_pow]; simp [icmp]; omega))
 ·skip
  refine awp_skip (hK2 _ ?_)
  refine sr fun K5 hK5=>?_
  refine mT ?_
  refine ar0 (s_lenMap (.tmp rfl) T60 rfl rfl) ?_
  refine aT ?_
  refine hK5 _ ?_
  refine awp_seq ?_; intro K6 hK6
  refine awp_block ?_
  refine awp_loop (fun n_ s_ => ∃ (m : Nat), m = n_ ∧ (ShOk a m) ∧ s_ = (⟨[(0, some (nA a)), (4, some (i64 m))], []⟩ : AS))
   (n := ((fun (m : Nat) => m) (a.length))) (s' := ((fun (m : Nat) => (⟨[(0, some (nA a)), (4, some (i64 m))], []⟩ : AS)) (a.length)))
   (Wk.of (.k (.k .nil)) .nil) ⟨a.length, rfl, (sh_init (ha.mono hn)), rfl⟩ ?_
  intro n_ s_ hI K7 hK7
  obtain ⟨m, rfl, hm, rfl⟩ := hI
  refine awp_seq ?_; intro K8 hK8
  refine sr fun K9 hK9=>?_
  refine mT ?_
  refine ar0 (s_cmp (.tmp rfl) (.const _) rfl rfl) ?_
  refine mT ?_
  refine ar0 (s_guard rfl rfl rfl (fun h => s_move (.tmp rfl) rfl)) ?_
  refine ar0 (s_guard rfl rfl rfl (fun h => s_move (.tmp rfl) rfl)) ?_
  refine ar0 (s_guard rfl rfl rfl (fun h => s_quoW (.opt rfl (o1 h)) (.const _) (by omega) (i64_half (by have := hm.le; omega)) rfl)) ?_
  refine ar0 (s_guard rfl rfl rfl (fun h => s_move (.tmp rfl) rfl)) ?_
  refine ar0 (s_guard rfl rfl rfl (fun h => s_sliceLst (.opt rfl (o1 h)) (.some _ (.opt rfl (o1 h)) (by omega)) (.some _ (.opt rfl (o1 h)) (by omega)) T60 rfl T68 rfl (by omega) (by have := hm.le; simp; omega) rfl)) ?_
  refine ar0 (s_guard rfl rfl rfl (fun h => s_call (by have h9 := c_tower_empty ((a.drop (m / 2)).take (m - m / 2)) (by simp; omega); rw [← nA_cut] at h9; exact h9) (.cons (.opt rfl (o1 h)) .nil) rfl rfl)) ?_
  refine ar0 (s_pick (.tmp rfl) (fun hp => .opt rfl (o1 hp)) (fun _ => .const _) rfl) ?_
  refine hK9 _ ?_
  refine awp_cond (.tmp rfl) (fun ht31 => ?_) (fun ht31 => ?_)
  ·have h1 : 1 < m ∧ zeroL ((a.drop (m / 2)).take (m - m / 2)) = true := by
    have h9 := ht31
    by_cases h : (m : Int) > 1
    ·simp only [icmp, decide_eq_true h, cond_true] at h9; exact ⟨by omega, h9⟩
    ·simp only [icmp, decide_eq_false h, cond_false] at h9; cases h9
   refine awp_skip (hK8 _ ?_)
   refine awp_block ?_
   refine awp_region ?_
   refine mT ?_
   refine ar0 (s_quoW (.tmp rfl) (.const _) (by omega) (i64_half (by have := hm.le; omega)) rfl) ?_
   refine aT ?_
   refine hK7 _ ((fun (m : Nat) => (⟨[(0, some (nA a)), (4, some (i64 m))], []⟩ : AS)) (m / 2)) ((fun (m : Nat) => m) (m / 2)) (Wk.of (.k (.k .nil)) .nil) ⟨m / 2, rfl, (sh_step hm h1.1 h1.2), rfl⟩ (by first | omega | (dsimp only; omega))
  ·have h1 : 1 < m → zeroL ((a.drop (m / 2)).take (m - m / 2)) = false := by
    intro h
    have h9 := ht31
    simp only [icmp, decide_eq_true (show (m : Int) > 1 by omega), cond_true] at h9
    exact h9
   refine awp_exit ?_
   refine hK6 _ ?_
   refine awp_seq ?_; intro K10 hK10
   refine sr fun K11 hK11=>?_
   refine mT ?_
   refine ar0 (s_cmp (.tmp rfl) (.const _) rfl rfl) ?_
   refine mT ?_
   refine ar0 (s_guard rfl rfl rfl (fun h => s_move (.tmp rfl) rfl)) ?_
   refine ar0 (s_guard rfl rfl rfl (fun h => s_sliceLst (.opt rfl (o1 h)) (.none _) (.some _ (.const _) (by omega)) T60 rfl T68 rfl (by omega) (by have h8 : (m : Int) = 1 := (by simpa [icmp] using h); have := hm.le; simp only [List.length_map]; omega) rfl)) ?_
   refine ar0 (s_guard rfl rfl rfl (fun h => s_call (by have h9 := c_tower_empty ((a.drop 0).take 1) (by simp; omega); rw [← nA_cut] at h9; exact h9) (.cons (.opt rfl (o1 h)) .nil) rfl rfl)) ?_
   refine ar0 (s_pick (.tmp rfl) (fun hp => .opt rfl (o1 hp)) (fun _ => .const _) rfl) ?_
   refine hK11 _ ?_
   refine awp_cond (.tmp rfl) (fun ht40 => ?_) (fun ht40 => ?_)
   ·have h2 : m = 1 ∧ zeroL (a.take 1) = true := by
     have h9 := ht40
     by_cases h : m = 1
     ·rw [h] at h9; exact ⟨h, h9⟩
     ·rw [show icmp .eql (m : Int) 1 = false by simp [icmp]; omega] at h9; cases h9
    obtain ⟨rfl, h3⟩ := h2
    refine sr fun K12 hK12=>?_
    refine aC ?_
    refine hK12 _ ?_
    refine awp_ret ⟨_, (.cons (.tmp rfl) .nil), ?_⟩
    exact fin_sub1 (by rw [sh_end1 hm h3]; exact Sub.nil _ _ _)
   ·have h2 : m = 1 → zeroL (a.take 1) = false := by
     intro h
     have h9 := ht40
     rw [h] at h9; exact h9
    have h3 := sh_end2 hm h1 h2
    refine awp_skip (hK10 _ ?_)
    refine sr fun K13 hK13=>?_
    refine mT ?_
    refine mT ?_
    refine ar0 (s_sliceLst (.tmp rfl) (.none _) (.some _ (.tmp rfl) (by omega)) T60 rfl T68 rfl (by omega) (by have := hm.le; simp; omega) rfl) ?_
    refine ar0 (s_call (by have h9 := c_tower_copied ((a.drop 0).take m) (fun q hq => hs q (List.mem_of_mem_drop (List.mem_of_mem_take hq))) (by simp; omega); have h8 := h9; rw [← nA_cut] at h9; exact h9) (.cons (.tmp rfl) .nil) rfl rfl) ?_
    refine aT ?_
    refine hK13 _ ?_
    refine awp_ret ⟨_, (.cons (.tmp rfl) .nil), ?_⟩
    exact fin_eq1 (by
     rw [h3]
     simp [nA, List.map_take])
theorem c_tower_wideO (d : Nat) (hd : Nat.blt d 1000 = true) (a : List Rat) (n : Nat) (hl : a.length ≤ n) (hn : n ≤ 1099511627776) :
  Con Tryz.prog 162 [nA a, i64 n] [] (.ms d 3 0 n) [(d, some (.row 3 ((wideL a n).map qA)))] := by
 refine con_of (N := 12) (rs := [.tmp 4]) Tryz.func162 rfl rfl rfl rfl (fun k z h => by cases h) ?_
 refine sr fun K1 hK1=>?_
 refine aC ?_
 refine hK1 _ ?_
 refine sr fun K2 hK2=>?_
 refine mT ?_
 refine ar (s_make (.tmp rfl) T60 rfl T68 rfl rfl (by omega) (by dsimp only; omega) rfl) (newOk_of rfl) ?_
 refine aT ?_
 refine hK2 _ ?_
 refine sr fun K3 hK3=>?_
 refine mT ?_
 refine mT ?_
 refine ar (s_copy (.tmp rfl) rfl (by simp) (.tmp rfl) T60 rfl T68 rfl rfl (by simp; omega) rfl) (newOk_of rfl) ?_
 refine hK3 _ ?_
 refine awp_weaken (Wk.of (sl := [(5, some (.ms 7 3 0 n))]) (hp := [(7, some (.row 3 ((wideL a n).map qA)))]) (.cons rfl (Sub.of (by simp)) .nil) (.cons rfl (wide_row a n hl) .nil)) ?_
 refine sr fun K4 hK4=>?_
 refine mT ?_
 refine aT ?_
 refine hK4 _ ?_
 refine awp_ret ⟨_, (.cons (.tmp rfl) .nil), ?_⟩
 exact Fin.own1 rfl hd rfl
theorem c_tower_wide (a : List Rat) (n : Nat) (hl : a.length ≤ n) (hn : n ≤ 1099511627776) : FnC Tryz.prog 162 [nA a, i64 n] (nA (wideL a n)) := by
 have h := Con.freeze (by rw [List.length_map, len_wide hl]; omega) (c_tower_wideO 0 rfl a n hl hn)
 rw [List.drop_zero, List.take_of_length_le (by rw [List.length_map, len_wide hl]; exact Nat.le_refl _)] at h
 exact h
theorem c_tower_plus (a b : List Rat) (ha : ∀ q ∈ a, Qs q) (hb : ∀ q ∈ b, Qs q) (la : a.length ≤ 1099511627776) (lb : b.length ≤ 1099511627776) : FnC Tryz.prog 102 [nA a, nA b] (nA (plusL a b)) := by
  obtain ⟨n, hn⟩ : ∃ n, n = max a.length b.length := ⟨_, rfl⟩
  have hwa := len_wide (show a.length ≤ n by omega)
  have hwb := len_wide (show b.length ≤ n by omega)
  have hp := len_plus (a := a) (b := b)
  rw [← hn] at hp
  have qa : ∀ q ∈ wideL a n, Qs q := fun q hq => by rcases List.mem_append.1 hq with h | h; exact ha q h; (rw [(List.mem_replicate.1 h).2]; exact Qs.zero)
  have qb : ∀ q ∈ wideL b n, Qs q := fun q hq => by rcases List.mem_append.1 hq with h | h; exact hb q h; (rw [(List.mem_replicate.1 h).2]; exact Qs.zero)
  refine con_of0 (N := 37) (rs := [.tmp 4]) Tryz.func102 rfl rfl rfl rfl ?_
  refine sr fun K1 hK1=>?_
  refine aC ?_
  refine hK1 _ ?_
  refine sr fun K2 hK2=>?_
  refine mT ?_
  refine ar0 (s_lenMap (.tmp rfl) T60 rfl rfl) ?_
  refine mT ?_
  refine ar0 (s_lenMap (.tmp rfl) T60 rfl rfl) ?_
  refine ar0 (s_max (.tmp rfl) (.tmp rfl) rfl) ?_
  refine aT ?_
  refine hK2 _ ?_
  refine awp_weaken (Wk.of (sl := [(0, some (nA a)), (1, some (nA b)), (5, some (i64 n))]) (hp := []) (.cons rfl (.refl _) (.cons rfl (.refl _) (.cons rfl (Sub.int (by omega)) .nil))) .nil) ?_
  refine sr fun K3 hK3=>?_
  refine mT ?_
  refine mT ?_
  refine ar (s_callH (c_tower_wideO 900 rfl a n (by omega) (by omega)) (.cons (.tmp rfl) (.cons (.tmp rfl) .nil)) (by first | exact hH0 | exact hH1 rfl | exact hH2 rfl rfl) rfl rfl) (newOk_of rfl) ?_
  refine mT ?_
  refine mT ?_
  refine ar0 (s_call (c_tower_wide b n (by omega) (by omega)) (.cons (.tmp rfl) (.cons (.tmp rfl) .nil)) rfl rfl) ?_
  refine aT ?_
  refine aT ?_
  refine hK3 _ ?_
  refine awp_seq ?_; intro K4 hK4
  refine sr fun K5 hK5=>?_
  refine mT ?_
  refine ar0 (s_lenMs (.tmp rfl) T60 rfl rfl) ?_
  refine ar0 (s_move (.const _) rfl) ?_
  refine hK5 _ ?_
  refine awp_block ?_
  refine awp_loop (fun n_ s_ => ∃ (i : Nat), n - i = n_ ∧ (i ≤ n) ∧ s_ = (⟨[(0, some (.ms 900 3 0 n)), (1, some (nA (wideL b n))), (19, some (i64 n)), (20, some (i64 i))], [(900, some (.row 3 (((plusL a b).take i ++ (wideL a n).drop i).map qA)))]⟩ : AS))
    (n := ((fun (i : Nat) => n - i) (0))) (s' := ((fun (i : Nat) => (⟨[(0, some (.ms 900 3 0 n)), (1, some (nA (wideL b n))), (19, some (i64 n)), (20, some (i64 i))], [(900, some (.row 3 (((plusL a b).take i ++ (wideL a n).drop i).map qA)))]⟩ : AS)) (0)))
    (Wk.of (.k (.k (.k (.k .nil)))) (.cons rfl (.refl _) .nil)) ⟨0, rfl, Nat.zero_le _, rfl⟩ ?_
  intro n_ s_ hI K6 hK6
  obtain ⟨i, rfl, hi, rfl⟩ := hI
  refine sr fun K7 hK7=>?_
  refine ar0 (s_cmp (.tmp rfl) (.tmp rfl) rfl rfl) ?_
  refine hK7 _ ?_
  refine awp_seq ?_; intro K8 hK8
  refine awp_cond (.tmp rfl) (fun ht21 => ?_) (fun ht21 => ?_)
  · have hin : i < n := by simpa [icmp] using ht21
    have hmx := mix_get (p := plusL a b) (w := wideL a n) (i := i) (by omega) (by omega)
    have hqa := (qa _ (getD_mem (i := i) (by omega))).ok
    have hqb := (qb _ (getD_mem (i := i) (by omega))).ok
    refine awp_skip (hK8 _ ?_)
    refine awp_seq ?_; intro K9 hK9
    refine awp_block ?_
    refine sr fun K10 hK10=>?_
    refine mT ?_
    refine aT ?_
    refine hK10 _ ?_
    refine awp_region_draw mixedP ?_
    refine mT ?_
    refine mT ?_
    refine mT ?_
    refine mT ?_
    refine ar0 (s_idxMs0 (n := i) (.tmp rfl) (.tmp rfl) T60 rfl T68 rfl (by omega) (by omega) rfl) ?_
    refine ar0 (s_loadEptr (.tmp rfl) rfl (getmap hmx) T68 rfl rfl rfl) ?_
    refine mT ?_
    refine mT ?_
    refine ar0 (s_idxLst (.tmp rfl) (.tmp rfl) T60 rfl T68 rfl (by omega) (getmap (getD_some (i := i) (l := wideL b n) (by omega))) rfl) ?_
    refine ar0 (s_loadIptr (.tmp rfl) T68 rfl rfl rfl) ?_
    refine ar0 (s_call (c_fraction_Add (rt ((wideL a n).getD i 0)) (rt ((wideL b n).getD i 0)) hqa hqb) (.cons (.tmp rfl) (.cons (.tmp rfl) .nil)) rfl rfl) ?_
    refine ar0 (s_idxMs0 (n := i) (.tmp rfl) (.tmp rfl) T60 rfl T68 rfl (by omega) (by omega) rfl) ?_
    refine ar (s_stElem (.tmp rfl) rfl (getmap hmx) rfl (.tmp rfl) rfl rfl T68 rfl rfl) (newOk_of rfl) ?_
    refine ⟨by kernel_rfl, ?_⟩
    refine hK9 _ ?_
    refine awp_weaken (Wk.of (sl := [(0, some (.ms 900 3 0 n)), (1, some (nA (wideL b n))), (19, some (i64 n)), (20, some (i64 i))]) (hp := [(900, some (.row 3 (((plusL a b).take (i + 1) ++ (wideL a n).drop (i + 1)).map qA)))]) (.k (.k (.k (.k .nil)))) (.cons rfl (BlkSub.of (by rw [set_step (by omega) (by omega) (by rw [plus_get, ← hn, rt_q, rt_q])])) .nil)) ?_
    refine awp_region ?_
    refine ar0 (s_arithW (.tmp rfl) (.const _) rfl (i64_add1 (by unfold maxL; omega)) rfl) ?_
    refine mT ?_
    refine hK6 _ ((fun (i : Nat) => (⟨[(0, some (.ms 900 3 0 n)), (1, some (nA (wideL b n))), (19, some (i64 n)), (20, some (i64 i))], [(900, some (.row 3 (((plusL a b).take i ++ (wideL a n).drop i).map qA)))]⟩ : AS)) (i + 1)) ((fun (i : Nat) => n - i) (i + 1)) (Wk.of (.k (.k (.k (.k .nil)))) (.cons rfl (.refl _) .nil)) ⟨i + 1, rfl, hin, rfl⟩ (by first | omega | (dsimp only; omega))
  · have hin : i = n := by have : n ≤ i := by simpa [icmp] using ht21
                           omega
    refine awp_exit ?_
    refine hK4 _ ?_
    refine awp_weaken ((Wk.freeze (k := 900) rfl).trans <| Wk.of (sl := [(0, some (nA (plusL a b)))]) (hp := []) (.cons rfl (Sub.of (by rw [fz_all (by simp; omega), hin, List.drop_of_length_le (by omega), List.take_of_length_le (by omega), List.append_nil]; rfl)) .nil) .nil) ?_
    refine sr fun K11 hK11=>?_
    refine mT ?_
    refine aT ?_
    refine hK11 _ ?_
    refine awp_ret ⟨_, (.cons (.tmp rfl) .nil), ?_⟩
    exact fin_eq1 (by rfl)
theorem c_tower_minus (a : List Rat) (ha : ∀ q ∈ a, Qs q) (la : a.length ≤ 1099511627776) : FnC Tryz.prog 101 [nA a] (nA (minusL a)) := by
  obtain ⟨n, hn⟩ : ∃ n, n = a.length := ⟨_, rfl⟩
  refine con_of0 (N := 23) (rs := [.tmp 2]) Tryz.func101 rfl rfl rfl rfl ?_
  refine sr fun K1 hK1=>?_
  refine aC ?_
  refine hK1 _ ?_
  refine sr fun K2 hK2=>?_
  refine mT ?_
  refine ar0 (s_lenMap (.tmp rfl) T60 rfl rfl) ?_
  refine ar (s_make (.tmp rfl) T60 rfl T68 rfl rfl (by omega) (by dsimp only; omega) rfl) (newOk_of rfl) ?_
  refine aT ?_
  refine hK2 _ ?_
  refine awp_weaken (Wk.of (sl := [(0, some (nA a)), (3, some (.ms 7 3 0 n))]) (hp := [(7, some (.row 3 ((wideL [] n).map qA)))]) (.k (.cons rfl (Sub.of (by simp [hn])) .nil)) (.cons rfl (BlkSub.of_ (wide_row [] n (by simp)) (by rw [hn]; rfl)) .nil)) ?_
  refine awp_seq ?_; intro K3 hK3
  refine sr fun K4 hK4=>?_
  refine mT ?_
  refine ar0 (s_lenMap (.tmp rfl) T60 rfl rfl) ?_
  refine ar0 (s_move (.const _) rfl) ?_
  refine hK4 _ ?_
  refine awp_block ?_
  refine awp_loop (fun n_ s_ => ∃ (i : Nat), n - i = n_ ∧ (i ≤ n) ∧ s_ = (⟨[(0, some (nA a)), (3, some (.ms 7 3 0 n)), (9, some (i64 n)), (10, some (i64 i))], [(7, some (.row 3 (((minusL a).take i ++ (wideL [] n).drop i).map qA)))]⟩ : AS))
    (n := ((fun (i : Nat) => n - i) (0))) (s' := ((fun (i : Nat) => (⟨[(0, some (nA a)), (3, some (.ms 7 3 0 n)), (9, some (i64 n)), (10, some (i64 i))], [(7, some (.row 3 (((minusL a).take i ++ (wideL [] n).drop i).map qA)))]⟩ : AS)) (0)))
    (Wk.of (.k (.k (.cons rfl (Sub.int (by omega)) (.k .nil)))) (.cons rfl (.refl _) .nil)) ⟨0, rfl, Nat.zero_le _, rfl⟩ ?_
  intro n_ s_ hI K5 hK5
  obtain ⟨i, rfl, hi, rfl⟩ := hI
  refine sr fun K6 hK6=>?_
  refine ar0 (s_cmp (.tmp rfl) (.tmp rfl) rfl rfl) ?_
  refine hK6 _ ?_
  refine awp_seq ?_; intro K7 hK7
  refine awp_cond (.tmp rfl) (fun ht11 => ?_) (fun ht11 => ?_)
  · have hin : i < n := by simpa [icmp] using ht11
    have hm1 := len_minus (a := a)
    have hm2 := len_wide (a := []) (n := n) (by simp)
    have hmx := mix_get (p := minusL a) (w := wideL [] n) (i := i) (by omega) (by omega)
    have hqa := (ha _ (getD_mem (i := i) (by omega))).ok
    refine awp_skip (hK7 _ ?_)
    refine awp_seq ?_; intro K8 hK8
    refine awp_block ?_
    refine sr fun K9 hK9=>?_
    refine mT ?_
    refine aT ?_
    refine hK9 _ ?_
    refine awp_region ?_
    refine mT ?_
    refine mT ?_
    refine mT ?_
    refine mT ?_
    refine ar0 (s_idxLst (.tmp rfl) (.tmp rfl) T60 rfl T68 rfl (by omega) (getmap (getD_some (i := i) (by omega))) rfl) ?_
    refine ar0 (s_loadIptr (.tmp rfl) T68 rfl rfl rfl) ?_
    refine ar0 (s_call (c_fraction_Neg (rt (a.getD i 0)) hqa) (.cons (.tmp rfl) .nil) rfl rfl) ?_
    refine ar0 (s_idxMs0 (n := i) (.tmp rfl) (.tmp rfl) T60 rfl T68 rfl (by omega) (by omega) rfl) ?_
    refine ar (s_stElem (.tmp rfl) rfl (getmap hmx) rfl (.tmp rfl) rfl rfl T68 rfl rfl) (newOk_of rfl) ?_
    refine hK8 _ ?_
    refine awp_weaken (Wk.of (sl := [(0, some (nA a)), (3, some (.ms 7 3 0 n)), (9, some (i64 n)), (10, some (i64 i))]) (hp := [(7, some (.row 3 (((minusL a).take (i + 1) ++ (wideL [] n).drop (i + 1)).map qA)))]) (.k (.k (.k (.k .nil)))) (.cons rfl (BlkSub.of (by rw [set_step (by omega) (by omega) (by rw [minus_get, rt_q])])) .nil)) ?_
    refine awp_region ?_
    refine ar0 (s_arithW (.tmp rfl) (.const _) rfl (i64_add1 (by unfold maxL; omega)) rfl) ?_
    refine mT ?_
    refine hK5 _ ((fun (i : Nat) => (⟨[(0, some (nA a)), (3, some (.ms 7 3 0 n)), (9, some (i64 n)), (10, some (i64 i))], [(7, some (.row 3 (((minusL a).take i ++ (wideL [] n).drop i).map qA)))]⟩ : AS)) (i + 1)) ((fun (i : Nat) => n - i) (i + 1)) (Wk.of (.k (.k (.k (.k .nil)))) (.cons rfl (.refl _) .nil)) ⟨i + 1, rfl, hin, rfl⟩ (by first | omega | (dsimp only; omega))
  · have hin : i = n := by have : n ≤ i := by simpa [icmp] using ht11
                           omega
    have hm1 := len_minus (a := a)
    have hm2 := len_wide (a := []) (n := n) (by simp)
    refine awp_exit ?_
    refine hK3 _ ?_
    refine awp_weaken ((Wk.freeze (k := 7) rfl).trans <| Wk.of (sl := [(3, some (nA (minusL a)))]) (hp := []) (.cons rfl (Sub.of (by rw [fz_all (by simp; omega), hin, List.drop_of_length_le (by omega), List.take_of_length_le (by omega), List.append_nil]; rfl)) .nil) .nil) ?_
    refine sr fun K10 hK10=>?_
    refine mT ?_
    refine aT ?_
    refine hK10 _ ?_
    refine awp_ret ⟨_, (.cons (.tmp rfl) .nil), ?_⟩
    exact fin_eq1 (by rfl)
theorem c_tower_join (a b : List Rat) (n : Nat) (la : a.length ≤ n) (lb : b.length ≤ n) (hn : n ≤ 274877906944) : FnC Tryz.prog 245 [nA a, nA b, i64 n] (nA (joinL a b n)) := by
 refine con_of0 (N := 14) (rs := [.tmp 6]) Tryz.func245 rfl rfl rfl rfl ?_
 refine sr fun K1 hK1=>?_
 refine aC ?_
 refine hK1 _ ?_
 refine sr fun K2 hK2=>?_
 refine mT ?_
 refine mT ?_
 refine ar (s_callH (c_tower_wideO 900 rfl a n la (by omega)) (.cons (.tmp rfl) (.cons (.tmp rfl) .nil)) (by first | exact hH0 | exact hH1 rfl | exact hH2 rfl rfl) rfl rfl) (newOk_of rfl) ?_
 refine mT ?_
 refine mT ?_
 refine ar0 (s_call (c_tower_wide b n lb (by omega)) (.cons (.tmp rfl) (.cons (.tmp rfl) .nil)) rfl rfl) ?_
 refine ar (s_appendF (.tmp rfl) rfl (by simp [len_wide la]) (.tmp rfl) T60 rfl T68 rfl rfl (by simp [len_wide lb]; omega) rfl rfl) (newOk_of rfl) ?_
 refine aT ?_
 refine hK2 _ ?_
 refine awp_ret ⟨_, (.cons (.tmp rfl) .nil), ?_⟩
 exact fin_eq1 (by rw [← List.map_append]; rfl)
end Go.Lw
namespace Go.Lw
open Go.Proofs
theorem c_tower_times (ts : List (List Rat)) (m r : Nat) (ht : TsOk ts m r) (hm : m ≤ 5) (hml : m ≤ ts.length) (k : Nat) : ∀ (j : Nat) (a b : List Rat) (e f : Nat), j ≤ m → j ≤ k → Nl j a → Nl j b → Cb e a → Cb f b → e + f + eB r j < 4398046511104 →
  FnC Tryz.prog 212 [towA ts, nA a, nA b] (nA (pT ts k a b)) := by
 induction k using Nat.strongRecOn
 rename_i k ih
 intro j a b e f hj hjk ha hb ca cb hs
 have hla := ha.len5 (by omega)
 have hlb := hb.len5 (by omega)
 refine con_of0 (N := 100) (rs := [.tmp 6]) Tryz.func212 rfl rfl rfl rfl ?_
 refine sr fun K1 hK1=>?_
 refine bX ?_
 refine aC ?_
 refine hK1 _ ?_
 refine awp_seqJ (fun s_ => ∃ (x y : List Rat) (e1 f1 : Nat), (y.length ≤ x.length ∧ Nl j x ∧ Nl j y ∧ Cb e1 x ∧ Cb f1 y ∧ e1 + f1 = e + f ∧ pT ts k a b = pT ts k x y) ∧ s_ = (⟨[(1, some (nA x)), (2, some (nA y)), (3, some (.ptr 3 0))], [(3, some (.box [.lst 1 (ts.map nA)]))]⟩ : AS)) ?_ ?_
 ·intro K2 hK2
  refine sr fun K3 hK3=>?_
  refine mT ?_
  refine ar0 (s_lenMap (.tmp rfl) T60 rfl rfl) ?_
  refine mT ?_
  refine ar0 (s_lenMap (.tmp rfl) T60 rfl rfl) ?_
  refine ar0 (s_cmp (.tmp rfl) (.tmp rfl) rfl rfl) ?_
  refine hK3 _ ?_
  refine awp_cond (.tmp rfl) (fun ht18 => ?_) (fun ht18 => ?_)
  ·have h1 : a.length < b.length := by have := ht18; simp only [icmp, decide_eq_true_eq] at this; omega
   refine awp_region ?_
   refine mT ?_
   refine mT ?_
   refine aT ?_
   refine aT ?_
   exact hK2 _ ((fun (x y : List Rat) (e1 f1 : Nat) => (⟨[(1, some (nA x)), (2, some (nA y)), (3, some (.ptr 3 0))], [(3, some (.box [.lst 1 (ts.map nA)]))]⟩ : AS)) (b) (a) (f) (e)) (Wk.of (.k (.k (.k .nil))) (.cons rfl (.refl _) .nil)) ⟨b, a, f, e, ⟨by omega, hb, ha, cb, ca, by omega, pT_comm ts k a b h1⟩, rfl⟩
  ·have h1 : b.length ≤ a.length := by have := ht18; simp only [icmp, decide_eq_false_iff_not] at this; omega
   refine awp_skip ?_
   exact hK2 _ ((fun (x y : List Rat) (e1 f1 : Nat) => (⟨[(1, some (nA x)), (2, some (nA y)), (3, some (.ptr 3 0))], [(3, some (.box [.lst 1 (ts.map nA)]))]⟩ : AS)) (a) (b) (e) (f)) (Wk.of (.k (.k (.k .nil))) (.cons rfl (.refl _) .nil)) ⟨a, b, e, f, ⟨h1, ha, hb, ca, cb, rfl, rfl⟩, rfl⟩
 ·rintro s_ ⟨x, y, e1, f1, ⟨hyx, hx, hy, cx, cy, hef, hp⟩, rfl⟩
  have hlx := hx.len5 (by omega)
  have hly := hy.len5 (by omega)
  have qx : ∀ q ∈ x, Qs q := fun q hq => cx.qs (by omega) hq
  have qy : ∀ q ∈ y, Qs q := fun q hq => cy.qs (by omega) hq
  rw [hp]
  refine awp_seq ?_; intro K4 hK4
  refine awp_block ?_
  refine sr fun K5 hK5=>?_
  refine mT ?_
  refine ar0 (s_call (c_tower_zero x qx (by omega)) (.cons (.tmp rfl) .nil) rfl rfl) ?_
  refine mT ?_
  refine ar0 (s_guard rfl rfl rfl (fun h => s_move (.tmp rfl) rfl)) ?_
  refine ar0 (s_guard rfl rfl rfl (fun h => s_call (c_tower_zero y qy (by omega)) (.cons (.opt rfl (o1 h)) .nil) rfl rfl)) ?_
  refine ar0 (s_pick (.tmp rfl) (fun _ => .const _) (fun hp => .opt rfl (o1 hp)) rfl) ?_
  refine aT ?_
  refine hK5 _ ?_
  refine awp_cond (.tmp rfl) (fun ht21 => ?_) (fun ht21 => ?_)
  ·have h1 : zeroL x = true ∨ zeroL y = true := by
    have := ht21
    cases hz : zeroL x
    ·rw [hz] at this; exact .inr this
    ·exact .inl rfl
   refine sr fun K6 hK6=>?_
   refine aC ?_
   refine hK6 _ ?_
   refine awp_ret ⟨_, (.cons (.tmp rfl) .nil), ?_⟩
   exact fin_sub1 (by rw [pT_zero hyx h1]; exact Sub.nil _ _ _)
  ·have h1 : ¬ (zeroL x = true ∨ zeroL y = true) := by
    have := ht21
    cases hz : zeroL x
    ·rw [hz] at this; intro h; rcases h with h | h; cases h; (rw [show zeroL y = false from this] at h; cases h)
    ·rw [hz] at this; cases this
   refine sr fun K7 hK7=>?_
   refine mT ?_
   refine ar0 (s_lenMap (.tmp rfl) T60 rfl rfl) ?_
   refine ar0 (s_cmp (.tmp rfl) (.const _) rfl rfl) ?_
   refine aT ?_
   refine hK7 _ ?_
   refine awp_cond (.tmp rfl) (fun ht28 => ?_) (fun ht28 => ?_)
   ·have h2 : x.length = 1 := by have := ht28; simp only [icmp, beq_iff_eq] at this; omega
    obtain ⟨p, rfl⟩ := List.length_eq_one_iff.1 h2
    have h3 : y ≠ [] := fun h => h1 (.inr (by rw [h]; rfl))
    obtain ⟨q, rfl⟩ : ∃ q, y = [q] := List.length_eq_one_iff.1 (by have := List.length_pos_iff.2 h3; simp at hyx; omega)
    refine awp_seq ?_; intro K8 hK8
    refine awp_region_draw mixedP ?_
    refine mT ?_
    refine ar0 (s_idxLst (.tmp rfl) (.const _) T60 rfl T68 rfl (by omega) rfl rfl) ?_
    refine ar0 (s_loadIptr (.tmp rfl) T68 rfl rfl rfl) ?_
    refine mT ?_
    refine ar0 (s_idxLst (.tmp rfl) (.const _) T60 rfl T68 rfl (by omega) rfl rfl) ?_
    refine ar0 (s_loadIptr (.tmp rfl) T68 rfl rfl rfl) ?_
    refine ar0 (s_call (c_fraction_Mul (rt p) (rt q) (qx p (by simp)).ok (qy q (by simp)).ok) (.cons (.tmp rfl) (.cons (.tmp rfl) .nil)) rfl rfl) ?_
    refine ar0 (s_buildLst rfl (.cons (.tmp rfl) .nil) T60 rfl T68 rfl rfl rfl rfl rfl rfl rfl rfl) ?_
    refine aT ?_
    refine ⟨by kernel_rfl, ?_⟩
    refine hK8 _ ?_
    refine awp_ret ⟨_, (.cons (.tmp rfl) .nil), ?_⟩
    exact fin_eq1 (by rw [pT_one h1, rt_q, rt_q]; rfl)
   ·have h2 : x.length ≠ 1 := by have := ht28; simp only [icmp, beq_eq_false_iff_ne, ne_eq] at this; omega
    have h3 : x ≠ [] := fun h => h1 (.inl (by rw [h]; rfl))
    obtain ⟨i, hij, hxl⟩ : ∃ i, i + 1 ≤ j ∧ x.length = 2 ^ (i + 1) := by
     rcases nl_cases hx with h | h | h
     ·exact absurd (List.length_eq_zero_iff.1 h) h3
     ·exact absurd h h2
     ·exact h
    obtain ⟨k', rfl⟩ : ∃ k', k = k' + 1 := ⟨k - 1, by omega⟩
    have hp2 := Nat.two_pow_pos i
    have hpi : 2 ^ i ≤ 32 := pow_le2 (b := 5) (by omega)
    have hps : 2 ^ (i + 1) = 2 * 2 ^ i := by rw [Nat.pow_succ]; omega
    have hes : eB r (i + 1) ≤ eB r j := eB_lev r hij
    have hee : eB r (i + 1) = 2 * eB r i + r + 2 := rfl
    have n1 : Nl i (x.take (2 ^ i)) := .inr ⟨i, Nat.le_refl _, nl_take hxl⟩
    have n2 : Nl i (x.drop (2 ^ i)) := .inr ⟨i, Nat.le_refl _, nl_drop hxl⟩
    refine awp_skip (hK4 _ ?_)
    refine sr fun K9 hK9=>?_
    refine mT ?_
    refine ar0 (s_lenMap (.tmp rfl) T60 rfl rfl) ?_
    refine ar0 (s_quoW (.tmp rfl) (.const _) (by omega) (show _ = ((2 ^ i : Nat) : Int) by rw [i64_half (by omega), hxl, half_pow]) rfl) ?_
    refine aT ?_
    refine hK9 _ ?_
    refine awp_seq ?_; intro K10 hK10
    refine awp_region_draw mixedP ?_
    refine mT ?_
    refine mT ?_
    refine ar0 (s_sliceLst (.tmp rfl) (.none _) (.some _ (.tmp rfl) (by omega)) T60 rfl T68 rfl (by omega) (by simp only [List.length_map]; omega) rfl) ?_
    refine mT ?_
    refine mT ?_
    refine ar0 (s_sliceLst (.tmp rfl) (.some _ (.tmp rfl) (by omega)) (.none _) T60 rfl T68 rfl (by simp only [List.length_map]; omega) (by omega) rfl) ?_
    refine aT ?_
    refine aT ?_
    refine ⟨by kernel_rfl, ?_⟩
    refine hK10 _ ?_
    refine awp_weaken (Wk.of (sl := [(1, some (nA x)), (2, some (nA y)), (3, some (.ptr 3 0)), (7, some (i64 ((2 ^ i : Nat) : Int))), (8, some (nA (x.take (2 ^ i)))), (9, some (nA (x.drop (2 ^ i))))]) (hp := [(3, some (.box [.lst 1 (ts.map nA)]))]) (.k (.k (.k (.k (.cons rfl (Sub.of (cut_low x (2 ^ i))) (.cons rfl (Sub.of (cut_high x (2 ^ i))) .nil)))))) (.cons rfl (.refl _) .nil)) ?_
    refine awp_seq ?_; intro K11 hK11
    refine sr fun K12 hK12=>?_
    refine mT ?_
    refine ar0 (s_lenMap (.tmp rfl) T60 rfl rfl) ?_
    refine mT ?_
    refine ar0 (s_cmp (.tmp rfl) (.tmp rfl) rfl rfl) ?_
    refine hK12 _ ?_
    refine awp_cond (.tmp rfl) (fun ht52 => ?_) (fun ht52 => ?_)
    ·have h4 : y.length ≤ 2 ^ i := by have := ht52; simp only [icmp, decide_eq_true_eq] at this; omega
     have n3 : Nl i y := nl_of_len hy h4
     have s1 := pT_spec ts m ht.1 i k' _ _ (by omega) (by omega) n1 n3
     have s2 := pT_spec ts m ht.1 i k' _ _ (by omega) (by omega) n2 n3
     refine awp_seq ?_; intro K13 hK13
     refine awp_region_draw mixedP ?_
     refine lP T30 ?_
     refine mT ?_
     refine mT ?_
     refine ar0 (s_call (ih k' (by omega) i _ _ e1 f1 (by omega) (by omega) n1 n3 cx.take cy (by omega)) (.cons (.tmp rfl) (.cons (.tmp rfl) (.cons (.tmp rfl) .nil))) rfl rfl) ?_
     refine lP T30 ?_
     refine mT ?_
     refine mT ?_
     refine ar0 (s_call (ih k' (by omega) i _ _ e1 f1 (by omega) (by omega) n2 n3 cx.drop cy (by omega)) (.cons (.tmp rfl) (.cons (.tmp rfl) (.cons (.tmp rfl) .nil))) rfl rfl) ?_
     refine mT ?_
     refine ar0 (s_call (c_tower_join _ _ (2 ^ i) s1.1.le s2.1.le (by omega)) (.cons (.tmp rfl) (.cons (.tmp rfl) (.cons (.tmp rfl) .nil))) rfl rfl) ?_
     refine aT ?_
     refine ⟨by kernel_rfl, ?_⟩
     refine hK13 _ ?_
     refine awp_ret ⟨_, (.cons (.tmp rfl) .nil), ?_⟩
     exact fin_eq1 (by rw [pT_half hxl h4 h1])
    ·have h4 : ¬ y.length ≤ 2 ^ i := by have := ht52; simp only [icmp, decide_eq_false_iff_not] at this; omega
     have hyl := nl_full hy h4 (by omega)
     have n3 : Nl i (y.take (2 ^ i)) := .inr ⟨i, Nat.le_refl _, nl_take hyl⟩
     have n4 : Nl i (y.drop (2 ^ i)) := .inr ⟨i, Nat.le_refl _, nl_drop hyl⟩
     have nd := ht.1 i (by omega)
     have cd := ht.2.cb i
     have s1 := pT_spec ts m ht.1 i k' _ _ (by omega) (by omega) n1 n3
     have s2 := pT_spec ts m ht.1 i k' _ _ (by omega) (by omega) n2 n4
     have s3 := pT_spec ts m ht.1 i k' _ _ (by omega) (by omega) s2.1 nd
     have s4 := pT_spec ts m ht.1 i k' _ _ (by omega) (by omega) n1 n4
     have s5 := pT_spec ts m ht.1 i k' _ _ (by omega) (by omega) n2 n3
     have c1 := Cb.mul ht (k := k') (show i ≤ m by omega) (by omega) n1 n3 cx.take cy.take
     have c2 := Cb.mul ht (k := k') (show i ≤ m by omega) (by omega) n2 n4 cx.drop cy.drop
     have c3 := Cb.mul ht (k := k') (show i ≤ m by omega) (by omega) s2.1 nd c2 cd
     have c4 := Cb.mul ht (k := k') (show i ≤ m by omega) (by omega) n1 n4 cx.take cy.drop
     have c5 := Cb.mul ht (k := k') (show i ≤ m by omega) (by omega) n2 n3 cx.drop cy.take
     have hpT := pT_full (ts := ts) (k := k') hxl h4 hyx h1
     refine awp_skip (hK11 _ ?_)
     refine awp_seq ?_; intro K14 hK14
     refine awp_region_draw mixedP ?_
     refine mT ?_
     refine mT ?_
     refine ar0 (s_sliceLst (.tmp rfl) (.none _) (.some _ (.tmp rfl) (by omega)) T60 rfl T68 rfl (by omega) (by simp only [List.length_map]; omega) rfl) ?_
     refine mT ?_
     refine mT ?_
     refine ar0 (s_sliceLst (.tmp rfl) (.some _ (.tmp rfl) (by omega)) (.none _) T60 rfl T68 rfl (by simp only [List.length_map]; omega) (by omega) rfl) ?_
     refine aT ?_
     refine aT ?_
     refine ⟨by kernel_rfl, ?_⟩
     refine hK14 _ ?_
     refine awp_weaken (Wk.of (sl := [(1, some (nA x)), (3, some (.ptr 3 0)), (7, some (i64 ((2 ^ i : Nat) : Int))), (8, some (nA (x.take (2 ^ i)))), (9, some (nA (x.drop (2 ^ i)))), (10, some (nA (y.take (2 ^ i)))), (11, some (nA (y.drop (2 ^ i))))]) (hp := [(3, some (.box [.lst 1 (ts.map nA)]))]) (.k (.k (.k (.k (.k (.cons rfl (Sub.of (cut_low y (2 ^ i))) (.cons rfl (Sub.of (cut_high y (2 ^ i))) .nil))))))) (.cons rfl (.refl _) .nil)) ?_
     refine awp_seq ?_; intro K15 hK15
     refine awp_region_draw mixedP ?_
     refine fP T30 ?_
     refine lP T28 ?_
     refine mT ?_
     refine ar0 (s_call (c_tower_level qA x (by omega)) (.cons (.tmp rfl) .nil) rfl rfl) ?_
     refine ar0 (s_arithW (.tmp rfl) (.const _) rfl (show _ = (i : Int) by rw [hxl, lvl_pow, i64_subI (by omega)]; omega) rfl) ?_
     refine ar0 (s_idxLst (.tmp rfl) (.tmp rfl) T28 rfl T60 rfl (by omega) (rootAt (j := i) (by omega)) rfl) ?_
     refine ar0 (s_loadIptr (.tmp rfl) T60 rfl rfl rfl) ?_
     refine aT ?_
     refine ⟨by kernel_rfl, ?_⟩
     refine hK15 _ ?_
     refine awp_seq ?_; intro K16 hK16
     refine awp_region_draw mixedP ?_
     refine lP T30 ?_
     refine mT ?_
     refine mT ?_
     refine ar0 (s_call (ih k' (by omega) i _ _ e1 f1 (by omega) (by omega) n1 n3 cx.take cy.take (by omega)) (.cons (.tmp rfl) (.cons (.tmp rfl) (.cons (.tmp rfl) .nil))) rfl rfl) ?_
     refine lP T30 ?_
     refine lP T30 ?_
     refine mT ?_
     refine mT ?_
     refine ar0 (s_call (ih k' (by omega) i _ _ e1 f1 (by omega) (by omega) n2 n4 cx.drop cy.drop (by omega)) (.cons (.tmp rfl) (.cons (.tmp rfl) (.cons (.tmp rfl) .nil))) rfl rfl) ?_
     refine mT ?_
     refine ar0 (s_call (ih k' (by omega) i _ _ _ _ (by omega) (by omega) s2.1 nd c2 cd (by omega)) (.cons (.tmp rfl) (.cons (.tmp rfl) (.cons (.tmp rfl) .nil))) rfl rfl) ?_
     refine ar0 (s_call (c_tower_plus _ _ (fun q hq => c1.qs (by omega) hq) (fun q hq => c3.qs (by omega) hq) (by have := s1.1.le; omega) (by have := s3.1.le; omega)) (.cons (.tmp rfl) (.cons (.tmp rfl) .nil)) rfl rfl) ?_
     refine aT ?_
     refine ⟨by kernel_rfl, ?_⟩
     refine hK16 _ ?_
     refine awp_seq ?_; intro K17 hK17
     refine awp_region_draw mixedP ?_
     refine mT ?_
     refine lP T30 ?_
     refine mT ?_
     refine mT ?_
     refine ar0 (s_call (ih k' (by omega) i _ _ e1 f1 (by omega) (by omega) n1 n4 cx.take cy.drop (by omega)) (.cons (.tmp rfl) (.cons (.tmp rfl) (.cons (.tmp rfl) .nil))) rfl rfl) ?_
     refine lP T30 ?_
     refine mT ?_
     refine mT ?_
     refine ar0 (s_call (ih k' (by omega) i _ _ e1 f1 (by omega) (by omega) n2 n3 cx.drop cy.take (by omega)) (.cons (.tmp rfl) (.cons (.tmp rfl) (.cons (.tmp rfl) .nil))) rfl rfl) ?_
     refine ar0 (s_call (c_tower_plus _ _ (fun q hq => c4.qs (by omega) hq) (fun q hq => c5.qs (by omega) hq) (by have := s4.1.le; omega) (by have := s5.1.le; omega)) (.cons (.tmp rfl) (.cons (.tmp rfl) .nil)) rfl rfl) ?_
     refine mT ?_
     refine ar0 (s_call (c_tower_join _ _ (2 ^ i) (by have := s1.1.le; have := s3.1.le; rw [len_plus]; omega) (by have := s4.1.le; have := s5.1.le; rw [len_plus]; omega) (by omega)) (.cons (.tmp rfl) (.cons (.tmp rfl) (.cons (.tmp rfl) .nil))) rfl rfl) ?_
     refine aT ?_
     refine ⟨by kernel_rfl, ?_⟩
     refine hK17 _ ?_
     refine awp_ret ⟨_, (.cons (.tmp rfl) .nil), ?_⟩
     exact fin_eq1 (by rw [hpT])
theorem c_tower_norm (ts : List (List Rat)) (m r : Nat) (ht : TsOk ts m r) (hm : m ≤ 5) (hml : m ≤ ts.length) (i : Nat) (a : List Rat) (e : Nat) (hi : i + 1 ≤ m) (hal : a.length = 2 ^ (i + 1)) (ca : Cb e a) (hs : 4 * e + 3 * eB r i + r + 1 < 4398046511104) :
  FnC Tryz.prog 158 [towA ts, nA a] (nA (normL ts i a)) := by
 have hp2 := Nat.two_pow_pos i
 have hpi : 2 ^ i ≤ 32 := pow_le2 (b := 5) (by omega)
 have hps : 2 ^ (i + 1) = 2 * 2 ^ i := by rw [Nat.pow_succ]; omega
 have n1 : Nl i (a.take (2 ^ i)) := .inr ⟨i, Nat.le_refl _, nl_take hal⟩
 have n2 : Nl i (a.drop (2 ^ i)) := .inr ⟨i, Nat.le_refl _, nl_drop hal⟩
 have nd := ht.1 i (by omega)
 have cd := ht.2.cb i
 have s1 := pT_spec ts m ht.1 i i _ _ (by omega) (by omega) n1 n1
 have s2 := pT_spec ts m ht.1 i i _ _ (by omega) (by omega) n2 n2
 have s3 := pT_spec ts m ht.1 i i _ _ (by omega) (by omega) s2.1 nd
 have c1 := Cb.mul ht (k := i) (show i ≤ m by omega) (by omega) n1 n1 ca.take ca.take
 have c2 := Cb.mul ht (k := i) (show i ≤ m by omega) (by omega) n2 n2 ca.drop ca.drop
 have c3 := Cb.mul ht (k := i) (show i ≤ m by omega) (by omega) s2.1 nd c2 cd
 refine con_of0 (N := 36) (rs := [.tmp 4]) Tryz.func158 rfl rfl rfl rfl ?_
 refine sr fun K1 hK1=>?_
 refine bX ?_
 refine aC ?_
 refine hK1 _ ?_
 refine sr fun K2 hK2=>?_
 refine mT ?_
 refine ar0 (s_lenMap (.tmp rfl) T60 rfl rfl) ?_
 refine ar0 (s_quoW (.tmp rfl) (.const _) (by omega) (show _ = ((2 ^ i : Nat) : Int) by rw [i64_half (by omega), hal, half_pow]) rfl) ?_
 refine aT ?_
 refine hK2 _ ?_
 refine awp_seq ?_; intro K3 hK3
 refine awp_region_draw mixedP ?_
 refine mT ?_
 refine mT ?_
 refine ar0 (s_sliceLst (.tmp rfl) (.none _) (.some _ (.tmp rfl) (by omega)) T60 rfl T68 rfl (by omega) (by simp only [List.length_map]; omega) rfl) ?_
 refine mT ?_
 refine mT ?_
 refine ar0 (s_sliceLst (.tmp rfl) (.some _ (.tmp rfl) (by omega)) (.none _) T60 rfl T68 rfl (by simp only [List.length_map]; omega) (by omega) rfl) ?_
 refine aT ?_
 refine aT ?_
 refine ⟨by kernel_rfl, ?_⟩
 refine hK3 _ ?_
 refine awp_weaken (Wk.of (sl := [(1, some (nA a)), (2, some (.ptr 2 0)), (6, some (nA (a.take (2 ^ i)))), (7, some (nA (a.drop (2 ^ i))))]) (hp := [(2, some (.box [.lst 1 (ts.map nA)]))]) (.k (.k (.cons rfl (Sub.of (cut_low a (2 ^ i))) (.cons rfl (Sub.of (cut_high a (2 ^ i))) .nil)))) (.cons rfl (.refl _) .nil)) ?_
 refine awp_seq ?_; intro K4 hK4
 refine awp_region_draw mixedP ?_
 refine lP T30 ?_
 refine mT ?_
 refine mT ?_
 refine ar0 (s_call (c_tower_times ts m r ht hm hml i i _ _ e e (by omega) (by omega) n1 n1 ca.take ca.take (by omega)) (.cons (.tmp rfl) (.cons (.tmp rfl) (.cons (.tmp rfl) .nil))) rfl rfl) ?_
 refine lP T30 ?_
 refine lP T30 ?_
 refine mT ?_
 refine mT ?_
 refine ar0 (s_call (c_tower_times ts m r ht hm hml i i _ _ e e (by omega) (by omega) n2 n2 ca.drop ca.drop (by omega)) (.cons (.tmp rfl) (.cons (.tmp rfl) (.cons (.tmp rfl) .nil))) rfl rfl) ?_
 refine fP T30 ?_
 refine lP T28 ?_
 refine mT ?_
 refine ar0 (s_call (c_tower_level qA a (by omega)) (.cons (.tmp rfl) .nil) rfl rfl) ?_
 refine ar0 (s_arithW (.tmp rfl) (.const _) rfl (show _ = (i : Int) by rw [hal, lvl_pow, i64_subI (by omega)]; omega) rfl) ?_
 refine ar0 (s_idxLst (.tmp rfl) (.tmp rfl) T28 rfl T60 rfl (by omega) (rootAt (j := i) (by omega)) rfl) ?_
 refine ar0 (s_loadIptr (.tmp rfl) T60 rfl rfl rfl) ?_
 refine ar0 (s_call (c_tower_times ts m r ht hm hml i i _ _ _ _ (by omega) (by omega) s2.1 nd c2 cd (by omega)) (.cons (.tmp rfl) (.cons (.tmp rfl) (.cons (.tmp rfl) .nil))) rfl rfl) ?_
 refine ar0 (s_call (c_tower_minus _ (fun q hq => c3.qs (by omega) hq) (by have := s3.1.le; omega)) (.cons (.tmp rfl) .nil) rfl rfl) ?_
 refine ar0 (s_call (c_tower_plus _ _ (fun q hq => c1.qs (by omega) hq) (fun q hq => c3.minus.qs (by omega) hq) (by have := s1.1.le; omega) (by have := s3.1.le; rw [len_minus]; omega)) (.cons (.tmp rfl) (.cons (.tmp rfl) .nil)) rfl rfl) ?_
 refine aT ?_
 refine ⟨by kernel_rfl, ?_⟩
 refine hK4 _ ?_
 refine awp_ret ⟨_, (.cons (.tmp rfl) .nil), ?_⟩
 exact fin_eq1 (by rfl)
theorem c_tower_sign (ts : List (List Rat)) (m r : Nat) (ht : TsOk ts m r) (hm : m ≤ 5) (hml : m ≤ ts.length) (j : Nat) : ∀ (a : List Rat) (e : Nat), j ≤ m → Nl j a → Cb e a → sB r j e < 4398046511104 →
  FnC Tryz.prog 98 [towA ts, nA a] (i64 (T.sgn (rtsOf ts) j (dec j a))) := by
 induction j using Nat.strongRecOn
 rename_i j ih
 intro a e hj ha ca hs
 have hse := sB_le r j e
 have qa : ∀ q ∈ a, Qs q := fun q hq => ca.qs (by omega) hq
 obtain ⟨s, hsa⟩ : ∃ s, s = sh j (dec j a) := ⟨_, rfl⟩
 have hsd : dec j s = dec j a := by rw [hsa, dec_sh]
 have hsn : Nl j s := by rw [hsa]; exact sh_nl j _
 have cs : Cb e s := by rw [hsa]; exact ca.sh ha
 have hls := hsn.len5 (by omega)
 rw [← hsd]
 refine con_of0 (N := 64) (rs := [.tmp 4]) Tryz.func98 rfl rfl rfl rfl ?_
 refine sr fun K1 hK1=>?_
 refine bX ?_
 refine aC ?_
 refine hK1 _ ?_
 refine sr fun K2 hK2=>?_
 refine mT ?_
 refine ar0 (s_call (hsa ▸ c_tower_Short a (by omega) ha qa) (.cons (.tmp rfl) .nil) rfl rfl) ?_
 refine aT ?_
 refine hK2 _ ?_
 refine awp_seq ?_; intro K3 hK3
 refine sr fun K4 hK4=>?_
 refine mT ?_
 refine ar0 (s_lenMap (.tmp rfl) T60 rfl rfl) ?_
 refine ar0 (s_cmp (.tmp rfl) (.const _) rfl rfl) ?_
 refine hK4 _ ?_
 refine awp_cond (.tmp rfl) (fun ht12 => ?_) (fun ht12 => ?_)
 ·have h1 : s = [] := List.length_eq_zero_iff.1 (by have := ht12; simp only [icmp, beq_iff_eq] at this; omega)
  refine sr fun K5 hK5=>?_
  refine aC ?_
  refine hK5 _ ?_
  refine awp_ret ⟨_, (.cons (.tmp rfl) .nil), ?_⟩
  exact fin_eq1 (by rw [h1, dec_nil, T.sgn_zero]; rfl)
 ·have h1 : s.length ≠ 0 := by have := ht12; simp only [icmp, beq_eq_false_iff_ne, ne_eq] at this; omega
  refine awp_skip (hK3 _ ?_)
  refine awp_seq ?_; intro K6 hK6
  refine sr fun K7 hK7=>?_
  refine mT ?_
  refine ar0 (s_lenMap (.tmp rfl) T60 rfl rfl) ?_
  refine ar0 (s_cmp (.tmp rfl) (.const _) rfl rfl) ?_
  refine hK7 _ ?_
  refine awp_cond (.tmp rfl) (fun ht15 => ?_) (fun ht15 => ?_)
  ·have h2 : s.length = 1 := by have := ht15; simp only [icmp, beq_iff_eq] at this; omega
   obtain ⟨q, rfl⟩ := List.length_eq_one_iff.1 h2
   refine sr fun K8 hK8=>?_
   refine mT ?_
   refine ar0 (s_idxLst (.tmp rfl) (.const _) T60 rfl T68 rfl (by omega) rfl rfl) ?_
   refine ar0 (s_loadIptr (.tmp rfl) T68 rfl rfl rfl) ?_
   refine ar0 (s_call (c_fraction_Sign (rt q) (cs.qs (by omega) (by simp : q ∈ [q])).ok) (.cons (.tmp rfl) .nil) rfl rfl) ?_
   refine aT ?_
   refine hK8 _ ?_
   refine awp_ret ⟨_, (.cons (.tmp rfl) .nil), ?_⟩
   exact fin_eq1 (by rw [dec_one, T.sgn_ofQ, rt_q])
  ·have h2 : s.length ≠ 1 := by have := ht15; simp only [icmp, beq_eq_false_iff_ne, ne_eq] at this; omega
   obtain ⟨i, hij, hsl⟩ : ∃ i, i + 1 ≤ j ∧ s.length = 2 ^ (i + 1) := by
    rcases nl_cases hsn with h | h | h
    ·exact absurd h h1
    ·exact absurd h h2
    ·exact h
   have hp2 := Nat.two_pow_pos i
   have hpi : 2 ^ i ≤ 32 := pow_le2 (b := 5) (by omega)
   have hps : 2 ^ (i + 1) = 2 * 2 ^ i := by rw [Nat.pow_succ]; omega
   have n1 : Nl i (s.take (2 ^ i)) := .inr ⟨i, Nat.le_refl _, nl_take hsl⟩
   have n2 : Nl i (s.drop (2 ^ i)) := .inr ⟨i, Nat.le_refl _, nl_drop hsl⟩
   have nd := ht.1 i (by omega)
   have cd := ht.2.cb i
   obtain ⟨nn, dn, cn⟩ := normL_spec ht (by omega) hsl cs
   have b1 : sB r i (4 * e + 3 * eB r i + r + 1) ≤ sB r j e := sB_lev r e hij
   have b2 : sB r i e ≤ sB r i (4 * e + 3 * eB r i + r + 1) := sB_mono r i (by omega)
   have b3 : sB r i r ≤ sB r i (4 * e + 3 * eB r i + r + 1) := sB_mono r i (by omega)
   have b4 := sB_le r i (4 * e + 3 * eB r i + r + 1)
   have k1 := ih i (by omega) (s.take (2 ^ i)) e (by omega) n1 cs.take (by omega)
   have k2 := ih i (by omega) (s.drop (2 ^ i)) e (by omega) n2 cs.drop (by omega)
   have k3 := ih i (by omega) _ r (by omega) nd cd (by omega)
   have k4 := ih i (by omega) _ _ (by omega) nn cn (by omega)
   have hres : T.sgn (rtsOf ts) j (dec j s) = T.sgn3 (T.sgn (rtsOf ts) i (dec i (s.take (2 ^ i)))) (T.sgn (rtsOf ts) i (dec i (s.drop (2 ^ i)))) (T.sgn (rtsOf ts) i (dec i (ts.getD i []))) (T.sgn (rtsOf ts) i (dec i (normL ts i s))) := by
    rw [sgn_lev _ (by omega) hij, dn]; rfl
   have v1 := T.sgn_cases (rtsOf ts) i (dec i (s.take (2 ^ i)))
   have v4 := T.sgn_cases (rtsOf ts) i (dec i (normL ts i s))
   refine awp_skip (hK6 _ ?_)
   refine sr fun K9 hK9=>?_
   refine mT ?_
   refine ar0 (s_lenMap (.tmp rfl) T60 rfl rfl) ?_
   refine ar0 (s_quoW (.tmp rfl) (.const _) (by omega) (show _ = ((2 ^ i : Nat) : Int) by rw [i64_half (by omega), hsl, half_pow]) rfl) ?_
   refine aT ?_
   refine hK9 _ ?_
   refine awp_seq ?_; intro K10 hK10
   refine awp_region_draw mixedP ?_
   refine lP T30 ?_
   refine mT ?_
   refine mT ?_
   refine ar0 (s_sliceLst (.tmp rfl) (.none _) (.some _ (.tmp rfl) (by omega)) T60 rfl T68 rfl (by omega) (by simp only [List.length_map]; omega) rfl) ?_
   refine ar0 (s_call (by have h9 := k1; rw [← cut_low] at h9; exact h9) (.cons (.tmp rfl) (.cons (.tmp rfl) .nil)) rfl rfl) ?_
   refine lP T30 ?_
   refine mT ?_
   refine mT ?_
   refine ar0 (s_sliceLst (.tmp rfl) (.some _ (.tmp rfl) (by omega)) (.none _) T60 rfl T68 rfl (by simp only [List.length_map]; omega) (by omega) rfl) ?_
   refine ar0 (s_call (by have h9 := k2; rw [← cut_high] at h9; exact h9) (.cons (.tmp rfl) (.cons (.tmp rfl) .nil)) rfl rfl) ?_
   refine aT ?_
   refine aT ?_
   refine ⟨by kernel_rfl, ?_⟩
   refine hK10 _ ?_
   refine awp_seq ?_; intro K11 hK11
   refine awp_seq ?_; intro K12 hK12
   refine awp_region_draw mixedP ?_
   refine lP T30 ?_
   refine fP T30 ?_
   refine lP T28 ?_
   refine mT ?_
   refine ar0 (s_call (c_tower_level qA s (by omega)) (.cons (.tmp rfl) .nil) rfl rfl) ?_
   refine ar0 (s_arithW (.tmp rfl) (.const _) rfl (show _ = (i : Int) by rw [hsl, lvl_pow, i64_subI (by omega)]; omega) rfl) ?_
   refine ar0 (s_idxLst (.tmp rfl) (.tmp rfl) T28 rfl T60 rfl (by omega) (rootAt (j := i) (by omega)) rfl) ?_
   refine ar0 (s_loadIptr (.tmp rfl) T60 rfl rfl rfl) ?_
   refine ar0 (s_call k3 (.cons (.tmp rfl) (.cons (.tmp rfl) .nil)) rfl rfl) ?_
   refine ar0 (s_cmp (.tmp rfl) (.const _) rfl rfl) ?_
   refine ⟨by kernel_rfl, ?_⟩
   refine hK12 _ ?_
   refine awp_cond (.tmp rfl) (fun ht42 => ?_) (fun ht42 => ?_)
   ·have e1 : T.sgn (rtsOf ts) i (dec i (ts.getD i [])) = 0 := by simpa [icmp] using ht42
    refine sr fun K13 hK13=>?_
    refine mT ?_
    refine aT ?_
    refine hK13 _ ?_
    refine awp_ret ⟨_, (.cons (.tmp rfl) .nil), ?_⟩
    exact fin_eq1 (by rw [hres]; unfold T.sgn3; rw [if_pos e1])
   ·have e1 : ¬ T.sgn (rtsOf ts) i (dec i (ts.getD i [])) = 0 := by simpa [icmp] using ht42
    refine awp_skip (hK11 _ ?_)
    refine awp_seq ?_; intro K14 hK14
    refine awp_block ?_
    refine sr fun K15 hK15=>?_
    refine mT ?_
    refine mT ?_
    refine ar0 (s_cmp (.tmp rfl) (.tmp rfl) rfl rfl) ?_
    refine mT ?_
    refine ar0 (s_guard rfl rfl rfl (fun h => s_move (.tmp rfl) rfl)) ?_
    refine ar0 (s_guard rfl rfl rfl (fun h => s_cmp (.opt rfl (o1 h)) (.const _) rfl rfl)) ?_
    refine ar0 (s_pick (.tmp rfl) (fun _ => .const _) (fun hp => .opt rfl (o1 hp)) rfl) ?_
    refine aT ?_
    refine hK15 _ ?_
    refine awp_cond (.tmp rfl) (fun ht44 => ?_) (fun ht44 => ?_)
    ·have e2 : T.sgn (rtsOf ts) i (dec i (s.take (2 ^ i))) = T.sgn (rtsOf ts) i (dec i (s.drop (2 ^ i))) ∨ T.sgn (rtsOf ts) i (dec i (s.drop (2 ^ i))) = 0 := pick_or ht44
     refine sr fun K16 hK16=>?_
     refine mT ?_
     refine aT ?_
     refine hK16 _ ?_
     refine awp_ret ⟨_, (.cons (.tmp rfl) .nil), ?_⟩
     exact fin_eq1 (by rw [hres]; unfold T.sgn3; rw [if_neg e1, if_pos e2])
    ·have e2 : ¬ (T.sgn (rtsOf ts) i (dec i (s.take (2 ^ i))) = T.sgn (rtsOf ts) i (dec i (s.drop (2 ^ i))) ∨ T.sgn (rtsOf ts) i (dec i (s.drop (2 ^ i))) = 0) := pick_nor ht44
     refine sr fun K17 hK17=>?_
     refine mT ?_
     refine ar0 (s_cmp (.tmp rfl) (.const _) rfl rfl) ?_
     refine aT ?_
     refine hK17 _ ?_
     refine awp_cond (.tmp rfl) (fun ht53 => ?_) (fun ht53 => ?_)
     ·have e3 : T.sgn (rtsOf ts) i (dec i (s.take (2 ^ i))) = 0 := by simpa [icmp] using ht53
      refine sr fun K18 hK18=>?_
      refine mT ?_
      refine aT ?_
      refine hK18 _ ?_
      refine awp_ret ⟨_, (.cons (.tmp rfl) .nil), ?_⟩
      exact fin_eq1 (by rw [hres]; unfold T.sgn3; rw [if_neg e1, if_neg e2, if_pos e3])
     ·have e3 : ¬ T.sgn (rtsOf ts) i (dec i (s.take (2 ^ i))) = 0 := by simpa [icmp] using ht53
      refine awp_skip (hK14 _ ?_)
      refine awp_seq ?_; intro K19 hK19
      refine awp_region_draw mixedP ?_
      refine mT ?_
      refine lP T30 ?_
      refine lP T30 ?_
      refine mT ?_
      refine ar0 (s_call (c_tower_norm ts m r ht hm hml i s e (by omega) hsl cs (by omega)) (.cons (.tmp rfl) (.cons (.tmp rfl) .nil)) rfl rfl) ?_
      refine ar0 (s_call k4 (.cons (.tmp rfl) (.cons (.tmp rfl) .nil)) rfl rfl) ?_
      refine ar0 (s_arithW (.tmp rfl) (.tmp rfl) rfl (mul_small v1 v4) rfl) ?_
      refine aT ?_
      refine ⟨by kernel_rfl, ?_⟩
      refine hK19 _ ?_
      refine awp_ret ⟨_, (.cons (.tmp rfl) .nil), ?_⟩
      exact fin_eq1 (by rw [hres]; unfold T.sgn3; rw [if_neg e1, if_neg e2, if_neg e3]; rfl)
end Go.Lw
namespace Go.Lw
open Go.Proofs
theorem c_tower_Check (rs : List (List Rt)) (r : Nat) (h : TR rs r) : FnC Tryz.prog 45 [towR rs] (errA (chkE rs)) := by
  have hll := h.ll
  have hr := h.le
  refine con_of0 (N := 43) (rs := [.tmp 2]) Tryz.func45 rfl rfl rfl rfl ?_
  refine sr fun K1 hK1=>?_
  refine bX ?_
  refine aC ?_
  refine hK1 _ ?_
  refine awp_seq ?_; intro K2 hK2
  refine sr fun K3 hK3=>?_
  refine fP T30 ?_
  refine lP T28 ?_
  refine ar0 (s_lenMap (.tmp rfl) T28 rfl rfl) ?_
  refine ar0 (s_cmp (.tmp rfl) (.const _) rfl rfl) ?_
  refine hK3 _ ?_
  refine awp_cond (.tmp rfl) (fun ht10 => ?_) (fun ht10 => ?_)
  · have h5 : 5 < rs.length := by have := ht10; simp only [icmp, decide_eq_true_eq] at this; omega
    refine sr fun K4 hK4=>?_
    refine ar0 (s_mkIface (.const _) rfl T97 rfl) ?_
    refine aT ?_
    refine hK4 _ ?_
    refine awp_ret ⟨_, (.cons (.tmp rfl) .nil), ?_⟩
    exact fin_eq1 (by rw [chkE_big h5]; rfl)
  · have h5 : rs.length ≤ 5 := by have := ht10; simp only [icmp, decide_eq_false_iff_not] at this; omega
    refine awp_skip (hK2 _ ?_)
    refine awp_seq ?_; intro K5 hK5
    refine sr fun K6 hK6=>?_
    refine fP T30 ?_
    refine lP T28 ?_
    refine ar0 (s_lenMap (.tmp rfl) T28 rfl rfl) ?_
    refine ar0 (s_move (.const _) rfl) ?_
    refine hK6 _ ?_
    refine awp_block ?_
    refine awp_loop (fun n_ s_ => ∃ (k : Nat), rs.length - k = n_ ∧ (k ≤ rs.length ∧ ∀ j, j < k → RtOk rs j) ∧ s_ = (⟨[(1, some (.ptr 1 0)), (13, some (.lst 1 (rs.map nR))), (14, some (i64 rs.length)), (15, some (i64 k))], [(1, some (.box [.lst 1 (rs.map nR)]))]⟩ : AS))
      (n := ((fun (k : Nat) => rs.length - k) (0))) (s' := ((fun (k : Nat) => (⟨[(1, some (.ptr 1 0)), (13, some (.lst 1 (rs.map nR))), (14, some (i64 rs.length)), (15, some (i64 k))], [(1, some (.box [.lst 1 (rs.map nR)]))]⟩ : AS)) (0)))
      (Wk.of (.k (.k (.k (.k .nil)))) (.cons rfl (.refl _) .nil)) ⟨0, rfl, ⟨Nat.zero_le _, fun j hj => by omega⟩, rfl⟩ ?_
    intro n_ s_ hI K7 hK7
    obtain ⟨k, rfl, ⟨hk, hj⟩, rfl⟩ := hI
    refine sr fun K8 hK8=>?_
    refine ar0 (s_cmp (.tmp rfl) (.tmp rfl) rfl rfl) ?_
    refine hK8 _ ?_
    refine awp_seq ?_; intro K9 hK9
    refine awp_cond (.tmp rfl) (fun ht16 => ?_) (fun ht16 => ?_)
    · have hin : k < rs.length := by simpa [icmp] using ht16
      obtain ⟨d, hd⟩ := getx hin
      have hdm := List.mem_of_getElem? hd
      have hdl := h.len d hdm
      refine awp_skip (hK9 _ ?_)
      refine awp_seq ?_; intro K10 hK10
      refine awp_block ?_
      refine sr fun K11 hK11=>?_
      refine mT ?_
      refine ar0 (s_idxLst (.tmp rfl) (.tmp rfl) T28 rfl T60 rfl (by omega) (getmap hd) rfl) ?_
      refine ar0 (s_loadIptr (.tmp rfl) T60 rfl rfl rfl) ?_
      refine aT ?_
      refine aT ?_
      refine hK11 _ ?_
      refine awp_seq ?_; intro K12 hK12
      refine sr fun K13 hK13=>?_
      refine mT ?_
      refine ar0 (s_lenMap (.tmp rfl) T60 rfl rfl) ?_
      refine mT ?_
      refine ar0 (s_shlW (.const _) (.tmp rfl) (by omega) (i64_shl1 (by omega)) rfl) ?_
      refine ar0 (s_cmp (.tmp rfl) (.tmp rfl) rfl rfl) ?_
      refine hK13 _ ?_
      refine awp_cond (.tmp rfl) (fun ht24 => ?_) (fun ht24 => ?_)
      · have h1 : d.length ≠ 2 ^ k := by have := ht24; simp only [icmp, bne_iff_ne, ne_eq] at this; omega
        refine sr fun K14 hK14=>?_
        refine ar0 (s_mkIface (.const _) rfl T97 rfl) ?_
        refine aT ?_
        refine hK14 _ ?_
        refine awp_ret ⟨_, (.cons (.tmp rfl) .nil), ?_⟩
        exact fin_eq1 (by rw [chkE_len h5 hd hj h1]; rfl)
      · have h1 : d.length = 2 ^ k := by have := ht24; simp only [icmp, bne_eq_false_iff_eq] at this; omega
        have htl : (rs.take k).length = k := by simp; omega
        have hnu := c_tower_number (rs.take k) d (h.ok d hdm) hdl (by omega)
        rw [htl] at hnu
        refine awp_skip (hK12 _ ?_)
        refine sr fun K15 hK15=>?_
        refine fP T30 ?_
        refine lP T28 ?_
        refine mT ?_
        refine ar0 (s_sliceLst (.tmp rfl) (.none _) (.some _ (.tmp rfl) (by omega)) T28 rfl T60 rfl (by omega) (by simp only [List.length_map]; omega) rfl) ?_
        refine ar0 (s_build (.cons (.tmp rfl) .nil) T30 rfl rfl rfl rfl rfl) ?_
        refine al T30 ?_
        refine sP T30 ?_
        refine hK15 _ ?_
        refine awp_weaken (Wk.of (sl := [(1, some (.ptr 1 0)), (3, some (i64 k)), (4, some (nR d)), (5, some (.ptr 5 0)), (13, some (.lst 1 (rs.map nR))), (14, some (i64 rs.length)), (15, some (i64 k))]) (hp := [(1, some (.box [.lst 1 (rs.map nR)])), (5, some (.box [.lst 1 ((rs.take k).map nR)]))]) (.k (.k (.k (.k (.k (.k (.k .nil))))))) (.cons rfl (.refl _) (.cons rfl (BlkSub.boxL (.cons (.of (cut_take nR rs k)) .nil) rfl) .nil))) ?_
        refine awp_seq ?_; intro K16 hK16
        refine sr fun K17 hK17=>?_
        refine lP T30 ?_
        refine mT ?_
        refine ar0 (s_call hnu (.cons (.tmp rfl) (.cons (.tmp rfl) .nil)) rfl rfl) ?_
        refine aT ?_
        refine hK17 _ ?_
        refine sr fun K18 hK18=>?_
        refine mT ?_
        refine ar0 (s_errNe (.tmp rfl) (by first | exact .inl rfl | exact .inr ⟨_, _, rfl⟩ | exact errV_or _) T41 rfl rfl) ?_
        refine hK18 _ ?_
        refine awp_cond (.tmp rfl) (fun ht35 => ?_) (fun ht35 => ?_)
        · have h2 := nNil_t ht35
          refine sr fun K19 hK19=>?_
          refine mT ?_
          refine aT ?_
          refine hK19 _ ?_
          refine awp_ret ⟨_, (.cons (.tmp rfl) .nil), ?_⟩
          exact fin_eq1 (by rw [chkE_num h5 hd hj h1 h2])
        · have h2 := nNil_f ht35
          have hts := tsok_take (ts := llq rs) (fun j hjk => (hj j hjk).nl) h.rb
          have hq := numE_ok h2 (h.ok d hdm)
          have hcb : Cb r (lq d) := by have := h.rb.cb k; rw [llq_getD, List.getD_eq_getElem?_getD, hd] at this; exact this
          have hsg : FnC Tryz.prog 98 [towR (rs.take k), nR d] (i64 (T.sgn (rtsOf (llq rs)) k (dec k (lq d)))) := by
            have h9 := c_tower_sign ((llq rs).take k) k r hts (by omega) (by simp; omega) k (lq d) r (Nat.le_refl _) hq.2 hcb (sB_tw (by omega) hr (by omega))
            rw [T.sgn_congr k (fun j hjk => rtsOf_take hjk)] at h9
            rw [towR_take h.ok (by omega) hj, hq.1, nR_rt]
            rw [← hq.1]; exact h9
          refine awp_skip (hK16 _ ?_)
          refine sr fun K20 hK20=>?_
          refine lP T30 ?_
          refine mT ?_
          refine ar0 (s_call hsg (.cons (.tmp rfl) (.cons (.tmp rfl) .nil)) rfl rfl) ?_
          refine ar0 (s_cmp (.tmp rfl) (.const _) rfl rfl) ?_
          refine hK20 _ ?_
          refine awp_cond (.tmp rfl) (fun ht40 => ?_) (fun ht40 => ?_)
          · have h3 : T.sgn (rtsOf (llq rs)) k (dec k (lq d)) < 0 := by simpa [icmp] using ht40
            refine sr fun K21 hK21=>?_
            refine ar0 (s_mkIface (.const _) rfl T97 rfl) ?_
            refine aT ?_
            refine hK21 _ ?_
            refine awp_ret ⟨_, (.cons (.tmp rfl) .nil), ?_⟩
            exact fin_eq1 (by rw [chkE_sgn h5 hd hj h1 h2 h3]; rfl)
          · have h3 : ¬ T.sgn (rtsOf (llq rs)) k (dec k (lq d)) < 0 := by simpa [icmp] using ht40
            refine awp_skip (hK10 _ ?_)
            refine awp_region ?_
            refine ar0 (s_arithW (.tmp rfl) (.const _) rfl (i64_add1 (by unfold maxL; omega)) rfl) ?_
            refine mT ?_
            refine hK7 _ ((fun (k : Nat) => (⟨[(1, some (.ptr 1 0)), (13, some (.lst 1 (rs.map nR))), (14, some (i64 rs.length)), (15, some (i64 k))], [(1, some (.box [.lst 1 (rs.map nR)]))]⟩ : AS)) (k + 1)) ((fun (k : Nat) => rs.length - k) (k + 1)) (Wk.of (.k (.k (.k (.k .nil)))) (.cons rfl (.refl _) .nil)) ⟨k + 1, rfl, ⟨hin, fun j hjk => by rcases Nat.lt_or_ge j k with h9 | h9; exact hj j h9; (have : j = k := by omega); subst this; exact rtok_of hd h1 h2 h3⟩, rfl⟩ (by first | omega | (dsimp only; omega))
    · have hin : k = rs.length := by have : rs.length ≤ k := by simpa [icmp] using ht16
                                     omega
      subst hin
      refine awp_exit ?_
      refine hK5 _ ?_
      refine sr fun K22 hK22=>?_
      refine aC ?_
      refine hK22 _ ?_
      refine awp_ret ⟨_, (.cons (.tmp rfl) .nil), ?_⟩
      exact fin_eq1 (by rw [chkE_all h5 hj]; rfl)
theorem c_tower_checks (rs : List (List Rt)) (r : Nat) (h : TR rs r) (xs : List (List Rt)) (hx : ∀ a ∈ xs, (∀ x ∈ a, x.ok) ∧ a.length ≤ 281474976710656) (hl : xs.length ≤ 281474976710656) : FnC Tryz.prog 99 [towR rs, .lst 1 (xs.map nR)] (errA (chksE rs xs)) := by
  refine con_of0 (N := 27) (rs := [.tmp 4]) Tryz.func99 rfl rfl rfl rfl ?_
  refine sr fun K1 hK1=>?_
  refine bX ?_
  refine aC ?_
  refine hK1 _ ?_
  refine awp_seq ?_; intro K2 hK2
  refine sr fun K3 hK3=>?_
  refine lP T30 ?_
  refine ar0 (s_call (c_tower_Check rs r h) (.cons (.tmp rfl) .nil) rfl rfl) ?_
  refine aT ?_
  refine hK3 _ ?_
  refine sr fun K4 hK4=>?_
  refine mT ?_
  refine ar0 (s_errNe (.tmp rfl) (by first | exact .inl rfl | exact .inr ⟨_, _, rfl⟩ | exact errV_or _) T41 rfl rfl) ?_
  refine hK4 _ ?_
  refine awp_cond (.tmp rfl) (fun ht12 => ?_) (fun ht12 => ?_)
  · have h1 := nNil_t ht12
    refine sr fun K5 hK5=>?_
    refine mT ?_
    refine aT ?_
    refine hK5 _ ?_
    refine awp_ret ⟨_, (.cons (.tmp rfl) .nil), ?_⟩
    exact fin_eq1 (by rw [chks_chk h1])
  · have h1 := nNil_f ht12
    refine awp_skip (hK2 _ ?_)
    refine awp_seq ?_; intro K6 hK6
    refine sr fun K7 hK7=>?_
    refine mT ?_
    refine ar0 (s_lenMap (.tmp rfl) T28 rfl rfl) ?_
    refine ar0 (s_move (.const _) rfl) ?_
    refine hK7 _ ?_
    refine awp_block ?_
    refine awp_loop (fun n_ s_ => ∃ (i : Nat), xs.length - i = n_ ∧ (i ≤ xs.length ∧ ∀ x ∈ xs.take i, numE rs.length x = 0) ∧ s_ = (⟨[(2, some (.ptr 2 0)), (14, some (.lst 1 (xs.map nR))), (15, some (i64 xs.length)), (16, some (i64 i))], [(2, some (.box [.lst 1 (rs.map nR)]))]⟩ : AS))
      (n := ((fun (i : Nat) => xs.length - i) (0))) (s' := ((fun (i : Nat) => (⟨[(2, some (.ptr 2 0)), (14, some (.lst 1 (xs.map nR))), (15, some (i64 xs.length)), (16, some (i64 i))], [(2, some (.box [.lst 1 (rs.map nR)]))]⟩ : AS)) (0)))
      (Wk.of (.k (.k (.k (.k .nil)))) (.cons rfl (.refl _) .nil)) ⟨0, rfl, ⟨Nat.zero_le _, fun x hx => by simp at hx⟩, rfl⟩ ?_
    intro n_ s_ hI K8 hK8
    obtain ⟨i, rfl, ⟨hi, hj⟩, rfl⟩ := hI
    refine sr fun K9 hK9=>?_
    refine ar0 (s_cmp (.tmp rfl) (.tmp rfl) rfl rfl) ?_
    refine hK9 _ ?_
    refine awp_seq ?_; intro K10 hK10
    refine awp_cond (.tmp rfl) (fun ht17 => ?_) (fun ht17 => ?_)
    · have hin : i < xs.length := by simpa [icmp] using ht17
      obtain ⟨a, ha⟩ := getx hin
      have hok := hx a (List.mem_of_getElem? ha)
      refine awp_skip (hK10 _ ?_)
      refine awp_seq ?_; intro K11 hK11
      refine awp_block ?_
      refine sr fun K12 hK12=>?_
      refine ar0 (s_idxLst (.tmp rfl) (.tmp rfl) T28 rfl T60 rfl (by omega) (getmap ha) rfl) ?_
      refine ar0 (s_loadIptr (.tmp rfl) T60 rfl rfl rfl) ?_
      refine aT ?_
      refine hK12 _ ?_
      refine sr fun K13 hK13=>?_
      refine lP T30 ?_
      refine mT ?_
      refine ar0 (s_call (c_tower_number rs a hok.1 hok.2 h.ll) (.cons (.tmp rfl) (.cons (.tmp rfl) .nil)) rfl rfl) ?_
      refine aT ?_
      refine hK13 _ ?_
      refine sr fun K14 hK14=>?_
      refine mT ?_
      refine ar0 (s_errNe (.tmp rfl) (by first | exact .inl rfl | exact .inr ⟨_, _, rfl⟩ | exact errV_or _) T41 rfl rfl) ?_
      refine hK14 _ ?_
      refine awp_cond (.tmp rfl) (fun ht24 => ?_) (fun ht24 => ?_)
      · have h2 := nNil_t ht24
        refine sr fun K15 hK15=>?_
        refine mT ?_
        refine aT ?_
        refine hK15 _ ?_
        refine awp_ret ⟨_, (.cons (.tmp rfl) .nil), ?_⟩
        exact fin_eq1 (by rw [chks_at h1 ha hj h2])
      · have h2 := nNil_f ht24
        refine awp_skip (hK11 _ ?_)
        refine awp_region ?_
        refine ar0 (s_arithW (.tmp rfl) (.const _) rfl (i64_add1 (by unfold maxL; omega)) rfl) ?_
        refine mT ?_
        refine hK8 _ ((fun (i : Nat) => (⟨[(2, some (.ptr 2 0)), (14, some (.lst 1 (xs.map nR))), (15, some (i64 xs.length)), (16, some (i64 i))], [(2, some (.box [.lst 1 (rs.map nR)]))]⟩ : AS)) (i + 1)) ((fun (i : Nat) => xs.length - i) (i + 1)) (Wk.of (.k (.k (.k (.k .nil)))) (.cons rfl (.refl _) .nil)) ⟨i + 1, rfl, ⟨hin, fun x hx => by rw [take_succ_get ha] at hx; rcases List.mem_append.1 hx with h9 | h9; exact hj x h9; (rw [List.mem_singleton.1 h9]; exact h2)⟩, rfl⟩ (by first | omega | (dsimp only; omega))
    · have hin : i = xs.length := by have : xs.length ≤ i := by simpa [icmp] using ht17
                                     omega
      subst hin
      rw [List.take_length] at hj
      refine awp_exit ?_
      refine hK6 _ ?_
      refine sr fun K16 hK16=>?_
      refine aC ?_
      refine hK16 _ ?_
      refine awp_ret ⟨_, (.cons (.tmp rfl) .nil), ?_⟩
      exact fin_eq1 (by rw [chks_of h1 hj]; rfl)
theorem c_tower_Valid (rs : List (List Rt)) (r : Nat) (h : TR rs r) (a : List Rt) (e : Nat) (ha : NR a e) : FnC Tryz.prog 134 [towR rs, nR a] (bl (decide (chksE rs [a] = 0))) := by
 refine con_of0 (N := 10) (rs := [.tmp 4]) Tryz.func134 rfl rfl rfl rfl ?_
 refine sr fun K1 hK1=>?_
 refine bX ?_
 refine aC ?_
 refine hK1 _ ?_
 refine sr fun K2 hK2=>?_
 refine lP T30 ?_
 refine mT ?_
 refine ar0 (s_buildLst rfl (.cons (.tmp rfl) .nil) T28 rfl T60 rfl rfl rfl rfl rfl rfl rfl rfl) ?_
 refine ar0 (s_call (c_tower_checks rs r h [a] (fun x hx => by rw [List.mem_singleton.1 hx]; exact ⟨ha.ok, ha.len⟩) (by simp)) (.cons (.tmp rfl) (.cons (.tmp rfl) .nil)) rfl rfl) ?_
 refine ar0 (s_errEq (.tmp rfl) (by first | exact .inl rfl | exact .inr ⟨_, _, rfl⟩ | exact errV_or _) T41 rfl rfl) ?_
 refine aT ?_
 refine hK2 _ ?_
 refine awp_ret ⟨_, (.cons (.tmp rfl) .nil), ?_⟩
 exact fin_eq1 (by rw [isNil_err]; rfl)
theorem c_tower_Neg (rs : List (List Rt)) (r : Nat) (h : TR rs r) (a : List Rt) (e : Nat) (ha : NR a e) (he : e ≤ 1000000000) :
  FnC Tryz.prog 46 [towR rs, nR a] (.tup [nA (if chksE rs [a] = 0 then sh rs.length (T.neg rs.length (dec rs.length (lq a))) else []), errA (chksE rs [a])]) := by
 refine con_of0 (N := 17) (rs := [.tmp 4, .tmp 5]) Tryz.func46 rfl rfl rfl rfl ?_
 refine sr fun K1 hK1=>?_
 refine bX ?_
 refine aC ?_
 refine aC ?_
 refine hK1 _ ?_
 refine awp_seq ?_; intro K2 hK2
 refine sr fun K3 hK3=>?_
 refine lP T30 ?_
 refine mT ?_
 refine ar0 (s_buildLst rfl (.cons (.tmp rfl) .nil) T28 rfl T60 rfl rfl rfl rfl rfl rfl rfl rfl) ?_
 refine ar0 (s_call (c_tower_checks rs r h [a] (fun x hx => by rw [List.mem_singleton.1 hx]; exact ⟨ha.ok, ha.len⟩) (by simp)) (.cons (.tmp rfl) (.cons (.tmp rfl) .nil)) rfl rfl) ?_
 refine aT ?_
 refine hK3 _ ?_
 refine sr fun K4 hK4=>?_
 refine mT ?_
 refine ar0 (s_errNe (.tmp rfl) (by first | exact .inl rfl | exact .inr ⟨_, _, rfl⟩ | exact errV_or _) T41 rfl rfl) ?_
 refine hK4 _ ?_
 refine awp_cond (.tmp rfl) (fun ht12 => ?_) (fun ht12 => ?_)
 ·have h1 := nNil_t ht12
  refine sr fun K5 hK5=>?_
  refine mT ?_
  refine aC ?_
  refine aT ?_
  refine hK5 _ ?_
  refine awp_ret ⟨_, (.cons (.tmp rfl) (.cons (.tmp rfl) .nil)), ?_⟩
  exact fin_sub (by rw [if_neg h1]; exact Sub.tup (.cons (.nil _ _ _) (.cons (.refl _) .nil)))
 ·have h1 := nNil_f ht12
  obtain ⟨h2, h3⟩ := chks_ok h1
  obtain ⟨tw, _⟩ := chk_tw h h2
  obtain ⟨e1, na⟩ := ha.num (h3 a (by simp))
  have h5 : rs.length ≤ 5 := by have := tw.five; rwa [List.length_map] at this
  have hl := na.len5 h5
  have qa : ∀ q ∈ lq a, Qs q := fun q hq => ha.cb.qs (by omega) hq
  have qm : ∀ q ∈ minusL (lq a), Qs q := fun q hq => ha.cb.minus.qs (by omega) hq
  have nm := nl_minus na
  refine awp_weaken (Wk.of (sl := [(1, some (nA (lq a))), (2, some (.ptr 2 0)), (6, some (errA (chksE rs [a])))]) (hp := [(2, some (.box [.lst 1 (rs.map nR)]))]) (.cons rfl (Sub.of e1) (.k (.k .nil))) (.cons rfl (.refl _) .nil)) ?_
  refine awp_skip (hK2 _ ?_)
  refine sr fun K6 hK6=>?_
  refine mT ?_
  refine ar0 (s_call (c_tower_minus _ qa (by omega)) (.cons (.tmp rfl) .nil) rfl rfl) ?_
  refine ar0 (s_call (c_tower_Short _ h5 nm qm) (.cons (.tmp rfl) .nil) rfl rfl) ?_
  refine aT ?_
  refine aC ?_
  refine hK6 _ ?_
  refine awp_ret ⟨_, (.cons (.tmp rfl) (.cons (.tmp rfl) .nil)), ?_⟩
  exact fin_eq2 (by rw [if_pos h1, h1, dec_minus]; rfl)
theorem c_tower_Add (rs : List (List Rt)) (r : Nat) (h : TR rs r) (a b : List Rt) (e f : Nat) (ha : NR a e) (hb : NR b f) (he : e + f ≤ 1000000000) :
  FnC Tryz.prog 250 [towR rs, nR a, nR b] (.tup [nA (if chksE rs [a, b] = 0 then sh rs.length (T.add rs.length (dec rs.length (lq a)) (dec rs.length (lq b))) else []), errA (chksE rs [a, b])]) := by
 refine con_of0 (N := 21) (rs := [.tmp 6, .tmp 7]) Tryz.func250 rfl rfl rfl rfl ?_
 refine sr fun K1 hK1=>?_
 refine bX ?_
 refine aC ?_
 refine aC ?_
 refine hK1 _ ?_
 refine awp_seq ?_; intro K2 hK2
 refine sr fun K3 hK3=>?_
 refine lP T30 ?_
 refine mT ?_
 refine mT ?_
 refine ar0 (s_buildLst rfl (.cons (.tmp rfl) (.cons (.tmp rfl) .nil)) T28 rfl T60 rfl rfl rfl rfl rfl rfl rfl rfl) ?_
 refine ar0 (s_call (c_tower_checks rs r h [a, b] (two_ok ha hb) (by simp)) (.cons (.tmp rfl) (.cons (.tmp rfl) .nil)) rfl rfl) ?_
 refine aT ?_
 refine hK3 _ ?_
 refine sr fun K4 hK4=>?_
 refine mT ?_
 refine ar0 (s_errNe (.tmp rfl) (by first | exact .inl rfl | exact .inr ⟨_, _, rfl⟩ | exact errV_or _) T41 rfl rfl) ?_
 refine hK4 _ ?_
 refine awp_cond (.tmp rfl) (fun ht15 => ?_) (fun ht15 => ?_)
 ·have h1 := nNil_t ht15
  refine sr fun K5 hK5=>?_
  refine mT ?_
  refine aC ?_
  refine aT ?_
  refine hK5 _ ?_
  refine awp_ret ⟨_, (.cons (.tmp rfl) (.cons (.tmp rfl) .nil)), ?_⟩
  exact fin_sub (by rw [if_neg h1]; exact Sub.tup (.cons (.nil _ _ _) (.cons (.refl _) .nil)))
 ·have h1 := nNil_f ht15
  obtain ⟨h2, h3⟩ := chks_ok h1
  obtain ⟨tw, e0⟩ := chk_tw h h2
  obtain ⟨e1, na⟩ := ha.num (h3 a (by simp))
  obtain ⟨e2, nb⟩ := hb.num (h3 b (by simp))
  have h5 : rs.length ≤ 5 := by have := tw.five; rwa [List.length_map] at this
  have hla := na.len5 h5
  have hlb := nb.len5 h5
  have qa : ∀ q ∈ lq a, Qs q := fun q hq => ha.cb.qs (by omega) hq
  have qb : ∀ q ∈ lq b, Qs q := fun q hq => hb.cb.qs (by omega) hq
  have qp : ∀ q ∈ plusL (lq a) (lq b), Qs q := fun q hq => (ha.cb.plus hb.cb).qs (by omega) hq
  have np := nl_plus na nb
  refine awp_weaken (Wk.of (sl := [(1, some (nA (lq a))), (2, some (nA (lq b))), (3, some (.ptr 3 0)), (8, some (errA (chksE rs [a, b])))]) (hp := [(3, some (.box [.lst 1 (rs.map nR)]))]) (.cons rfl (Sub.of e1) (.cons rfl (Sub.of e2) (.k (.k .nil)))) (.cons rfl (.refl _) .nil)) ?_
  refine awp_skip (hK2 _ ?_)
  refine sr fun K6 hK6=>?_
  refine mT ?_
  refine mT ?_
  refine ar0 (s_call (c_tower_plus _ _ qa qb (by omega) (by omega)) (.cons (.tmp rfl) (.cons (.tmp rfl) .nil)) rfl rfl) ?_
  refine ar0 (s_call (c_tower_Short _ h5 np qp) (.cons (.tmp rfl) .nil) rfl rfl) ?_
  refine aT ?_
  refine aC ?_
  refine hK6 _ ?_
  refine awp_ret ⟨_, (.cons (.tmp rfl) (.cons (.tmp rfl) .nil)), ?_⟩
  exact fin_eq2 (by rw [if_pos h1, h1, dec_plus]; rfl)
theorem c_tower_Sub (rs : List (List Rt)) (r : Nat) (h : TR rs r) (a b : List Rt) (e f : Nat) (ha : NR a e) (hb : NR b f) (he : e + f ≤ 1000000000) :
  FnC Tryz.prog 255 [towR rs, nR a, nR b] (.tup [nA (if chksE rs [a, b] = 0 then sh rs.length (T.add rs.length (dec rs.length (lq a)) (T.neg rs.length (dec rs.length (lq b)))) else []), errA (chksE rs [a, b])]) := by
 refine con_of0 (N := 22) (rs := [.tmp 6, .tmp 7]) Tryz.func255 rfl rfl rfl rfl ?_
 refine sr fun K1 hK1=>?_
 refine bX ?_
 refine aC ?_
 refine aC ?_
 refine hK1 _ ?_
 refine awp_seq ?_; intro K2 hK2
 refine sr fun K3 hK3=>?_
 refine lP T30 ?_
 refine mT ?_
 refine mT ?_
 refine ar0 (s_buildLst rfl (.cons (.tmp rfl) (.cons (.tmp rfl) .nil)) T28 rfl T60 rfl rfl rfl rfl rfl rfl rfl rfl) ?_
 refine ar0 (s_call (c_tower_checks rs r h [a, b] (two_ok ha hb) (by simp)) (.cons (.tmp rfl) (.cons (.tmp rfl) .nil)) rfl rfl) ?_
 refine aT ?_
 refine hK3 _ ?_
 refine sr fun K4 hK4=>?_
 refine mT ?_
 refine ar0 (s_errNe (.tmp rfl) (by first | exact .inl rfl | exact .inr ⟨_, _, rfl⟩ | exact errV_or _) T41 rfl rfl) ?_
 refine hK4 _ ?_
 refine awp_cond (.tmp rfl) (fun ht15 => ?_) (fun ht15 => ?_)
 ·have h1 := nNil_t ht15
  refine sr fun K5 hK5=>?_
  refine mT ?_
  refine aC ?_
  refine aT ?_
  refine hK5 _ ?_
  refine awp_ret ⟨_, (.cons (.tmp rfl) (.cons (.tmp rfl) .nil)), ?_⟩
  exact fin_sub (by rw [if_neg h1]; exact Sub.tup (.cons (.nil _ _ _) (.cons (.refl _) .nil)))
 ·have h1 := nNil_f ht15
  obtain ⟨h2, h3⟩ := chks_ok h1
  obtain ⟨tw, e0⟩ := chk_tw h h2
  obtain ⟨e1, na⟩ := ha.num (h3 a (by simp))
  obtain ⟨e2, nb⟩ := hb.num (h3 b (by simp))
  have h5 : rs.length ≤ 5 := by have := tw.five; rwa [List.length_map] at this
  have hla := na.len5 h5
  have hlb := nb.len5 h5
  have qa : ∀ q ∈ lq a, Qs q := fun q hq => ha.cb.qs (by omega) hq
  have qb : ∀ q ∈ lq b, Qs q := fun q hq => hb.cb.qs (by omega) hq
  have qm : ∀ q ∈ minusL (lq b), Qs q := fun q hq => hb.cb.minus.qs (by omega) hq
  have qp : ∀ q ∈ plusL (lq a) (minusL (lq b)), Qs q := fun q hq => (ha.cb.plus hb.cb.minus).qs (by omega) hq
  have np := nl_plus na (nl_minus nb)
  refine awp_weaken (Wk.of (sl := [(1, some (nA (lq a))), (2, some (nA (lq b))), (3, some (.ptr 3 0)), (8, some (errA (chksE rs [a, b])))]) (hp := [(3, some (.box [.lst 1 (rs.map nR)]))]) (.cons rfl (Sub.of e1) (.cons rfl (Sub.of e2) (.k (.k .nil)))) (.cons rfl (.refl _) .nil)) ?_
  refine awp_skip (hK2 _ ?_)
  refine sr fun K6 hK6=>?_
  refine mT ?_
  refine mT ?_
  refine ar0 (s_call (c_tower_minus _ qb (by omega)) (.cons (.tmp rfl) .nil) rfl rfl) ?_
  refine ar0 (s_call (c_tower_plus _ _ qa qm (by omega) (by rw [len_minus]; omega)) (.cons (.tmp rfl) (.cons (.tmp rfl) .nil)) rfl rfl) ?_
  refine ar0 (s_call (c_tower_Short _ h5 np qp) (.cons (.tmp rfl) .nil) rfl rfl) ?_
  refine aT ?_
  refine aC ?_
  refine hK6 _ ?_
  refine awp_ret ⟨_, (.cons (.tmp rfl) (.cons (.tmp rfl) .nil)), ?_⟩
  exact fin_eq2 (by rw [if_pos h1, h1, dec_plus, dec_minus]; rfl)
theorem c_tower_Mul (rs : List (List Rt)) (r : Nat) (h : TR rs r) (a b : List Rt) (e f : Nat) (ha : NR a e) (hb : NR b f) (he : e + f ≤ 1000000000) :
  FnC Tryz.prog 251 [towR rs, nR a, nR b] (.tup [nA (if chksE rs [a, b] = 0 then sh rs.length (T.mul (rtsOf (llq rs)) rs.length (dec rs.length (lq a)) (dec rs.length (lq b))) else []), errA (chksE rs [a, b])]) := by
 have hr := h.le
 refine con_of0 (N := 22) (rs := [.tmp 6, .tmp 7]) Tryz.func251 rfl rfl rfl rfl ?_
 refine sr fun K1 hK1=>?_
 refine bX ?_
 refine aC ?_
 refine aC ?_
 refine hK1 _ ?_
 refine awp_seq ?_; intro K2 hK2
 refine sr fun K3 hK3=>?_
 refine lP T30 ?_
 refine mT ?_
 refine mT ?_
 refine ar0 (s_buildLst rfl (.cons (.tmp rfl) (.cons (.tmp rfl) .nil)) T28 rfl T60 rfl rfl rfl rfl rfl rfl rfl rfl) ?_
 refine ar0 (s_call (c_tower_checks rs r h [a, b] (two_ok ha hb) (by simp)) (.cons (.tmp rfl) (.cons (.tmp rfl) .nil)) rfl rfl) ?_
 refine aT ?_
 refine hK3 _ ?_
 refine sr fun K4 hK4=>?_
 refine mT ?_
 refine ar0 (s_errNe (.tmp rfl) (by first | exact .inl rfl | exact .inr ⟨_, _, rfl⟩ | exact errV_or _) T41 rfl rfl) ?_
 refine hK4 _ ?_
 refine awp_cond (.tmp rfl) (fun ht15 => ?_) (fun ht15 => ?_)
 ·have h1 := nNil_t ht15
  refine sr fun K5 hK5=>?_
  refine mT ?_
  refine aC ?_
  refine aT ?_
  refine hK5 _ ?_
  refine awp_ret ⟨_, (.cons (.tmp rfl) (.cons (.tmp rfl) .nil)), ?_⟩
  exact fin_sub (by rw [if_neg h1]; exact Sub.tup (.cons (.nil _ _ _) (.cons (.refl _) .nil)))
 ·have h1 := nNil_f ht15
  obtain ⟨h2, h3⟩ := chks_ok h1
  obtain ⟨tw, e0⟩ := chk_tw h h2
  obtain ⟨e1, na⟩ := ha.num (h3 a (by simp))
  obtain ⟨e2, nb⟩ := hb.num (h3 b (by simp))
  have hlen : (llq rs).length = rs.length := List.length_map _
  have h5 : rs.length ≤ 5 := by have := tw.five; omega
  have hla := na.len5 h5
  have hlb := nb.len5 h5
  have htw := tw.ok
  rw [hlen] at htw
  have hE := eB_five r h5
  have np := pT_spec (llq rs) rs.length htw.1 rs.length rs.length _ _ (Nat.le_refl _) (Nat.le_refl _) na nb
  have cp := Cb.mul htw (k := rs.length) (Nat.le_refl rs.length) (Nat.le_refl _) na nb ha.cb hb.cb
  have hti := c_tower_times (llq rs) rs.length r htw h5 (by omega) rs.length rs.length _ _ e f (Nat.le_refl _) (Nat.le_refl _) na nb ha.cb hb.cb (by omega)
  refine awp_weaken (Wk.of (sl := [(1, some (nA (lq a))), (2, some (nA (lq b))), (3, some (.ptr 3 0)), (8, some (errA (chksE rs [a, b])))]) (hp := [(3, some (.box [.lst 1 ((llq rs).map nA)]))]) (.cons rfl (Sub.of e1) (.cons rfl (Sub.of e2) (.k (.k .nil)))) (.cons rfl (BlkSub.boxL (.cons (.of (towR_in e0)) .nil) rfl) .nil)) ?_
  refine awp_skip (hK2 _ ?_)
  refine sr fun K6 hK6=>?_
  refine lP T30 ?_
  refine mT ?_
  refine mT ?_
  refine ar0 (s_call hti (.cons (.tmp rfl) (.cons (.tmp rfl) (.cons (.tmp rfl) .nil))) rfl rfl) ?_
  refine ar0 (s_call (c_tower_Short _ h5 np.1 (fun q hq => cp.qs (by omega) hq)) (.cons (.tmp rfl) .nil) rfl rfl) ?_
  refine aT ?_
  refine aC ?_
  refine hK6 _ ?_
  refine awp_ret ⟨_, (.cons (.tmp rfl) (.cons (.tmp rfl) .nil)), ?_⟩
  exact fin_eq2 (by rw [if_pos h1, h1, np.2]; rfl)
theorem c_tower_Cmp (rs : List (List Rt)) (r : Nat) (h : TR rs r) (a b : List Rt) (e f : Nat) (ha : NR a e) (hb : NR b f) (he : e + f ≤ 900000000) :
  FnC Tryz.prog 47 [towR rs, nR a, nR b] (.tup [i64 (if chksE rs [a, b] = 0 then T.sgn (rtsOf (llq rs)) rs.length (T.add rs.length (dec rs.length (lq a)) (T.neg rs.length (dec rs.length (lq b)))) else 0), errA (chksE rs [a, b])]) := by
 have hr := h.le
 refine con_of0 (N := 23) (rs := [.tmp 6, .tmp 7]) Tryz.func47 rfl rfl rfl rfl ?_
 refine sr fun K1 hK1=>?_
 refine bX ?_
 refine aC ?_
 refine aC ?_
 refine hK1 _ ?_
 refine awp_seq ?_; intro K2 hK2
 refine sr fun K3 hK3=>?_
 refine lP T30 ?_
 refine mT ?_
 refine mT ?_
 refine ar0 (s_buildLst rfl (.cons (.tmp rfl) (.cons (.tmp rfl) .nil)) T28 rfl T60 rfl rfl rfl rfl rfl rfl rfl rfl) ?_
 refine ar0 (s_call (c_tower_checks rs r h [a, b] (two_ok ha hb) (by simp)) (.cons (.tmp rfl) (.cons (.tmp rfl) .nil)) rfl rfl) ?_
 refine aT ?_
 refine hK3 _ ?_
 refine sr fun K4 hK4=>?_
 refine mT ?_
 refine ar0 (s_errNe (.tmp rfl) (by first | exact .inl rfl | exact .inr ⟨_, _, rfl⟩ | exact errV_or _) T41 rfl rfl) ?_
 refine hK4 _ ?_
 refine awp_cond (.tmp rfl) (fun ht15 => ?_) (fun ht15 => ?_)
 ·have h1 := nNil_t ht15
  refine sr fun K5 hK5=>?_
  refine mT ?_
  refine aC ?_
  refine aT ?_
  refine hK5 _ ?_
  refine awp_ret ⟨_, (.cons (.tmp rfl) (.cons (.tmp rfl) .nil)), ?_⟩
  exact fin_eq2 (by rw [if_neg h1]; rfl)
 ·have h1 := nNil_f ht15
  obtain ⟨h2, h3⟩ := chks_ok h1
  obtain ⟨tw, e0⟩ := chk_tw h h2
  obtain ⟨e1, na⟩ := ha.num (h3 a (by simp))
  obtain ⟨e2, nb⟩ := hb.num (h3 b (by simp))
  have hlen : (llq rs).length = rs.length := List.length_map _
  have h5 : rs.length ≤ 5 := by have := tw.five; omega
  have hla := na.len5 h5
  have hlb := nb.len5 h5
  have htw := tw.ok
  rw [hlen] at htw
  have qa : ∀ q ∈ lq a, Qs q := fun q hq => ha.cb.qs (by omega) hq
  have qb : ∀ q ∈ lq b, Qs q := fun q hq => hb.cb.qs (by omega) hq
  have qm : ∀ q ∈ minusL (lq b), Qs q := fun q hq => hb.cb.minus.qs (by omega) hq
  have np := nl_plus na (nl_minus nb)
  have hsg := c_tower_sign (llq rs) rs.length r htw h5 (by omega) rs.length _ _ (Nat.le_refl _) np (ha.cb.plus hb.cb.minus) (sB_tw h5 hr (by omega))
  refine awp_weaken (Wk.of (sl := [(1, some (nA (lq a))), (2, some (nA (lq b))), (3, some (.ptr 3 0)), (8, some (errA (chksE rs [a, b])))]) (hp := [(3, some (.box [.lst 1 ((llq rs).map nA)]))]) (.cons rfl (Sub.of e1) (.cons rfl (Sub.of e2) (.k (.k .nil)))) (.cons rfl (BlkSub.boxL (.cons (.of (towR_in e0)) .nil) rfl) .nil)) ?_
  refine awp_skip (hK2 _ ?_)
  refine awp_seq ?_; intro K6 hK6
  refine awp_region_draw mixedP ?_
  refine lP T30 ?_
  refine mT ?_
  refine mT ?_
  refine ar0 (s_call (c_tower_minus _ qb (by omega)) (.cons (.tmp rfl) .nil) rfl rfl) ?_
  refine ar0 (s_call (c_tower_plus _ _ qa qm (by omega) (by rw [len_minus]; omega)) (.cons (.tmp rfl) (.cons (.tmp rfl) .nil)) rfl rfl) ?_
  refine ar0 (s_call hsg (.cons (.tmp rfl) (.cons (.tmp rfl) .nil)) rfl rfl) ?_
  refine aT ?_
  refine aC ?_
  refine ⟨by kernel_rfl, ?_⟩
  refine hK6 _ ?_
  refine awp_ret ⟨_, (.cons (.tmp rfl) (.cons (.tmp rfl) .nil)), ?_⟩
  exact fin_eq2 (by rw [if_pos h1, h1, dec_plus, dec_minus]; rfl)
theorem c_tower_Sign (rs : List (List Rt)) (r : Nat) (h : TR rs r) (a : List Rt) (e : Nat) (ha : NR a e) (he : e ≤ 1000000000) :
  FnC Tryz.prog 196 [towR rs, nR a] (.tup [i64 (if chksE rs [a] = 0 then T.sgn (rtsOf (llq rs)) rs.length (dec rs.length (lq a)) else 0), errA (chksE rs [a])]) := by
 have hr := h.le
 refine con_of0 (N := 17) (rs := [.tmp 4, .tmp 5]) Tryz.func196 rfl rfl rfl rfl ?_
 refine sr fun K1 hK1=>?_
 refine bX ?_
 refine aC ?_
 refine aC ?_
 refine hK1 _ ?_
 refine awp_seq ?_; intro K2 hK2
 refine sr fun K3 hK3=>?_
 refine lP T30 ?_
 refine mT ?_
 refine ar0 (s_buildLst rfl (.cons (.tmp rfl) .nil) T28 rfl T60 rfl rfl rfl rfl rfl rfl rfl rfl) ?_
 refine ar0 (s_call (c_tower_checks rs r h [a] (fun x hx => by rw [List.mem_singleton.1 hx]; exact ⟨ha.ok, ha.len⟩) (by simp)) (.cons (.tmp rfl) (.cons (.tmp rfl) .nil)) rfl rfl) ?_
 refine aT ?_
 refine hK3 _ ?_
 refine sr fun K4 hK4=>?_
 refine mT ?_
 refine ar0 (s_errNe (.tmp rfl) (by first | exact .inl rfl | exact .inr ⟨_, _, rfl⟩ | exact errV_or _) T41 rfl rfl) ?_
 refine hK4 _ ?_
 refine awp_cond (.tmp rfl) (fun ht12 => ?_) (fun ht12 => ?_)
 ·have h1 := nNil_t ht12
  refine sr fun K5 hK5=>?_
  refine mT ?_
  refine aC ?_
  refine aT ?_
  refine hK5 _ ?_
  refine awp_ret ⟨_, (.cons (.tmp rfl) (.cons (.tmp rfl) .nil)), ?_⟩
  exact fin_eq2 (by rw [if_neg h1]; rfl)
 ·have h1 := nNil_f ht12
  obtain ⟨h2, h3⟩ := chks_ok h1
  obtain ⟨tw, e0⟩ := chk_tw h h2
  obtain ⟨e1, na⟩ := ha.num (h3 a (by simp))
  have hlen : (llq rs).length = rs.length := List.length_map _
  have h5 : rs.length ≤ 5 := by have := tw.five; omega
  have htw := tw.ok
  rw [hlen] at htw
  have hsg := c_tower_sign (llq rs) rs.length r htw h5 (by omega) rs.length _ _ (Nat.le_refl _) na ha.cb (sB_tw h5 hr (by omega))
  refine awp_weaken (Wk.of (sl := [(1, some (nA (lq a))), (2, some (.ptr 2 0)), (6, some (errA (chksE rs [a])))]) (hp := [(2, some (.box [.lst 1 ((llq rs).map nA)]))]) (.cons rfl (Sub.of e1) (.k (.k .nil))) (.cons rfl (BlkSub.boxL (.cons (.of (towR_in e0)) .nil) rfl) .nil)) ?_
  refine awp_skip (hK2 _ ?_)
  refine sr fun K6 hK6=>?_
  refine lP T30 ?_
  refine mT ?_
  refine ar0 (s_call hsg (.cons (.tmp rfl) (.cons (.tmp rfl) .nil)) rfl rfl) ?_
  refine aT ?_
  refine aC ?_
  refine hK6 _ ?_
  refine awp_ret ⟨_, (.cons (.tmp rfl) (.cons (.tmp rfl) .nil)), ?_⟩
  exact fin_eq2 (by rw [if_pos h1, h1]; rfl)
theorem c_tower_Of (x : Rt) (hx : x.ok) (hs : Qs x.q) : FnC Tryz.prog 96 [x.av] (nA (sh 0 (x.q : Rat))) := by
 have hadd := c_fraction_Add x (rt 0) hx Qs.zero.ok
 rw [ofsum] at hadd
 refine con_of0 (N := 8) (rs := [.tmp 2]) Tryz.func96 rfl rfl rfl rfl ?_
 refine sr fun K1 hK1=>?_
 refine bX ?_
 refine aC ?_
 refine hK1 _ ?_
 refine sr fun K2 hK2=>?_
 refine lP T68 ?_
 refine ar0 (s_build .nil T68 rfl rfl rfl rfl rfl) ?_
 refine ar0 (s_call (Con.subA (.cons (.refl _) (.cons sub_q0 .nil)) hadd) (.cons (.tmp rfl) (.cons (.tmp rfl) .nil)) rfl rfl) ?_
 refine ar0 (s_buildLst rfl (.cons (.tmp rfl) .nil) T60 rfl T68 rfl rfl rfl rfl rfl rfl rfl rfl) ?_
 refine ar0 (s_call (c_tower_Short (n := 0) [x.q] (by omega) (.inr ⟨0, Nat.le_refl _, rfl⟩) (fun q hq => by rw [List.mem_singleton.1 hq]; exact hs)) (.cons (.tmp rfl) .nil) rfl rfl) ?_
 refine aT ?_
 refine hK2 _ ?_
 refine awp_ret ⟨_, (.cons (.tmp rfl) .nil), ?_⟩
 exact fin_eq1 (by rfl)
end Go.Lw
namespace Go.Lw
open Go.Proofs
theorem c_r04_power (n : Nat) (hn : n ≤ 281474976710656) : FnC Tryz.prog 165 [i64 n] (.tup [i64 (pwk n), bl (pwb n)]) := by
 refine con_of0 (N := 14) (rs := [.tmp 2, .tmp 3]) Tryz.func165 rfl rfl rfl rfl ?_
 refine sr fun K1 hK1=>?_
 refine aC ?_
 refine aC ?_
 refine hK1 _ ?_
 refine awp_seq ?_; intro K2 hK2
 refine sr fun K3 hK3=>?_
 refine ar0 (s_move (.const _) rfl) ?_
 refine hK3 _ ?_
 refine awp_block ?_
 refine awp_loop (fun n_ s_ => ∃ (k : Nat), 6 - k = n_ ∧ (k ≤ 6 ∧ ∀ j, j < k → n ≠ 2 ^ j) ∧ s_ = (⟨[(0, some (i64 n)), (5, some (i64 k))], []⟩ : AS))
  (n := ((fun (k : Nat) => 6 - k) (0))) (s' := ((fun (k : Nat) => (⟨[(0, some (i64 n)), (5, some (i64 k))], []⟩ : AS)) (0)))
  (Wk.of (.k (.k .nil)) .nil) ⟨0, rfl, ⟨by omega, fun j h => by omega⟩, rfl⟩ ?_
 intro n_ s_ hI K4 hK4
 obtain ⟨k, rfl, ⟨hk, hj⟩, rfl⟩ := hI
 refine sr fun K5 hK5=>?_
 refine ar0 (s_cmp (.tmp rfl) (.const _) rfl rfl) ?_
 refine hK5 _ ?_
 refine awp_seq ?_; intro K6 hK6
 refine awp_cond (.tmp rfl) (fun ht6 => ?_) (fun ht6 => ?_)
 ·have h1 : k < 6 := by have := ht6; simp only [icmp, decide_eq_true_eq] at this; omega
  refine awp_skip (hK6 _ ?_)
  refine awp_seq ?_; intro K7 hK7
  refine awp_block ?_
  refine sr fun K8 hK8=>?_
  refine mT ?_
  refine aT ?_
  refine hK8 _ ?_
  refine sr fun K9 hK9=>?_
  refine mT ?_
  refine mT ?_
  refine ar0 (s_shlW (.const _) (.tmp rfl) (by omega) (i64_shl1 (by omega)) rfl) ?_
  refine ar0 (s_cmp (.tmp rfl) (.tmp rfl) rfl rfl) ?_
  refine hK9 _ ?_
  refine awp_cond (.tmp rfl) (fun ht11 => ?_) (fun ht11 => ?_)
  ·have h2 : n = 2 ^ k := by have := ht11; simp only [icmp, beq_iff_eq] at this; omega
   refine sr fun K10 hK10=>?_
   refine mT ?_
   refine aT ?_
   refine aC ?_
   refine hK10 _ ?_
   refine awp_ret ⟨_, (.cons (.tmp rfl) (.cons (.tmp rfl) .nil)), ?_⟩
   exact fin_eq2 (by rw [h2, (pw_of (by omega)).1, (pw_of (by omega)).2]; rfl)
  ·have h2 : n ≠ 2 ^ k := by have := ht11; simp only [icmp, beq_eq_false_iff_ne, ne_eq] at this; omega
   refine awp_skip (hK7 _ ?_)
   refine awp_region ?_
   refine ar0 (s_arithW (.tmp rfl) (.const _) rfl (i64_addI (by omega)) rfl) ?_
   refine mT ?_
   refine hK4 _ ((fun (k : Nat) => (⟨[(0, some (i64 n)), (5, some (i64 k))], []⟩ : AS)) (k + 1)) ((fun (k : Nat) => 6 - k) (k + 1)) (Wk.of (.k (.k .nil)) .nil) ⟨k + 1, rfl, ⟨by omega, fun j h => by rcases Nat.lt_or_ge j k with h3 | h3; exact hj j h3; (have : j = k := by omega); subst this; exact h2⟩, rfl⟩ (by first | omega | (dsimp only; omega))
 ·have h1 : k = 6 := by have := ht6; simp only [icmp, decide_eq_false_iff_not] at this; omega
  subst h1
  refine awp_exit ?_
  refine hK2 _ ?_
  refine sr fun K11 hK11=>?_
  refine aC ?_
  refine aC ?_
  refine hK11 _ ?_
  refine awp_ret ⟨_, (.cons (.tmp rfl) (.cons (.tmp rfl) .nil)), ?_⟩
  exact fin_eq2 (by rw [(pw_none hj).1, (pw_none hj).2]; rfl)
theorem c_r04_Number (m : Nat) (hm : m ≤ 5) (a : List Rt) (ha : ∀ r ∈ a, r.ok) (hl : a.length ≤ 281474976710656) : FnC Tryz.prog 144 [i64 m, nR a] (i64 (numE m a)) := by
  refine con_of0 (N := 37) (rs := [.tmp 4]) Tryz.func144 rfl rfl rfl rfl ?_
  refine sr fun K1 hK1=>?_
  refine aC ?_
  refine hK1 _ ?_
  refine sr fun K2 hK2=>?_
  refine mT ?_
  refine ar0 (s_lenMap (.tmp rfl) T60 rfl rfl) ?_
  refine ar0 (s_call (c_r04_power a.length hl) (.cons (.tmp rfl) .nil) rfl rfl) ?_
  refine mT ?_
  refine ar0 (s_extract (.tmp rfl) rfl rfl) ?_
  refine ar0 (s_extract (.tmp rfl) rfl rfl) ?_
  refine aT ?_
  refine aT ?_
  refine hK2 _ ?_
  refine awp_seq ?_; intro K3 hK3
  refine sr fun K4 hK4=>?_
  refine mT ?_
  refine ar0 (s_lenMap (.tmp rfl) T60 rfl rfl) ?_
  refine ar0 (s_cmp (.tmp rfl) (.const _) rfl rfl) ?_
  refine mT ?_
  refine ar0 (s_guard rfl rfl rfl (fun h => s_move (.tmp rfl) rfl)) ?_
  refine ar0 (s_guard rfl rfl rfl (fun h => s_not (.opt rfl (o1 h)) rfl)) ?_
  refine ar0 (s_guard rfl rfl rfl (fun h => s_move (.opt rfl (o1 h)) rfl)) ?_
  refine ar0 (s_guardO rfl rfl rfl (fun h h2 => s_move (.tmp rfl) rfl)) ?_
  refine ar0 (s_guardO rfl rfl rfl (fun h h2 => s_move (.tmp rfl) rfl)) ?_
  refine ar0 (s_guardO rfl rfl rfl (fun h h2 => s_cmp (.opt rfl (o2 h h2)) (.opt rfl (o2 h h2)) rfl rfl)) ?_
  refine ar0 (s_guard rfl rfl rfl (fun h => s_pick (.opt rfl (o1 h)) (fun _ => .const _) (fun hp => .opt rfl (o2 (o1 h) hp)) rfl)) ?_
  refine ar0 (s_pick (.tmp rfl) (fun hp => .opt rfl (o1 hp)) (fun _ => .const _) rfl) ?_
  refine hK4 _ ?_
  refine awp_cond (.tmp rfl) (fun ht26 => ?_) (fun ht26 => ?_)
  · have h1 : a ≠ [] ∧ (lvl a.length < 0 ∨ (m : Int) < lvl a.length) := (numE_ref hm a).2 (num_yes ht26)
    refine sr fun K5 hK5=>?_
    refine aC ?_
    refine hK5 _ ?_
    refine awp_ret ⟨_, (.cons (.tmp rfl) .nil), ?_⟩
    exact fin_eq1 (by unfold numE; rw [if_pos h1]; rfl)
  · have hn : ¬ (a ≠ [] ∧ (lvl a.length < 0 ∨ (m : Int) < lvl a.length)) := fun h => num_no ht26 ((numE_ref hm a).1 h)
    refine awp_skip (hK3 _ ?_)
    refine awp_seq ?_; intro K6 hK6
    refine sr fun K7 hK7=>?_
    refine mT ?_
    refine ar0 (s_lenMap (.tmp rfl) T60 rfl rfl) ?_
    refine ar0 (s_move (.const _) rfl) ?_
    refine hK7 _ ?_
    refine awp_block ?_
    refine awp_loop (fun n_ s_ => ∃ (i : Nat), a.length - i = n_ ∧ (i ≤ a.length ∧ (a.take i).all Rt.valid = true) ∧ s_ = (⟨[(27, some (nR a)), (28, some (i64 a.length)), (29, some (i64 i))], []⟩ : AS))
      (n := ((fun (i : Nat) => a.length - i) (0))) (s' := ((fun (i : Nat) => (⟨[(27, some (nR a)), (28, some (i64 a.length)), (29, some (i64 i))], []⟩ : AS)) (0)))
      (Wk.of (.k (.k (.k .nil))) .nil) ⟨0, rfl, ⟨Nat.zero_le _, by simp⟩, rfl⟩ ?_
    intro n_ s_ hI K8 hK8
    obtain ⟨i, rfl, ⟨hi, hv⟩, rfl⟩ := hI
    refine sr fun K9 hK9=>?_
    refine ar0 (s_cmp (.tmp rfl) (.tmp rfl) rfl rfl) ?_
    refine hK9 _ ?_
    refine awp_seq ?_; intro K10 hK10
    refine awp_cond (.tmp rfl) (fun ht30 => ?_) (fun ht30 => ?_)
    · have hin : i < a.length := by simpa [icmp] using ht30
      obtain ⟨r, hr⟩ := getx hin
      have hrok := ha r (List.mem_of_getElem? hr)
      refine awp_skip (hK10 _ ?_)
      refine awp_seq ?_; intro K11 hK11
      refine awp_block ?_
      refine sr fun K12 hK12=>?_
      refine ar0 (s_idxLst (.tmp rfl) (.tmp rfl) T60 rfl T68 rfl (by omega) (getmap hr) rfl) ?_
      refine ar0 (s_loadIptr (.tmp rfl) T68 rfl rfl rfl) ?_
      refine al T68 ?_
      refine sP T68 ?_
      refine hK12 _ ?_
      refine sr fun K13 hK13=>?_
      refine lP T68 ?_
      refine ar0 (s_call (c_r02_Valid r hrok) (.cons (.tmp rfl) .nil) rfl rfl) ?_
      refine ar0 (s_not (.tmp rfl) rfl) ?_
      refine hK13 _ ?_
      refine awp_cond (.tmp rfl) (fun ht35 => ?_) (fun ht35 => ?_)
      · have hrv : r.valid = false := by simpa using ht35
        refine sr fun K14 hK14=>?_
        refine aC ?_
        refine hK14 _ ?_
        refine awp_ret ⟨_, (.cons (.tmp rfl) .nil), ?_⟩
        exact fin_eq1 (by
          unfold numE
          rw [if_neg hn, if_neg]
          · rfl
          · rw [List.all_eq_true]
            intro h
            rw [h r (List.mem_of_getElem? hr)] at hrv; cases hrv)
      · have hrv : r.valid = true := by simpa using ht35
        refine awp_skip (hK11 _ ?_)
        refine awp_region ?_
        refine ar0 (s_arithW (.tmp rfl) (.const _) rfl (i64_add1 (by unfold maxL; omega)) rfl) ?_
        refine mT ?_
        refine hK8 _ ((fun (i : Nat) => (⟨[(27, some (nR a)), (28, some (i64 a.length)), (29, some (i64 i))], []⟩ : AS)) (i + 1)) ((fun (i : Nat) => a.length - i) (i + 1)) (Wk.of (.k (.k (.k .nil))) .nil) ⟨i + 1, rfl, ⟨by omega, by rw [take_succ_get hr, List.all_append, hv]; simp [hrv]⟩, rfl⟩ (by first | omega | (dsimp only; omega))
    · have hin : i = a.length := by have : a.length ≤ i := by simpa [icmp] using ht30
                                    omega
      subst hin
      rw [List.take_length] at hv
      refine awp_exit ?_
      refine hK6 _ ?_
      refine sr fun K15 hK15=>?_
      refine aC ?_
      refine hK15 _ ?_
      refine awp_ret ⟨_, (.cons (.tmp rfl) .nil), ?_⟩
      exact fin_eq1 (by unfold numE; rw [if_neg hn, if_pos hv]; rfl)
theorem c_r04_plain (a : List Rat) (hl : a.length ≤ 281474976710656) : FnC Tryz.prog 166 [nA a] (bl (zeroL a)) := by
  refine con_of0 (N := 26) (rs := [.tmp 2]) Tryz.func166 rfl rfl rfl rfl ?_
  refine sr fun K1 hK1=>?_
  refine aC ?_
  refine hK1 _ ?_
  refine awp_seq ?_; intro K2 hK2
  refine sr fun K3 hK3=>?_
  refine mT ?_
  refine ar0 (s_lenMap (.tmp rfl) T60 rfl rfl) ?_
  refine ar0 (s_move (.const _) rfl) ?_
  refine hK3 _ ?_
  refine awp_block ?_
  refine awp_loop (fun n_ s_ => ∃ (i : Nat), a.length - i = n_ ∧ (i ≤ a.length ∧ zeroL (a.take i) = true) ∧ s_ = (⟨[(5, some (nA a)), (6, some (i64 a.length)), (7, some (i64 i))], []⟩ : AS))
    (n := ((fun (i : Nat) => a.length - i) (0))) (s' := ((fun (i : Nat) => (⟨[(5, some (nA a)), (6, some (i64 a.length)), (7, some (i64 i))], []⟩ : AS)) (0)))
    (Wk.of (.k (.k (.k .nil))) .nil) ⟨0, rfl, ⟨Nat.zero_le _, by simp [zeroL]⟩, rfl⟩ ?_
  intro n_ s_ hI K4 hK4
  obtain ⟨i, rfl, ⟨hi, hv⟩, rfl⟩ := hI
  refine sr fun K5 hK5=>?_
  refine ar0 (s_cmp (.tmp rfl) (.tmp rfl) rfl rfl) ?_
  refine hK5 _ ?_
  refine awp_seq ?_; intro K6 hK6
  refine awp_cond (.tmp rfl) (fun ht8 => ?_) (fun ht8 => ?_)
  · have hin : i < a.length := by simpa [icmp] using ht8
    obtain ⟨q, hq⟩ := getx hin
    refine awp_skip (hK6 _ ?_)
    refine awp_seq ?_; intro K7 hK7
    refine awp_block ?_
    refine sr fun K8 hK8=>?_
    refine ar0 (s_idxLst (.tmp rfl) (.tmp rfl) T60 rfl T68 rfl (by omega) (getmap hq) rfl) ?_
    refine ar0 (s_loadIptr (.tmp rfl) T68 rfl rfl rfl) ?_
    refine al T68 ?_
    refine sP T68 ?_
    refine hK8 _ ?_
    refine sr fun K9 hK9=>?_
    refine fP T68 ?_
    refine lP T4 ?_
    refine mT ?_
    refine ar0 (s_guard rfl rfl rfl (fun h => s_fldPtr (.tmp rfl) T68 rfl rfl rfl rfl)) ?_
    refine ar0 (s_guard rfl rfl rfl (fun h => s_loadPtr (.opt rfl (o1 h)) rfl T66 rfl rfl rfl)) ?_
    refine ar0 (s_guard rfl rfl rfl (fun h => s_lenMap (.opt rfl (o1 h)) T66 rfl rfl)) ?_
    refine ar0 (s_guard rfl rfl rfl (fun h => s_cmp (.opt rfl (o1 h)) (.const _) rfl rfl)) ?_
    refine ar0 (s_pick (.tmp rfl) (fun _ => .const _) (fun hp => .opt rfl (o1 hp)) rfl) ?_
    refine mT ?_
    refine ar0 (s_guard rfl rfl rfl (fun h => s_fldPtr (.tmp rfl) T68 rfl rfl rfl rfl)) ?_
    refine ar0 (s_guard rfl rfl rfl (fun h => s_loadPtr (.opt rfl (o1 h)) rfl T66 rfl rfl rfl)) ?_
    refine ar0 (s_guard rfl rfl rfl (fun h => s_lenMap (.opt rfl (o1 h)) T66 rfl rfl)) ?_
    refine ar0 (s_guard rfl rfl rfl (fun h => s_cmp (.opt rfl (o1 h)) (.const _) rfl rfl)) ?_
    refine ar0 (s_pick (.tmp rfl) (fun _ => .const _) (fun hp => .opt rfl (o1 hp)) rfl) ?_
    refine hK9 _ ?_
    refine awp_cond (.tmp rfl) (fun ht24 => ?_) (fun ht24 => ?_)
    · have h0 : q ≠ 0 := plain_no ht24
      refine sr fun K10 hK10=>?_
      refine aC ?_
      refine hK10 _ ?_
      refine awp_ret ⟨_, (.cons (.tmp rfl) .nil), ?_⟩
      exact fin_eq1 (by
        have : zeroL a = false := by
          rw [Bool.eq_false_iff]
          intro h
          exact h0 (by simpa using List.all_eq_true.1 h q (List.mem_of_getElem? hq))
        rw [this]; rfl)
    · have h0 : q = 0 := plain_yes ht24
      refine awp_skip (hK7 _ ?_)
      refine awp_region ?_
      refine ar0 (s_arithW (.tmp rfl) (.const _) rfl (i64_add1 (by unfold maxL; omega)) rfl) ?_
      refine mT ?_
      refine hK4 _ ((fun (i : Nat) => (⟨[(5, some (nA a)), (6, some (i64 a.length)), (7, some (i64 i))], []⟩ : AS)) (i + 1)) ((fun (i : Nat) => a.length - i) (i + 1)) (Wk.of (.k (.k (.k .nil))) .nil) ⟨i + 1, rfl, ⟨by omega, by rw [take_succ_get hq]; simp only [zeroL, List.all_append, Bool.and_eq_true]; exact ⟨hv, by simp [h0]⟩⟩, rfl⟩ (by first | omega | (dsimp only; omega))
  · have hin : i = a.length := by have : a.length ≤ i := by simpa [icmp] using ht8
                                  omega
    subst hin
    rw [List.take_length] at hv
    refine awp_exit ?_
    refine hK2 _ ?_
    refine sr fun K11 hK11=>?_
    refine aC ?_
    refine hK11 _ ?_
    refine awp_ret ⟨_, (.cons (.tmp rfl) .nil), ?_⟩
    exact fin_eq1 (by rw [hv]; rfl)
theorem c_r04_Short {n : Nat} (a : List Rat) (hn : n ≤ 5) (ha : Nl n a) : FnC Tryz.prog 110 [nA a] (nA (sh n (dec n a))) := by
 have hl := ha.len5 hn
 rw [← shortL_sh ha hn]
 refine con_of0 (N := 43) (rs := [.tmp 2]) Tryz.func110 rfl rfl rfl rfl ?_
 refine sr fun K1 hK1=>?_
 refine aC ?_
 refine hK1 _ ?_
 refine sr fun K2 hK2=>?_
 refine mT ?_
 refine ar0 (s_lenMap (.tmp rfl) T60 rfl rfl) ?_
 refine ar0 (s_call (c_r04_power a.length (by omega)) (.cons (.tmp rfl) .nil) rfl rfl) ?_
 refine mT ?_
 refine ar0 (s_extract (.tmp rfl) rfl rfl) ?_
 refine ar0 (s_extract (.tmp rfl) rfl rfl) ?_
 refine aT ?_
 refine aT ?_
 refine hK2 _ ?_
 refine awp_seq ?_; intro K3 hK3
 refine sr fun K4 hK4=>?_
 refine mT ?_
 refine ar0 (s_not (.tmp rfl) rfl) ?_
 refine hK4 _ ?_
 refine awp_cond (.tmp rfl) (fun ht13 => ?_) (fun ht13 => ?_)
 ·have h0 : a = [] := by
   rcases ha with h | ⟨j, hj, h⟩
   ·exact h
   ·have h9 := ht13
    rw [h, (pw_of (by omega)).2] at h9; cases h9
  refine sr fun K5 hK5=>?_
  refine ar (s_buildMs0 T60 rfl T68 rfl rfl rfl) (newOk_of rfl) ?_
  refine mT ?_
  refine ar (s_appendF (.tmp rfl) rfl rfl (.tmp rfl) T60 rfl T68 rfl rfl (by simp [h0]) rfl rfl) (newOk_of rfl) ?_
  refine aT ?_
  refine hK5 _ ?_
  refine awp_ret ⟨_, (.cons (.tmp rfl) .nil), ?_⟩
  exact fin_eq1 (by subst h0; rfl)
 ·skip
  refine awp_skip (hK3 _ ?_)
  refine sr fun K6 hK6=>?_
  refine mT ?_
  refine ar0 (s_lenMap (.tmp rfl) T60 rfl rfl) ?_
  refine aT ?_
  refine hK6 _ ?_
  refine awp_seq ?_; intro K7 hK7
  refine awp_block ?_
  refine awp_loop (fun n_ s_ => ∃ (m : Nat), m = n_ ∧ (ShOk a m) ∧ s_ = (⟨[(0, some (nA a)), (5, some (i64 m))], []⟩ : AS))
   (n := ((fun (m : Nat) => m) (a.length))) (s' := ((fun (m : Nat) => (⟨[(0, some (nA a)), (5, some (i64 m))], []⟩ : AS)) (a.length)))
   (Wk.of (.k (.k .nil)) .nil) ⟨a.length, rfl, (sh_init (ha.mono hn)), rfl⟩ ?_
  intro n_ s_ hI K8 hK8
  obtain ⟨m, rfl, hm, rfl⟩ := hI
  refine awp_seq ?_; intro K9 hK9
  refine sr fun K10 hK10=>?_
  refine mT ?_
  refine ar0 (s_cmp (.tmp rfl) (.const _) rfl rfl) ?_
  refine mT ?_
  refine ar0 (s_guard rfl rfl rfl (fun h => s_move (.tmp rfl) rfl)) ?_
  refine ar0 (s_guard rfl rfl rfl (fun h => s_move (.tmp rfl) rfl)) ?_
  refine ar0 (s_guard rfl rfl rfl (fun h => s_quoW (.opt rfl (o1 h)) (.const _) (by omega) (i64_half (by have := hm.le; omega)) rfl)) ?_
  refine ar0 (s_guard rfl rfl rfl (fun h => s_move (.tmp rfl) rfl)) ?_
  refine ar0 (s_guard rfl rfl rfl (fun h => s_sliceLst (.opt rfl (o1 h)) (.some _ (.opt rfl (o1 h)) (by omega)) (.some _ (.opt rfl (o1 h)) (by omega)) T60 rfl T68 rfl (by omega) (by have := hm.le; simp; omega) rfl)) ?_
  refine ar0 (s_guard rfl rfl rfl (fun h => s_call (by have h9 := c_r04_plain ((a.drop (m / 2)).take (m - m / 2)) (by simp; omega); rw [← nA_cut] at h9; exact h9) (.cons (.opt rfl (o1 h)) .nil) rfl rfl)) ?_
  refine ar0 (s_pick (.tmp rfl) (fun hp => .opt rfl (o1 hp)) (fun _ => .const _) rfl) ?_
  refine hK10 _ ?_
  refine awp_cond (.tmp rfl) (fun ht28 => ?_) (fun ht28 => ?_)
  ·have h1 : 1 < m ∧ zeroL ((a.drop (m / 2)).take (m - m / 2)) = true := by
    have h9 := ht28
    by_cases h : (m : Int) > 1
    ·simp only [icmp, decide_eq_true h, cond_true] at h9; exact ⟨by omega, h9⟩
    ·simp only [icmp, decide_eq_false h, cond_false] at h9; cases h9
   refine awp_skip (hK9 _ ?_)
   refine awp_block ?_
   refine awp_region ?_
   refine mT ?_
   refine ar0 (s_quoW (.tmp rfl) (.const _) (by omega) (i64_half (by have := hm.le; omega)) rfl) ?_
   refine aT ?_
   refine hK8 _ ((fun (m : Nat) => (⟨[(0, some (nA a)), (5, some (i64 m))], []⟩ : AS)) (m / 2)) ((fun (m : Nat) => m) (m / 2)) (Wk.of (.k (.k .nil)) .nil) ⟨m / 2, rfl, (sh_step hm h1.1 h1.2), rfl⟩ (by first | omega | (dsimp only; omega))
  ·have h1 : 1 < m → zeroL ((a.drop (m / 2)).take (m - m / 2)) = false := by
    intro h
    have h9 := ht28
    simp only [icmp, decide_eq_true (show (m : Int) > 1 by omega), cond_true] at h9
    exact h9
   refine awp_exit ?_
   refine hK7 _ ?_
   refine awp_seq ?_; intro K11 hK11
   refine sr fun K12 hK12=>?_
   refine mT ?_
   refine ar0 (s_cmp (.tmp rfl) (.const _) rfl rfl) ?_
   refine mT ?_
   refine ar0 (s_guard rfl rfl rfl (fun h => s_move (.tmp rfl) rfl)) ?_
   refine ar0 (s_guard rfl rfl rfl (fun h => s_sliceLst (.opt rfl (o1 h)) (.none _) (.some _ (.const _) (by omega)) T60 rfl T68 rfl (by omega) (by have h8 : (m : Int) = 1 := (by simpa [icmp] using h); have := hm.le; simp only [List.length_map]; omega) rfl)) ?_
   refine ar0 (s_guard rfl rfl rfl (fun h => s_call (by have h9 := c_r04_plain ((a.drop 0).take 1) (by simp; omega); rw [← nA_cut] at h9; exact h9) (.cons (.opt rfl (o1 h)) .nil) rfl rfl)) ?_
   refine ar0 (s_pick (.tmp rfl) (fun hp => .opt rfl (o1 hp)) (fun _ => .const _) rfl) ?_
   refine hK12 _ ?_
   refine awp_cond (.tmp rfl) (fun ht37 => ?_) (fun ht37 => ?_)
   ·have h2 : m = 1 ∧ zeroL (a.take 1) = true := by
     have h9 := ht37
     by_cases h : m = 1
     ·rw [h] at h9; exact ⟨h, h9⟩
     ·rw [show icmp .eql (m : Int) 1 = false by simp [icmp]; omega] at h9; cases h9
    obtain ⟨rfl, h3⟩ := h2
    refine sr fun K13 hK13=>?_
    refine aC ?_
    refine hK13 _ ?_
    refine awp_ret ⟨_, (.cons (.tmp rfl) .nil), ?_⟩
    exact fin_sub1 (by rw [sh_end1 hm h3]; exact Sub.nil _ _ _)
   ·have h2 : m = 1 → zeroL (a.take 1) = false := by
     intro h
     have h9 := ht37
     rw [h] at h9; exact h9
    have h3 := sh_end2 hm h1 h2
    refine awp_skip (hK11 _ ?_)
    refine sr fun K14 hK14=>?_
    refine ar (s_buildMs0 T60 rfl T68 rfl rfl rfl) (newOk_of rfl) ?_
    refine mT ?_
    refine mT ?_
    refine ar0 (s_sliceLst (.tmp rfl) (.none _) (.some _ (.tmp rfl) (by omega)) T60 rfl T68 rfl (by omega) (by have := hm.le; simp; omega) rfl) ?_
    refine ar (s_appendF (.tmp rfl) rfl rfl (.tmp rfl) T60 rfl T68 rfl rfl (by simp only [List.length_take, List.length_drop, List.length_map]; omega) rfl rfl) (newOk_of rfl) ?_
    refine aT ?_
    refine hK14 _ ?_
    refine awp_ret ⟨_, (.cons (.tmp rfl) .nil), ?_⟩
    exact fin_eq1 (by
     rw [h3]
     simp [nA, resT, List.map_take])
theorem c_r04_wideO (d : Nat) (hd : Nat.blt d 1000 = true) (a : List Rat) (n : Nat) (hl : a.length ≤ n) (hn : n ≤ 1099511627776) :
  Con Tryz.prog 146 [nA a, i64 n] [] (.ms d 3 0 n) [(d, some (.row 3 ((wideL a n).map qA)))] := by
 refine con_of (N := 18) (rs := [.tmp 4]) Tryz.func146 rfl rfl rfl rfl (fun k z h => by cases h) ?_
 refine sr fun K1 hK1=>?_
 refine aC ?_
 refine hK1 _ ?_
 refine sr fun K2 hK2=>?_
 refine ar (s_buildMs0 T60 rfl T68 rfl rfl rfl) (newOk_of rfl) ?_
 refine mT ?_
 refine ar (s_append (.tmp rfl) rfl rfl (.tmp rfl) T60 rfl T68 rfl rfl (by simp only [List.length_map]; omega) rfl rfl) (newOk_of rfl) ?_
 refine aT ?_
 refine hK2 _ ?_
 refine awp_weaken (Wk.of (sl := [(1, some (i64 n)), (5, some (.ms 8 3 0 a.length))]) (hp := [(8, some (.row 3 ((wideL a a.length).map qA)))]) (.k (.cons rfl (Sub.of (by simp)) .nil)) (.cons rfl (BlkSub.of (by simp [wideL])) .nil)) ?_
 refine awp_weaken (Wk.rekey (k := 8) (d := 900) rfl rfl) ?_
 refine awp_seq ?_; intro K3 hK3
 refine awp_block ?_
 refine awp_loop (fun n_ s_ => ∃ (i : Nat), n - i = n_ ∧ (a.length ≤ i ∧ i ≤ n) ∧ s_ = (⟨[(1, some (i64 n)), (5, some (.ms 900 3 0 i))], [(900, some (.row 3 ((wideL a i).map qA)))]⟩ : AS))
  (n := ((fun (i : Nat) => n - i) (a.length))) (s' := ((fun (i : Nat) => (⟨[(1, some (i64 n)), (5, some (.ms 900 3 0 i))], [(900, some (.row 3 ((wideL a i).map qA)))]⟩ : AS)) (a.length)))
  (Wk.of (.k (.k .nil)) (.cons rfl (.refl _) .nil)) ⟨a.length, rfl, ⟨Nat.le_refl _, hl⟩, rfl⟩ ?_
 intro n_ s_ hI K4 hK4
 obtain ⟨i, rfl, ⟨hi, hin⟩, rfl⟩ := hI
 refine awp_seq ?_; intro K5 hK5
 refine sr fun K6 hK6=>?_
 refine mT ?_
 refine ar0 (s_lenMs (.tmp rfl) T60 rfl rfl) ?_
 refine mT ?_
 refine ar0 (s_cmp (.tmp rfl) (.tmp rfl) rfl rfl) ?_
 refine hK6 _ ?_
 refine awp_cond (.tmp rfl) (fun ht12 => ?_) (fun ht12 => ?_)
 ·have h1 : i < n := by have := ht12; simp only [icmp, decide_eq_true_eq] at this; omega
  refine awp_skip (hK5 _ ?_)
  refine awp_block ?_
  refine awp_region ?_
  refine mT ?_
  refine ar0 (s_build .nil T68 rfl rfl rfl rfl rfl) ?_
  refine ar0 (s_buildLst rfl (.cons (.tmp rfl) .nil) T60 rfl T68 rfl rfl rfl rfl rfl rfl rfl rfl) ?_
  refine ar (s_append (.tmp rfl) rfl (by rw [List.length_map, len_wide hi]) (.tmp rfl) T60 rfl T68 rfl rfl (by simp; omega) rfl rfl) (newOk_of rfl) ?_
  refine aT ?_
  refine hK4 _ ((fun (i : Nat) => (⟨[(1, some (i64 n)), (5, some (.ms 900 3 0 i))], [(900, some (.row 3 ((wideL a i).map qA)))]⟩ : AS)) (i + 1)) ((fun (i : Nat) => n - i) (i + 1)) ((Wk.of (sl := [(1, some (i64 n)), (5, some (.ms 16 3 0 (i + 1)))]) (hp := [(16, some (.row 3 ((wideL a (i + 1)).map qA)))]) (.k (.k .nil)) (.cons rfl (wide_app a i hi) .nil)).trans <| (Wk.rekey (k := 16) (d := 900) rfl rfl).trans <| Wk.of (.k (.k .nil)) (.cons rfl (.refl _) .nil)) ⟨i + 1, rfl, ⟨by omega, h1⟩, rfl⟩ (by first | omega | (dsimp only; omega))
 ·have h1 : i = n := by have := ht12; simp only [icmp, decide_eq_false_iff_not] at this; omega
  subst h1
  refine awp_exit ?_
  refine hK3 _ ?_
  refine sr fun K7 hK7=>?_
  refine mT ?_
  refine aT ?_
  refine hK7 _ ?_
  refine awp_ret ⟨_, (.cons (.tmp rfl) .nil), ?_⟩
  exact Fin.own1 rfl hd rfl
theorem c_r04_wide (a : List Rat) (n : Nat) (hl : a.length ≤ n) (hn : n ≤ 1099511627776) : FnC Tryz.prog 146 [nA a, i64 n] (nA (wideL a n)) := by
 have h := Con.freeze (by rw [List.length_map, len_wide hl]; omega) (c_r04_wideO 0 rfl a n hl hn)
 rw [List.drop_zero, List.take_of_length_le (by rw [List.length_map, len_wide hl]; exact Nat.le_refl _)] at h
 exact h
theorem c_r04_plus (a b : List Rat) (ha : ∀ q ∈ a, Qs q) (hb : ∀ q ∈ b, Qs q) (la : a.length ≤ 1099511627776) (lb : b.length ≤ 1099511627776) : FnC Tryz.prog 111 [nA a, nA b] (nA (plusL a b)) := by
  obtain ⟨n, hn⟩ : ∃ n, n = max a.length b.length := ⟨_, rfl⟩
  have hwa := len_wide (show a.length ≤ n by omega)
  have hwb := len_wide (show b.length ≤ n by omega)
  have hp := len_plus (a := a) (b := b)
  rw [← hn] at hp
  have qa : ∀ q ∈ wideL a n, Qs q := fun q hq => by rcases List.mem_append.1 hq with h | h; exact ha q h; (rw [(List.mem_replicate.1 h).2]; exact Qs.zero)
  have qb : ∀ q ∈ wideL b n, Qs q := fun q hq => by rcases List.mem_append.1 hq with h | h; exact hb q h; (rw [(List.mem_replicate.1 h).2]; exact Qs.zero)
  refine con_of0 (N := 37) (rs := [.tmp 4]) Tryz.func111 rfl rfl rfl rfl ?_
  refine sr fun K1 hK1=>?_
  refine aC ?_
  refine hK1 _ ?_
  refine sr fun K2 hK2=>?_
  refine mT ?_
  refine ar0 (s_lenMap (.tmp rfl) T60 rfl rfl) ?_
  refine mT ?_
  refine ar0 (s_lenMap (.tmp rfl) T60 rfl rfl) ?_
  refine ar0 (s_max (.tmp rfl) (.tmp rfl) rfl) ?_
  refine aT ?_
  refine hK2 _ ?_
  refine awp_weaken (Wk.of (sl := [(0, some (nA a)), (1, some (nA b)), (5, some (i64 n))]) (hp := []) (.cons rfl (.refl _) (.cons rfl (.refl _) (.cons rfl (Sub.int (by omega)) .nil))) .nil) ?_
  refine sr fun K3 hK3=>?_
  refine mT ?_
  refine mT ?_
  refine ar (s_callH (c_r04_wideO 900 rfl a n (by omega) (by omega)) (.cons (.tmp rfl) (.cons (.tmp rfl) .nil)) (by first | exact hH0 | exact hH1 rfl | exact hH2 rfl rfl) rfl rfl) (newOk_of rfl) ?_
  refine mT ?_
  refine mT ?_
  refine ar0 (s_call (c_r04_wide b n (by omega) (by omega)) (.cons (.tmp rfl) (.cons (.tmp rfl) .nil)) rfl rfl) ?_
  refine aT ?_
  refine aT ?_
  refine hK3 _ ?_
  refine awp_seq ?_; intro K4 hK4
  refine sr fun K5 hK5=>?_
  refine mT ?_
  refine ar0 (s_lenMs (.tmp rfl) T60 rfl rfl) ?_
  refine ar0 (s_move (.const _) rfl) ?_
  refine hK5 _ ?_
  refine awp_block ?_
  refine awp_loop (fun n_ s_ => ∃ (i : Nat), n - i = n_ ∧ (i ≤ n) ∧ s_ = (⟨[(0, some (.ms 900 3 0 n)), (1, some (nA (wideL b n))), (19, some (i64 n)), (20, some (i64 i))], [(900, some (.row 3 (((plusL a b).take i ++ (wideL a n).drop i).map qA)))]⟩ : AS))
    (n := ((fun (i : Nat) => n - i) (0))) (s' := ((fun (i : Nat) => (⟨[(0, some (.ms 900 3 0 n)), (1, some (nA (wideL b n))), (19, some (i64 n)), (20, some (i64 i))], [(900, some (.row 3 (((plusL a b).take i ++ (wideL a n).drop i).map qA)))]⟩ : AS)) (0)))
    (Wk.of (.k (.k (.k (.k .nil)))) (.cons rfl (.refl _) .nil)) ⟨0, rfl, Nat.zero_le _, rfl⟩ ?_
  intro n_ s_ hI K6 hK6
  obtain ⟨i, rfl, hi, rfl⟩ := hI
  refine sr fun K7 hK7=>?_
  refine ar0 (s_cmp (.tmp rfl) (.tmp rfl) rfl rfl) ?_
  refine hK7 _ ?_
  refine awp_seq ?_; intro K8 hK8
  refine awp_cond (.tmp rfl) (fun ht21 => ?_) (fun ht21 => ?_)
  · have hin : i < n := by simpa [icmp] using ht21
    have hmx := mix_get (p := plusL a b) (w := wideL a n) (i := i) (by omega) (by omega)
    have hqa := (qa _ (getD_mem (i := i) (by omega))).ok
    have hqb := (qb _ (getD_mem (i := i) (by omega))).ok
    refine awp_skip (hK8 _ ?_)
    refine awp_seq ?_; intro K9 hK9
    refine awp_block ?_
    refine sr fun K10 hK10=>?_
    refine mT ?_
    refine aT ?_
    refine hK10 _ ?_
    refine awp_region_draw mixedP ?_
    refine mT ?_
    refine mT ?_
    refine mT ?_
    refine mT ?_
    refine ar0 (s_idxMs0 (n := i) (.tmp rfl) (.tmp rfl) T60 rfl T68 rfl (by omega) (by omega) rfl) ?_
    refine ar0 (s_loadEptr (.tmp rfl) rfl (getmap hmx) T68 rfl rfl rfl) ?_
    refine mT ?_
    refine mT ?_
    refine ar0 (s_idxLst (.tmp rfl) (.tmp rfl) T60 rfl T68 rfl (by omega) (getmap (getD_some (i := i) (l := wideL b n) (by omega))) rfl) ?_
    refine ar0 (s_loadIptr (.tmp rfl) T68 rfl rfl rfl) ?_
    refine ar0 (s_call (c_r02_Add (rt ((wideL a n).getD i 0)) (rt ((wideL b n).getD i 0)) hqa hqb) (.cons (.tmp rfl) (.cons (.tmp rfl) .nil)) rfl rfl) ?_
    refine ar0 (s_idxMs0 (n := i) (.tmp rfl) (.tmp rfl) T60 rfl T68 rfl (by omega) (by omega) rfl) ?_
    refine ar (s_stElem (.tmp rfl) rfl (getmap hmx) rfl (.tmp rfl) rfl rfl T68 rfl rfl) (newOk_of rfl) ?_
    refine ⟨by kernel_rfl, ?_⟩
    refine hK9 _ ?_
    refine awp_weaken (Wk.of (sl := [(0, some (.ms 900 3 0 n)), (1, some (nA (wideL b n))), (19, some (i64 n)), (20, some (i64 i))]) (hp := [(900, some (.row 3 (((plusL a b).take (i + 1) ++ (wideL a n).drop (i + 1)).map qA)))]) (.k (.k (.k (.k .nil)))) (.cons rfl (BlkSub.of (by rw [set_step (by omega) (by omega) (by rw [plus_get, ← hn, rt_q, rt_q])])) .nil)) ?_
    refine awp_region ?_
    refine ar0 (s_arithW (.tmp rfl) (.const _) rfl (i64_add1 (by unfold maxL; omega)) rfl) ?_
    refine mT ?_
    refine hK6 _ ((fun (i : Nat) => (⟨[(0, some (.ms 900 3 0 n)), (1, some (nA (wideL b n))), (19, some (i64 n)), (20, some (i64 i))], [(900, some (.row 3 (((plusL a b).take i ++ (wideL a n).drop i).map qA)))]⟩ : AS)) (i + 1)) ((fun (i : Nat) => n - i) (i + 1)) (Wk.of (.k (.k (.k (.k .nil)))) (.cons rfl (.refl _) .nil)) ⟨i + 1, rfl, hin, rfl⟩ (by first | omega | (dsimp only; omega))
  · have hin : i = n := by have : n ≤ i := by simpa [icmp] using ht21
                           omega
    refine awp_exit ?_
    refine hK4 _ ?_
    refine awp_weaken ((Wk.freeze (k := 900) rfl).trans <| Wk.of (sl := [(0, some (nA (plusL a b)))]) (hp := []) (.cons rfl (Sub.of (by rw [fz_all (by simp; omega), hin, List.drop_of_length_le (by omega), List.take_of_length_le (by omega), List.append_nil]; rfl)) .nil) .nil) ?_
    refine sr fun K11 hK11=>?_
    refine mT ?_
    refine aT ?_
    refine hK11 _ ?_
    refine awp_ret ⟨_, (.cons (.tmp rfl) .nil), ?_⟩
    exact fin_eq1 (by rfl)
theorem c_r04_less (a : List Rat) (ha : ∀ q ∈ a, Qs q) (hl : a.length ≤ 1099511627776) : FnC Tryz.prog 152 [nA a] (nA (minusL a)) := by
  refine con_of0 (N := 19) (rs := [.tmp 2]) Tryz.func152 rfl rfl rfl rfl ?_
  refine sr fun K1 hK1=>?_
  refine aC ?_
  refine hK1 _ ?_
  refine sr fun K2 hK2=>?_
  refine aC ?_
  refine hK2 _ ?_
  refine awp_seq ?_; intro K3 hK3
  refine sr fun K4 hK4=>?_
  refine mT ?_
  refine ar0 (s_lenMap (.tmp rfl) T60 rfl rfl) ?_
  refine ar0 (s_move (.const _) rfl) ?_
  refine hK4 _ ?_
  refine awp_block ?_
  refine awp_weaken (Wk.virt 900 3 rfl) ?_
  refine awp_loop (fun n_ s_ => ∃ (i : Nat), a.length - i = n_ ∧ (i ≤ a.length) ∧ s_ = (⟨[(3, some (.ms 900 3 0 i)), (6, some (nA a)), (7, some (i64 a.length)), (8, some (i64 i))], [(900, some (.row 3 ((minusL (a.take i)).map qA)))]⟩ : AS))
    (n := ((fun (i : Nat) => a.length - i) (0))) (s' := ((fun (i : Nat) => (⟨[(3, some (.ms 900 3 0 i)), (6, some (nA a)), (7, some (i64 a.length)), (8, some (i64 i))], [(900, some (.row 3 ((minusL (a.take i)).map qA)))]⟩ : AS)) (0)))
    (Wk.of (.k (.k (.k (.k .nil)))) (.cons rfl (.refl _) .nil)) ⟨0, rfl, Nat.zero_le _, rfl⟩ ?_
  intro n_ s_ hI K5 hK5
  obtain ⟨i, rfl, hi, rfl⟩ := hI
  refine sr fun K6 hK6=>?_
  refine ar0 (s_cmp (.tmp rfl) (.tmp rfl) rfl rfl) ?_
  refine hK6 _ ?_
  refine awp_seq ?_; intro K7 hK7
  refine awp_cond (.tmp rfl) (fun ht9 => ?_) (fun ht9 => ?_)
  · have hin : i < a.length := by simpa [icmp] using ht9
    obtain ⟨q, hq⟩ := getx hin
    have hqs := (ha q (List.mem_of_getElem? hq)).ok
    refine awp_skip (hK7 _ ?_)
    refine awp_seq ?_; intro K8 hK8
    refine awp_block ?_
    refine sr fun K9 hK9=>?_
    refine ar0 (s_idxLst (.tmp rfl) (.tmp rfl) T60 rfl T68 rfl (by omega) (getmap hq) rfl) ?_
    refine ar0 (s_loadIptr (.tmp rfl) T68 rfl rfl rfl) ?_
    refine al T68 ?_
    refine sP T68 ?_
    refine hK9 _ ?_
    refine awp_region ?_
    refine mT ?_
    refine lP T68 ?_
    refine ar0 (s_call (c_r02_Neg (rt q) hqs) (.cons (.tmp rfl) .nil) rfl rfl) ?_
    refine ar0 (s_buildLst rfl (.cons (.tmp rfl) .nil) T60 rfl T68 rfl rfl rfl rfl rfl rfl rfl rfl) ?_
    refine ar (s_append (.tmp rfl) rfl (by simp [minusL]; omega) (.tmp rfl) T60 rfl T68 rfl rfl (by simp; omega) rfl rfl) (newOk_of rfl) ?_
    refine aT ?_
    refine hK8 _ ?_
    refine awp_weaken (Wk.of (sl := [(3, some (.ms 16 3 0 (i + 1))), (6, some (nA a)), (7, some (i64 a.length)), (8, some (i64 i))]) (hp := [(16, some (.row 3 ((minusL (a.take (i + 1))).map qA)))]) (.k (.k (.k (.k .nil)))) (.cons rfl (BlkSub.of (by rw [take_succ_get hq]; simp only [minusL, List.map_append, rt_q]; rfl)) .nil)) ?_
    refine awp_weaken (Wk.rekey (k := 16) (d := 900) rfl rfl) ?_
    refine awp_region ?_
    refine ar0 (s_arithW (.tmp rfl) (.const _) rfl (i64_add1 (by unfold maxL; omega)) rfl) ?_
    refine mT ?_
    refine hK5 _ ((fun (i : Nat) => (⟨[(3, some (.ms 900 3 0 i)), (6, some (nA a)), (7, some (i64 a.length)), (8, some (i64 i))], [(900, some (.row 3 ((minusL (a.take i)).map qA)))]⟩ : AS)) (i + 1)) ((fun (i : Nat) => a.length - i) (i + 1)) (Wk.of (.k (.k (.k (.k .nil)))) (.cons rfl (.refl _) .nil)) ⟨i + 1, rfl, hin, rfl⟩ (by first | omega | (dsimp only; omega))
  · have hin : i = a.length := by have : a.length ≤ i := by simpa [icmp] using ht9
                                  omega
    subst hin
    refine awp_exit ?_
    refine hK3 _ ?_
    refine awp_weaken ((Wk.freeze (k := 900) rfl).trans <| Wk.of (sl := [(3, some (nA (minusL a)))]) (hp := []) (.cons rfl (Sub.of (by rw [fz_all (by simp [minusL]), List.take_length]; rfl)) .nil) .nil) ?_
    refine sr fun K10 hK10=>?_
    refine mT ?_
    refine aT ?_
    refine hK10 _ ?_
    refine awp_ret ⟨_, (.cons (.tmp rfl) .nil), ?_⟩
    exact fin_eq1 (by rfl)
end Go.Lw
namespace Go.Lw
open Go.Proofs
theorem c_r04_times (ts : List (List Rat)) (m r : Nat) (ht : TsOk ts m r) (hm : m ≤ 5) (R : List AV) (hR : ∀ j, j < m → R[j]? = some (nA (ts.getD j []))) (k : Nat) : ∀ (j : Nat) (a b : List Rat) (e f : Nat), j ≤ m → j ≤ k → Nl j a → Nl j b → Cb e a → Cb f b → e + f + eB r j < 4398046511104 →
  FnC Tryz.prog 238 [.agg [.lst 1 R], nA a, nA b] (nA (rT ts k a b)) := by
 induction k using Nat.strongRecOn
 rename_i k ih
 intro j a b e f hj hjk ha hb ca cb hs
 obtain ⟨nx, dx⟩ := short_nl ha (by omega)
 obtain ⟨ny, dy⟩ := short_nl hb (by omega)
 have cx : Cb e (shortL 5 a) := ca.sub (fun q hq => mem_shortL 5 hq)
 have cy : Cb f (shortL 5 b) := cb.sub (fun q hq => mem_shortL 5 hq)
 have k1 := c_r04_Short a (by omega) ha
 have k2 := c_r04_Short b (by omega) hb
 rw [← shortL_sh ha (by omega)] at k1
 rw [← shortL_sh hb (by omega)] at k2
 obtain ⟨x, hx⟩ : ∃ x, x = shortL 5 a := ⟨_, rfl⟩
 obtain ⟨y, hy⟩ : ∃ y, y = shortL 5 b := ⟨_, rfl⟩
 rw [← hx] at k1 nx dx cx
 rw [← hy] at k2 ny dy cy
 have hlx := nx.len5 (by omega)
 have hly := ny.len5 (by omega)
 obtain ⟨n, hn⟩ : ∃ n, n = max x.length y.length := ⟨_, rfl⟩
 refine con_of0 (N := 105) (rs := [.tmp 6]) Tryz.func238 rfl rfl rfl rfl ?_
 refine sr fun K1 hK1=>?_
 refine bX ?_
 refine aC ?_
 refine hK1 _ ?_
 refine sr fun K2 hK2=>?_
 refine mT ?_
 refine ar0 (s_call k1 (.cons (.tmp rfl) .nil) rfl rfl) ?_
 refine mT ?_
 refine ar0 (s_call k2 (.cons (.tmp rfl) .nil) rfl rfl) ?_
 refine aT ?_
 refine aT ?_
 refine hK2 _ ?_
 refine sr fun K3 hK3=>?_
 refine mT ?_
 refine ar0 (s_lenMap (.tmp rfl) T60 rfl rfl) ?_
 refine mT ?_
 refine ar0 (s_lenMap (.tmp rfl) T60 rfl rfl) ?_
 refine ar0 (s_max (.tmp rfl) (.tmp rfl) rfl) ?_
 refine aT ?_
 refine hK3 _ ?_
 refine awp_weaken (Wk.of (sl := [(1, some (nA x)), (2, some (nA y)), (3, some (.ptr 3 0)), (7, some (i64 n))]) (hp := [(3, some (.box [.lst 1 R]))]) (.k (.k (.k (.cons rfl (Sub.int (by omega)) .nil)))) (.cons rfl (.refl _) .nil)) ?_
 refine awp_seq ?_; intro K4 hK4
 refine sr fun K5 hK5=>?_
 refine mT ?_
 refine ar0 (s_lenMap (.tmp rfl) T60 rfl rfl) ?_
 refine ar0 (s_cmp (.tmp rfl) (.const _) rfl rfl) ?_
 refine mT ?_
 refine ar0 (s_guard rfl rfl rfl (fun h => s_move (.tmp rfl) rfl)) ?_
 refine ar0 (s_guard rfl rfl rfl (fun h => s_lenMap (.opt rfl (o1 h)) T60 rfl rfl)) ?_
 refine ar0 (s_guard rfl rfl rfl (fun h => s_cmp (.opt rfl (o1 h)) (.const _) rfl rfl)) ?_
 refine ar0 (s_pick (.tmp rfl) (fun _ => .const _) (fun hp => .opt rfl (o1 hp)) rfl) ?_
 refine hK5 _ ?_
 refine awp_cond (.tmp rfl) (fun ht32 => ?_) (fun ht32 => ?_)
 ·have h0 : x.length = 0 ∨ y.length = 0 := by have := pick_or ht32; omega
  refine sr fun K6 hK6=>?_
  refine aC ?_
  refine hK6 _ ?_
  refine awp_ret ⟨_, (.cons (.tmp rfl) .nil), ?_⟩
  exact fin_sub1 (by rw [rT_zero (by rw [← hx, ← hy]; exact h0)]; exact Sub.nil _ _ _)
 ·have h0 : ¬ (x.length = 0 ∨ y.length = 0) := by have := pick_nor ht32; omega
  refine awp_skip (hK4 _ ?_)
  refine awp_seq ?_; intro K7 hK7
  refine sr fun K8 hK8=>?_
  refine mT ?_
  refine ar0 (s_cmp (.tmp rfl) (.const _) rfl rfl) ?_
  refine hK8 _ ?_
  refine awp_cond (.tmp rfl) (fun ht34 => ?_) (fun ht34 => ?_)
  ·have h1 : max x.length y.length = 1 := by have := ht34; simp only [icmp, beq_iff_eq] at this; omega
   have e1 := rT_one (ts := ts) (k := k) (a := a) (b := b) (by rw [← hx, ← hy]; exact h0) (by rw [← hx, ← hy]; exact h1)
   rw [← hx, ← hy] at e1
   clear hx hy
   have lx1 : x.length = 1 := by omega
   have ly1 : y.length = 1 := by omega
   clear hn
   obtain ⟨p, rfl⟩ : ∃ p, x = [p] := List.length_eq_one_iff.1 lx1
   obtain ⟨q, rfl⟩ : ∃ q, y = [q] := List.length_eq_one_iff.1 ly1
   refine awp_seq ?_; intro K9 hK9
   refine awp_region_draw mixedP ?_
   refine mT ?_
   refine ar0 (s_idxLst (.tmp rfl) (.const _) T60 rfl T68 rfl (by omega) rfl rfl) ?_
   refine ar0 (s_loadIptr (.tmp rfl) T68 rfl rfl rfl) ?_
   refine mT ?_
   refine ar0 (s_idxLst (.tmp rfl) (.const _) T60 rfl T68 rfl (by omega) rfl rfl) ?_
   refine ar0 (s_loadIptr (.tmp rfl) T68 rfl rfl rfl) ?_
   refine ar0 (s_call (c_r02_Mul (rt p) (rt q) (cx.qs (by omega) (by simp : p ∈ [p])).ok (cy.qs (by omega) (by simp : q ∈ [q])).ok) (.cons (.tmp rfl) (.cons (.tmp rfl) .nil)) rfl rfl) ?_
   refine ar0 (s_buildLst rfl (.cons (.tmp rfl) .nil) T60 rfl T68 rfl rfl rfl rfl rfl rfl rfl rfl) ?_
   refine aT ?_
   refine ⟨by kernel_rfl, ?_⟩
   refine hK9 _ ?_
   refine awp_ret ⟨_, (.cons (.tmp rfl) .nil), ?_⟩
   exact fin_eq1 (by rw [e1, rt_q, rt_q]; rfl)
  ·have h1 : n ≠ 1 := by have := ht34; simp only [icmp, beq_eq_false_iff_ne, ne_eq] at this; omega
   obtain ⟨i, hij, hmax⟩ := (max_nl nx ny h0).resolve_left (by omega)
   obtain ⟨k', rfl⟩ : ∃ k', k = k' + 1 := ⟨k - 1, by omega⟩
   have hp2 := Nat.two_pow_pos i
   have hpi : 2 ^ i ≤ 32 := pow_le2 (b := 5) (by omega)
   have hps : 2 ^ (i + 1) = 2 * 2 ^ i := by rw [Nat.pow_succ]; omega
   have hnn : n = 2 ^ (i + 1) := by omega
   have hes : eB r (i + 1) ≤ eB r j := eB_lev r hij
   have hee : eB r (i + 1) = 2 * eB r i + r + 2 := rfl
   have lx : (wideL x (2 ^ (i + 1))).length = 2 ^ (i + 1) := len_wide (by omega)
   have ly : (wideL y (2 ^ (i + 1))).length = 2 ^ (i + 1) := len_wide (by omega)
   obtain ⟨X, hX⟩ : ∃ X, X = wideL x (2 ^ (i + 1)) := ⟨_, rfl⟩
   obtain ⟨Y, hY⟩ : ∃ Y, Y = wideL y (2 ^ (i + 1)) := ⟨_, rfl⟩
   have cX : Cb e X := by rw [hX]; exact cx.wide
   have cY : Cb f Y := by rw [hY]; exact cy.wide
   rw [← hX] at lx
   rw [← hY] at ly
   have n1 : Nl i (X.take (2 ^ i)) := .inr ⟨i, Nat.le_refl _, nl_take lx⟩
   have n2 : Nl i (X.drop (2 ^ i)) := .inr ⟨i, Nat.le_refl _, nl_drop lx⟩
   have n3 : Nl i (Y.take (2 ^ i)) := .inr ⟨i, Nat.le_refl _, nl_take ly⟩
   have n4 : Nl i (Y.drop (2 ^ i)) := .inr ⟨i, Nat.le_refl _, nl_drop ly⟩
   have nd := ht.1 i (by omega)
   have cd := ht.2.cb i
   have s1 := rT_spec hm ht (k := k') (show i ≤ m by omega) (by omega) n1 n3 cX.take cY.take
   have s2 := rT_spec hm ht (k := k') (show i ≤ m by omega) (by omega) n2 n4 cX.drop cY.drop
   have s3 := rT_spec hm ht (k := k') (show i ≤ m by omega) (by omega) s2.1 nd s2.2.2 cd
   have s4 := rT_spec hm ht (k := k') (show i ≤ m by omega) (by omega) n1 n4 cX.take cY.drop
   have s5 := rT_spec hm ht (k := k') (show i ≤ m by omega) (by omega) n2 n3 cX.drop cY.take
   have hrt := rT_step (ts := ts) (k := k') (a := a) (b := b) rfl (by rw [← hx, ← hy]; exact h0) (by rw [← hx, ← hy]; exact hmax)
   rw [← hx, ← hy, ← hX, ← hY] at hrt
   have w1 := c_r04_wide x n (by omega) (by omega)
   have w2 := c_r04_wide y n (by omega) (by omega)
   rw [hnn, ← hX] at w1
   rw [hnn, ← hY] at w2
   rw [← hnn] at w1 w2
   have pw := c_r04_power n (by omega)
   rw [show pwk n = i + 1 by rw [hnn]; exact (pw_of (by omega)).1, show pwb n = true by rw [hnn]; exact (pw_of (by omega)).2] at pw
   refine awp_skip (hK7 _ ?_)
   refine sr fun K10 hK10=>?_
   refine mT ?_
   refine mT ?_
   refine ar0 (s_call w1 (.cons (.tmp rfl) (.cons (.tmp rfl) .nil)) rfl rfl) ?_
   refine mT ?_
   refine mT ?_
   refine ar0 (s_call w2 (.cons (.tmp rfl) (.cons (.tmp rfl) .nil)) rfl rfl) ?_
   refine aT ?_
   refine aT ?_
   refine hK10 _ ?_
   refine sr fun K11 hK11=>?_
   refine mT ?_
   refine ar0 (s_call pw (.cons (.tmp rfl) .nil) rfl rfl) ?_
   refine mT ?_
   refine ar0 (s_extract (.tmp rfl) rfl rfl) ?_
   refine ar0 (s_extract (.tmp rfl) rfl rfl) ?_
   refine aT ?_
   refine aT ?_
   refine hK11 _ ?_
   refine awp_seq ?_; intro K12 hK12
   refine awp_region_draw mixedP ?_
   refine mT ?_
   refine mT ?_
   refine ar0 (s_quoW (.tmp rfl) (.const _) (by omega) (show _ = ((2 ^ i : Nat) : Int) by rw [i64_half (by omega), hnn, half_pow]) rfl) ?_
   refine ar0 (s_sliceLst (.tmp rfl) (.none _) (.some _ (.tmp rfl) (by omega)) T60 rfl T68 rfl (by omega) (by simp only [List.length_map]; omega) rfl) ?_
   refine mT ?_
   refine mT ?_
   refine ar0 (s_quoW (.tmp rfl) (.const _) (by omega) (show _ = ((2 ^ i : Nat) : Int) by rw [i64_half (by omega), hnn, half_pow]) rfl) ?_
   refine ar0 (s_sliceLst (.tmp rfl) (.some _ (.tmp rfl) (by omega)) (.none _) T60 rfl T68 rfl (by simp only [List.length_map]; omega) (by omega) rfl) ?_
   refine mT ?_
   refine mT ?_
   refine ar0 (s_quoW (.tmp rfl) (.const _) (by omega) (show _ = ((2 ^ i : Nat) : Int) by rw [i64_half (by omega), hnn, half_pow]) rfl) ?_
   refine ar0 (s_sliceLst (.tmp rfl) (.none _) (.some _ (.tmp rfl) (by omega)) T60 rfl T68 rfl (by omega) (by simp only [List.length_map]; omega) rfl) ?_
   refine mT ?_
   refine mT ?_
   refine ar0 (s_quoW (.tmp rfl) (.const _) (by omega) (show _ = ((2 ^ i : Nat) : Int) by rw [i64_half (by omega), hnn, half_pow]) rfl) ?_
   refine ar0 (s_sliceLst (.tmp rfl) (.some _ (.tmp rfl) (by omega)) (.none _) T60 rfl T68 rfl (by simp only [List.length_map]; omega) (by omega) rfl) ?_
   refine aT ?_
   refine aT ?_
   refine aT ?_
   refine aT ?_
   refine ⟨by kernel_rfl, ?_⟩
   refine hK12 _ ?_
   refine awp_weaken (Wk.of (sl := [(3, some (.ptr 3 0)), (7, some (i64 n)), (8, some (i64 ((i + 1 : Nat) : Int))), (10, some (nA (X.take (2 ^ i)))), (11, some (nA (X.drop (2 ^ i)))), (12, some (nA (Y.take (2 ^ i)))), (13, some (nA (Y.drop (2 ^ i))))]) (hp := [(3, some (.box [.lst 1 R]))]) (.k (.k (.k (.cons rfl (Sub.of (cut_low X (2 ^ i))) (.cons rfl (Sub.of (cut_high X (2 ^ i))) (.cons rfl (Sub.of (cut_low Y (2 ^ i))) (.cons rfl (Sub.of (cut_high Y (2 ^ i))) .nil))))))) (.cons rfl (.refl _) .nil)) ?_
   refine awp_seq ?_; intro K13 hK13
   refine awp_region_draw mixedP ?_
   refine lP T30 ?_
   refine mT ?_
   refine mT ?_
   refine ar0 (s_call (ih k' (by omega) i _ _ e f (by omega) (by omega) n1 n3 cX.take cY.take (by omega)) (.cons (.tmp rfl) (.cons (.tmp rfl) (.cons (.tmp rfl) .nil))) rfl rfl) ?_
   refine lP T30 ?_
   refine lP T30 ?_
   refine mT ?_
   refine mT ?_
   refine ar0 (s_call (ih k' (by omega) i _ _ e f (by omega) (by omega) n2 n4 cX.drop cY.drop (by omega)) (.cons (.tmp rfl) (.cons (.tmp rfl) (.cons (.tmp rfl) .nil))) rfl rfl) ?_
   refine fP T30 ?_
   refine lP T28 ?_
   refine mT ?_
   refine ar0 (s_arithW (.tmp rfl) (.const _) rfl (show _ = (i : Int) by rw [i64_subI (by omega)]; omega) rfl) ?_
   refine ar0 (s_idxLst (.tmp rfl) (.tmp rfl) T28 rfl T60 rfl (by omega) (hR i (by omega)) rfl) ?_
   refine ar0 (s_loadIptr (.tmp rfl) T60 rfl rfl rfl) ?_
   refine ar0 (s_call (ih k' (by omega) i _ _ _ _ (by omega) (by omega) s2.1 nd s2.2.2 cd (by omega)) (.cons (.tmp rfl) (.cons (.tmp rfl) (.cons (.tmp rfl) .nil))) rfl rfl) ?_
   refine ar0 (s_call (c_r04_plus _ _ (fun q hq => s1.2.2.qs (by omega) hq) (fun q hq => s3.2.2.qs (by omega) hq) (by have := s1.1.le; omega) (by have := s3.1.le; omega)) (.cons (.tmp rfl) (.cons (.tmp rfl) .nil)) rfl rfl) ?_
   refine aT ?_
   refine ⟨by kernel_rfl, ?_⟩
   refine hK13 _ ?_
   refine awp_seq ?_; intro K14 hK14
   refine awp_region_draw mixedP ?_
   refine lP T30 ?_
   refine mT ?_
   refine mT ?_
   refine ar0 (s_call (ih k' (by omega) i _ _ e f (by omega) (by omega) n1 n4 cX.take cY.drop (by omega)) (.cons (.tmp rfl) (.cons (.tmp rfl) (.cons (.tmp rfl) .nil))) rfl rfl) ?_
   refine lP T30 ?_
   refine mT ?_
   refine mT ?_
   refine ar0 (s_call (ih k' (by omega) i _ _ e f (by omega) (by omega) n2 n3 cX.drop cY.take (by omega)) (.cons (.tmp rfl) (.cons (.tmp rfl) (.cons (.tmp rfl) .nil))) rfl rfl) ?_
   refine ar0 (s_call (c_r04_plus _ _ (fun q hq => s4.2.2.qs (by omega) hq) (fun q hq => s5.2.2.qs (by omega) hq) (by have := s4.1.le; omega) (by have := s5.1.le; omega)) (.cons (.tmp rfl) (.cons (.tmp rfl) .nil)) rfl rfl) ?_
   refine aT ?_
   refine ⟨by kernel_rfl, ?_⟩
   refine hK14 _ ?_
   refine sr fun K15 hK15=>?_
   refine mT ?_
   refine mT ?_
   refine ar0 (s_quoW (.tmp rfl) (.const _) (by omega) (show _ = ((2 ^ i : Nat) : Int) by rw [i64_half (by omega), hnn, half_pow]) rfl) ?_
   refine ar (s_callH (c_r04_wideO 900 rfl _ (2 ^ i) (by have := s1.1.le; have := s3.1.le; rw [len_plus]; omega) (by omega)) (.cons (.tmp rfl) (.cons (.tmp rfl) .nil)) (by first | exact hH0 | exact hH1 rfl | exact hH2 rfl rfl) rfl rfl) (newOk_of rfl) ?_
   refine mT ?_
   refine mT ?_
   refine ar0 (s_quoW (.tmp rfl) (.const _) (by omega) (show _ = ((2 ^ i : Nat) : Int) by rw [i64_half (by omega), hnn, half_pow]) rfl) ?_
   refine ar0 (s_call (c_r04_wide _ (2 ^ i) (by have := s4.1.le; have := s5.1.le; rw [len_plus]; omega) (by omega)) (.cons (.tmp rfl) (.cons (.tmp rfl) .nil)) rfl rfl) ?_
   refine ar (s_appendF (.tmp rfl) rfl (by have := s1.1.le; have := s3.1.le; rw [List.length_map, len_wide (by rw [len_plus]; omega)]) (.tmp rfl) T60 rfl T68 rfl rfl (by have := s4.1.le; have := s5.1.le; rw [List.length_map, len_wide (by rw [len_plus]; omega)]; show (2 ^ i + 2 ^ i) * 56 ≤ 140737488355328; omega) rfl rfl) (newOk_of rfl) ?_
   refine aT ?_
   refine hK15 _ ?_
   refine awp_ret ⟨_, (.cons (.tmp rfl) .nil), ?_⟩
   exact fin_eq1 (by rw [hrt, ← List.map_append]; rfl)
theorem c_r04_norm (ts : List (List Rat)) (m r : Nat) (ht : TsOk ts m r) (hm : m ≤ 5) (R : List AV) (hR : ∀ j, j < m → R[j]? = some (nA (ts.getD j []))) (i n : Nat) (a : List Rat) (e : Nat) (hi : i + 1 ≤ m) (hnn : n = 2 ^ (i + 1)) (hal : a.length = 2 ^ (i + 1)) (ca : Cb e a) (hs : 4 * e + 3 * eB r i + r + 1 < 4398046511104) :
  FnC Tryz.prog 199 [.agg [.lst 1 R], nA a, i64 n] (nA (rnormL ts i a)) := by
 have hp2 := Nat.two_pow_pos i
 have hpi : 2 ^ i ≤ 32 := pow_le2 (b := 5) (by omega)
 have hps : 2 ^ (i + 1) = 2 * 2 ^ i := by rw [Nat.pow_succ]; omega
 have n1 : Nl i (a.take (2 ^ i)) := .inr ⟨i, Nat.le_refl _, nl_take hal⟩
 have n2 : Nl i (a.drop (2 ^ i)) := .inr ⟨i, Nat.le_refl _, nl_drop hal⟩
 have nd := ht.1 i (by omega)
 have cd := ht.2.cb i
 have s1 := rT_spec hm ht (k := i) (show i ≤ m by omega) (by omega) n1 n1 ca.take ca.take
 have s2 := rT_spec hm ht (k := i) (show i ≤ m by omega) (by omega) n2 n2 ca.drop ca.drop
 have s3 := rT_spec hm ht (k := i) (show i ≤ m by omega) (by omega) s2.1 nd s2.2.2 cd
 have w1 := c_r04_wide a n (by omega) (by omega)
 rw [show wideL a n = a by unfold wideL; rw [hnn, hal]; simp] at w1
 have pw := c_r04_power n (by omega)
 rw [show pwk n = i + 1 by rw [hnn]; exact (pw_of (by omega)).1, show pwb n = true by rw [hnn]; exact (pw_of (by omega)).2] at pw
 refine con_of0 (N := 45) (rs := [.tmp 6]) Tryz.func199 rfl rfl rfl rfl ?_
 refine sr fun K1 hK1=>?_
 refine bX ?_
 refine aC ?_
 refine hK1 _ ?_
 refine sr fun K2 hK2=>?_
 refine mT ?_
 refine mT ?_
 refine ar0 (s_call w1 (.cons (.tmp rfl) (.cons (.tmp rfl) .nil)) rfl rfl) ?_
 refine aT ?_
 refine hK2 _ ?_
 refine sr fun K3 hK3=>?_
 refine mT ?_
 refine ar0 (s_call pw (.cons (.tmp rfl) .nil) rfl rfl) ?_
 refine mT ?_
 refine ar0 (s_extract (.tmp rfl) rfl rfl) ?_
 refine ar0 (s_extract (.tmp rfl) rfl rfl) ?_
 refine aT ?_
 refine aT ?_
 refine hK3 _ ?_
 refine awp_seq ?_; intro K4 hK4
 refine awp_region_draw mixedP ?_
 refine mT ?_
 refine mT ?_
 refine ar0 (s_quoW (.tmp rfl) (.const _) (by omega) (show _ = ((2 ^ i : Nat) : Int) by rw [i64_half (by omega), hnn, half_pow]) rfl) ?_
 refine ar0 (s_sliceLst (.tmp rfl) (.none _) (.some _ (.tmp rfl) (by omega)) T60 rfl T68 rfl (by omega) (by simp only [List.length_map]; omega) rfl) ?_
 refine mT ?_
 refine mT ?_
 refine ar0 (s_quoW (.tmp rfl) (.const _) (by omega) (show _ = ((2 ^ i : Nat) : Int) by rw [i64_half (by omega), hnn, half_pow]) rfl) ?_
 refine ar0 (s_sliceLst (.tmp rfl) (.some _ (.tmp rfl) (by omega)) (.none _) T60 rfl T68 rfl (by simp only [List.length_map]; omega) (by omega) rfl) ?_
 refine aT ?_
 refine aT ?_
 refine ⟨by kernel_rfl, ?_⟩
 refine hK4 _ ?_
 refine awp_weaken (Wk.of (sl := [(3, some (.ptr 3 0)), (7, some (i64 ((i + 1 : Nat) : Int))), (9, some (nA (a.take (2 ^ i)))), (10, some (nA (a.drop (2 ^ i))))]) (hp := [(3, some (.box [.lst 1 R]))]) (.k (.k (.cons rfl (Sub.of (cut_low a (2 ^ i))) (.cons rfl (Sub.of (cut_high a (2 ^ i))) .nil)))) (.cons rfl (.refl _) .nil)) ?_
 refine awp_seq ?_; intro K5 hK5
 refine awp_region_draw mixedP ?_
 refine lP T30 ?_
 refine mT ?_
 refine mT ?_
 refine ar0 (s_call (c_r04_times ts m r ht hm R hR i i _ _ e e (by omega) (by omega) n1 n1 ca.take ca.take (by omega)) (.cons (.tmp rfl) (.cons (.tmp rfl) (.cons (.tmp rfl) .nil))) rfl rfl) ?_
 refine lP T30 ?_
 refine lP T30 ?_
 refine mT ?_
 refine mT ?_
 refine ar0 (s_call (c_r04_times ts m r ht hm R hR i i _ _ e e (by omega) (by omega) n2 n2 ca.drop ca.drop (by omega)) (.cons (.tmp rfl) (.cons (.tmp rfl) (.cons (.tmp rfl) .nil))) rfl rfl) ?_
 refine fP T30 ?_
 refine lP T28 ?_
 refine mT ?_
 refine ar0 (s_arithW (.tmp rfl) (.const _) rfl (show _ = (i : Int) by rw [i64_subI (by omega)]; omega) rfl) ?_
 refine ar0 (s_idxLst (.tmp rfl) (.tmp rfl) T28 rfl T60 rfl (by omega) (hR i (by omega)) rfl) ?_
 refine ar0 (s_loadIptr (.tmp rfl) T60 rfl rfl rfl) ?_
 refine ar0 (s_call (c_r04_times ts m r ht hm R hR i i _ _ _ _ (by omega) (by omega) s2.1 nd s2.2.2 cd (by omega)) (.cons (.tmp rfl) (.cons (.tmp rfl) (.cons (.tmp rfl) .nil))) rfl rfl) ?_
 refine ar0 (s_call (c_r04_less _ (fun q hq => s3.2.2.qs (by omega) hq) (by have := s3.1.le; omega)) (.cons (.tmp rfl) .nil) rfl rfl) ?_
 refine ar0 (s_call (c_r04_plus _ _ (fun q hq => s1.2.2.qs (by omega) hq) (fun q hq => s3.2.2.minus.qs (by omega) hq) (by have := s1.1.le; omega) (by have := s3.1.le; rw [len_minus]; omega)) (.cons (.tmp rfl) (.cons (.tmp rfl) .nil)) rfl rfl) ?_
 refine aT ?_
 refine ⟨by kernel_rfl, ?_⟩
 refine hK5 _ ?_
 refine awp_ret ⟨_, (.cons (.tmp rfl) .nil), ?_⟩
 exact fin_eq1 (by rfl)
theorem c_r04_sign (ts : List (List Rat)) (m r : Nat) (ht : TsOk ts m r) (hm : m ≤ 5) (hpos : ∀ j, j < m → 0 ≤ T.sgn (rtsOf ts) j (rtsOf ts j)) (R : List AV) (hR : ∀ j, j < m → R[j]? = some (nA (ts.getD j []))) (j : Nat) : ∀ (a : List Rat) (e : Nat), j ≤ m → Nl j a → Cb e a → sB r j e < 4398046511104 →
  FnC Tryz.prog 145 [.agg [.lst 1 R], nA a] (i64 (T.sgn (rtsOf ts) j (dec j a))) := by
 induction j using Nat.strongRecOn
 rename_i j ih
 intro a e hj ha ca hs
 have hse := sB_le r j e
 obtain ⟨s, hsa⟩ : ∃ s, s = sh j (dec j a) := ⟨_, rfl⟩
 have hsd : dec j s = dec j a := by rw [hsa, dec_sh]
 have hsn : Nl j s := by rw [hsa]; exact sh_nl j _
 have cs : Cb e s := by rw [hsa]; exact ca.sh ha
 have hls := hsn.len5 (by omega)
 rw [← hsd]
 refine con_of0 (N := 70) (rs := [.tmp 4]) Tryz.func145 rfl rfl rfl rfl ?_
 refine sr fun K1 hK1=>?_
 refine bX ?_
 refine aC ?_
 refine hK1 _ ?_
 refine sr fun K2 hK2=>?_
 refine mT ?_
 refine ar0 (s_call (hsa ▸ c_r04_Short a (by omega) ha) (.cons (.tmp rfl) .nil) rfl rfl) ?_
 refine aT ?_
 refine hK2 _ ?_
 refine awp_seq ?_; intro K3 hK3
 refine sr fun K4 hK4=>?_
 refine mT ?_
 refine ar0 (s_lenMap (.tmp rfl) T60 rfl rfl) ?_
 refine ar0 (s_cmp (.tmp rfl) (.const _) rfl rfl) ?_
 refine hK4 _ ?_
 refine awp_cond (.tmp rfl) (fun ht15 => ?_) (fun ht15 => ?_)
 ·have h1 : s = [] := List.length_eq_zero_iff.1 (by have := ht15; simp only [icmp, beq_iff_eq] at this; omega)
  refine sr fun K5 hK5=>?_
  refine aC ?_
  refine hK5 _ ?_
  refine awp_ret ⟨_, (.cons (.tmp rfl) .nil), ?_⟩
  exact fin_eq1 (by rw [h1, dec_nil, T.sgn_zero]; rfl)
 ·have h1 : s.length ≠ 0 := by have := ht15; simp only [icmp, beq_eq_false_iff_ne, ne_eq] at this; omega
  refine awp_skip (hK3 _ ?_)
  refine sr fun K6 hK6=>?_
  refine mT ?_
  refine ar0 (s_lenMap (.tmp rfl) T60 rfl rfl) ?_
  refine aT ?_
  refine hK6 _ ?_
  refine awp_seq ?_; intro K7 hK7
  refine sr fun K8 hK8=>?_
  refine mT ?_
  refine ar0 (s_cmp (.tmp rfl) (.const _) rfl rfl) ?_
  refine hK8 _ ?_
  refine awp_cond (.tmp rfl) (fun ht19 => ?_) (fun ht19 => ?_)
  ·have h2 : s.length = 1 := by have := ht19; simp only [icmp, beq_iff_eq] at this; omega
   obtain ⟨q, rfl⟩ := List.length_eq_one_iff.1 h2
   refine sr fun K9 hK9=>?_
   refine mT ?_
   refine ar0 (s_idxLst (.tmp rfl) (.const _) T60 rfl T68 rfl (by omega) rfl rfl) ?_
   refine ar0 (s_loadIptr (.tmp rfl) T68 rfl rfl rfl) ?_
   refine ar0 (s_call (c_r02_Sign (rt q) (cs.qs (by omega) (by simp : q ∈ [q])).ok) (.cons (.tmp rfl) .nil) rfl rfl) ?_
   refine aT ?_
   refine hK9 _ ?_
   refine awp_ret ⟨_, (.cons (.tmp rfl) .nil), ?_⟩
   exact fin_eq1 (by rw [dec_one, T.sgn_ofQ, rt_q])
  ·have h2 : s.length ≠ 1 := by have := ht19; simp only [icmp, beq_eq_false_iff_ne, ne_eq] at this; omega
   obtain ⟨i, hij, hsl⟩ : ∃ i, i + 1 ≤ j ∧ s.length = 2 ^ (i + 1) := by
    rcases nl_cases hsn with h | h | h
    ·exact absurd h h1
    ·exact absurd h h2
    ·exact h
   have hp2 := Nat.two_pow_pos i
   have hpi : 2 ^ i ≤ 32 := pow_le2 (b := 5) (by omega)
   have hps : 2 ^ (i + 1) = 2 * 2 ^ i := by rw [Nat.pow_succ]; omega
   have n1 : Nl i (s.take (2 ^ i)) := .inr ⟨i, Nat.le_refl _, nl_take hsl⟩
   have n2 : Nl i (s.drop (2 ^ i)) := .inr ⟨i, Nat.le_refl _, nl_drop hsl⟩
   have nd := ht.1 i (by omega)
   have cd := ht.2.cb i
   obtain ⟨nn, dn, cn⟩ := rnormL_spec hm ht (by omega) hsl cs
   have b1 : sB r i (4 * e + 3 * eB r i + r + 1) ≤ sB r j e := sB_lev r e hij
   have b2 : sB r i e ≤ sB r i (4 * e + 3 * eB r i + r + 1) := sB_mono r i (by omega)
   have b3 : sB r i r ≤ sB r i (4 * e + 3 * eB r i + r + 1) := sB_mono r i (by omega)
   have b4 := sB_le r i (4 * e + 3 * eB r i + r + 1)
   have k1 := ih i (by omega) (s.take (2 ^ i)) e (by omega) n1 cs.take (by omega)
   have k2 := ih i (by omega) (s.drop (2 ^ i)) e (by omega) n2 cs.drop (by omega)
   have k3 := ih i (by omega) _ r (by omega) nd cd (by omega)
   have k4 := ih i (by omega) _ _ (by omega) nn cn (by omega)
   have v3 : T.sgn (rtsOf ts) i (dec i (ts.getD i [])) = 0 ∨ T.sgn (rtsOf ts) i (dec i (ts.getD i [])) = 1 := by
    have h9 : 0 ≤ T.sgn (rtsOf ts) i (dec i (ts.getD i [])) := hpos i (by omega)
    have := T.sgn_cases (rtsOf ts) i (dec i (ts.getD i []))
    omega
   have hres : T.sgn (rtsOf ts) j (dec j s) = T.sgn3 (T.sgn (rtsOf ts) i (dec i (s.take (2 ^ i)))) (T.sgn (rtsOf ts) i (dec i (s.drop (2 ^ i)))) (T.sgn (rtsOf ts) i (dec i (ts.getD i []))) (T.sgn (rtsOf ts) i (dec i (rnormL ts i s))) := by
    rw [sgn_lev _ (by omega) hij, dn]; rfl
   rw [sgn3_ref v3] at hres
   have v1 := T.sgn_cases (rtsOf ts) i (dec i (s.take (2 ^ i)))
   have v2 := T.sgn_cases (rtsOf ts) i (dec i (s.drop (2 ^ i)))
   have v4 := T.sgn_cases (rtsOf ts) i (dec i (rnormL ts i s))
   have pw := c_r04_power s.length (by omega)
   rw [show pwk s.length = i + 1 by rw [hsl]; exact (pw_of (by omega)).1, show pwb s.length = true by rw [hsl]; exact (pw_of (by omega)).2] at pw
   refine awp_skip (hK7 _ ?_)
   refine sr fun K10 hK10=>?_
   refine mT ?_
   refine ar0 (s_call pw (.cons (.tmp rfl) .nil) rfl rfl) ?_
   refine mT ?_
   refine ar0 (s_extract (.tmp rfl) rfl rfl) ?_
   refine ar0 (s_extract (.tmp rfl) rfl rfl) ?_
   refine aT ?_
   refine aT ?_
   refine hK10 _ ?_
   refine sr fun K11 hK11=>?_
   refine fP T30 ?_
   refine lP T28 ?_
   refine mT ?_
   refine ar0 (s_arithW (.tmp rfl) (.const _) rfl (show _ = (i : Int) by rw [i64_subI (by omega)]; omega) rfl) ?_
   refine ar0 (s_idxLst (.tmp rfl) (.tmp rfl) T28 rfl T60 rfl (by omega) (hR i (by omega)) rfl) ?_
   refine ar0 (s_loadIptr (.tmp rfl) T60 rfl rfl rfl) ?_
   refine aT ?_
   refine hK11 _ ?_
   refine awp_seq ?_; intro K12 hK12
   refine awp_region_draw mixedP ?_
   refine lP T30 ?_
   refine mT ?_
   refine mT ?_
   refine ar0 (s_quoW (.tmp rfl) (.const _) (by omega) (show _ = ((2 ^ i : Nat) : Int) by rw [i64_half (by omega), hsl, half_pow]) rfl) ?_
   refine ar0 (s_sliceLst (.tmp rfl) (.none _) (.some _ (.tmp rfl) (by omega)) T60 rfl T68 rfl (by omega) (by simp only [List.length_map]; omega) rfl) ?_
   refine ar0 (s_call (by have h9 := k1; rw [← cut_low] at h9; exact h9) (.cons (.tmp rfl) (.cons (.tmp rfl) .nil)) rfl rfl) ?_
   refine lP T30 ?_
   refine mT ?_
   refine mT ?_
   refine ar0 (s_quoW (.tmp rfl) (.const _) (by omega) (show _ = ((2 ^ i : Nat) : Int) by rw [i64_half (by omega), hsl, half_pow]) rfl) ?_
   refine ar0 (s_sliceLst (.tmp rfl) (.some _ (.tmp rfl) (by omega)) (.none _) T60 rfl T68 rfl (by simp only [List.length_map]; omega) (by omega) rfl) ?_
   refine ar0 (s_call (by have h9 := k2; rw [← cut_high] at h9; exact h9) (.cons (.tmp rfl) (.cons (.tmp rfl) .nil)) rfl rfl) ?_
   refine lP T30 ?_
   refine mT ?_
   refine ar0 (s_call k3 (.cons (.tmp rfl) (.cons (.tmp rfl) .nil)) rfl rfl) ?_
   refine ar0 (s_arithW (.tmp rfl) (.tmp rfl) rfl (mul_small v2 (.inr v3)) rfl) ?_
   refine aT ?_
   refine aT ?_
   refine ⟨by kernel_rfl, ?_⟩
   refine hK12 _ ?_
   refine awp_seq ?_; intro K13 hK13
   refine sr fun K14 hK14=>?_
   refine mT ?_
   refine mT ?_
   refine ar0 (s_cmp (.tmp rfl) (.tmp rfl) rfl rfl) ?_
   refine mT ?_
   refine ar0 (s_guard rfl rfl rfl (fun h => s_move (.tmp rfl) rfl)) ?_
   refine ar0 (s_guard rfl rfl rfl (fun h => s_cmp (.opt rfl (o1 h)) (.const _) rfl rfl)) ?_
   refine ar0 (s_pick (.tmp rfl) (fun _ => .const _) (fun hp => .opt rfl (o1 hp)) rfl) ?_
   refine hK14 _ ?_
   refine awp_cond (.tmp rfl) (fun ht57 => ?_) (fun ht57 => ?_)
   ·have e2 := pick_or ht57
    refine sr fun K15 hK15=>?_
    refine mT ?_
    refine aT ?_
    refine hK15 _ ?_
    refine awp_ret ⟨_, (.cons (.tmp rfl) .nil), ?_⟩
    exact fin_eq1 (by rw [hres, if_pos e2])
   ·have e2 := pick_nor ht57
    refine awp_skip (hK13 _ ?_)
    refine awp_seq ?_; intro K16 hK16
    refine sr fun K17 hK17=>?_
    refine mT ?_
    refine ar0 (s_cmp (.tmp rfl) (.const _) rfl rfl) ?_
    refine hK17 _ ?_
    refine awp_cond (.tmp rfl) (fun ht60 => ?_) (fun ht60 => ?_)
    ·have e3 : T.sgn (rtsOf ts) i (dec i (s.take (2 ^ i))) = 0 := by simpa [icmp] using ht60
     refine sr fun K18 hK18=>?_
     refine mT ?_
     refine aT ?_
     refine hK18 _ ?_
     refine awp_ret ⟨_, (.cons (.tmp rfl) .nil), ?_⟩
     exact fin_eq1 (by rw [hres, if_neg e2, if_pos e3]; rfl)
    ·have e3 : ¬ T.sgn (rtsOf ts) i (dec i (s.take (2 ^ i))) = 0 := by simpa [icmp] using ht60
     refine awp_skip (hK16 _ ?_)
     refine awp_seq ?_; intro K19 hK19
     refine awp_region_draw mixedP ?_
     refine mT ?_
     refine lP T30 ?_
     refine lP T30 ?_
     refine mT ?_
     refine mT ?_
     refine ar0 (s_call (c_r04_norm ts m r ht hm R hR i s.length s e (by omega) hsl hsl cs (by omega)) (.cons (.tmp rfl) (.cons (.tmp rfl) (.cons (.tmp rfl) .nil))) rfl rfl) ?_
     refine ar0 (s_call k4 (.cons (.tmp rfl) (.cons (.tmp rfl) .nil)) rfl rfl) ?_
     refine ar0 (s_arithW (.tmp rfl) (.tmp rfl) rfl (mul_small v1 v4) rfl) ?_
     refine aT ?_
     refine ⟨by kernel_rfl, ?_⟩
     refine hK19 _ ?_
     refine awp_ret ⟨_, (.cons (.tmp rfl) .nil), ?_⟩
     exact fin_eq1 (by rw [hres, if_neg e2, if_neg e3]; rfl)
theorem c_r04_Check (rs : List (List Rt)) (r : Nat) (h : TR rs r) : FnC Tryz.prog 82 [towR rs] (i64 (chkE rs)) := by
  have hll := h.ll
  have hr := h.le
  refine con_of0 (N := 34) (rs := [.tmp 2]) Tryz.func82 rfl rfl rfl rfl ?_
  refine sr fun K1 hK1=>?_
  refine bX ?_
  refine aC ?_
  refine hK1 _ ?_
  refine awp_seq ?_; intro K2 hK2
  refine sr fun K3 hK3=>?_
  refine fP T30 ?_
  refine lP T28 ?_
  refine ar0 (s_lenMap (.tmp rfl) T28 rfl rfl) ?_
  refine ar0 (s_cmp (.tmp rfl) (.const _) rfl rfl) ?_
  refine hK3 _ ?_
  refine awp_cond (.tmp rfl) (fun ht9 => ?_) (fun ht9 => ?_)
  · have h5 : 5 < rs.length := by have := ht9; simp only [icmp, decide_eq_true_eq] at this; omega
    refine sr fun K4 hK4=>?_
    refine aC ?_
    refine hK4 _ ?_
    refine awp_ret ⟨_, (.cons (.tmp rfl) .nil), ?_⟩
    exact fin_eq1 (by rw [chkE_big h5]; rfl)
  · have h5 : rs.length ≤ 5 := by have := ht9; simp only [icmp, decide_eq_false_iff_not] at this; omega
    refine awp_skip (hK2 _ ?_)
    refine awp_seq ?_; intro K5 hK5
    refine sr fun K6 hK6=>?_
    refine fP T30 ?_
    refine lP T28 ?_
    refine ar0 (s_lenMap (.tmp rfl) T28 rfl rfl) ?_
    refine ar0 (s_move (.const _) rfl) ?_
    refine hK6 _ ?_
    refine awp_block ?_
    refine awp_loop (fun n_ s_ => ∃ (k : Nat), rs.length - k = n_ ∧ (k ≤ rs.length ∧ ∀ j, j < k → RtOk rs j) ∧ s_ = (⟨[(1, some (.ptr 1 0)), (11, some (.lst 1 (rs.map nR))), (12, some (i64 rs.length)), (13, some (i64 k))], [(1, some (.box [.lst 1 (rs.map nR)]))]⟩ : AS))
      (n := ((fun (k : Nat) => rs.length - k) (0))) (s' := ((fun (k : Nat) => (⟨[(1, some (.ptr 1 0)), (11, some (.lst 1 (rs.map nR))), (12, some (i64 rs.length)), (13, some (i64 k))], [(1, some (.box [.lst 1 (rs.map nR)]))]⟩ : AS)) (0)))
      (Wk.of (.k (.k (.k (.k .nil)))) (.cons rfl (.refl _) .nil)) ⟨0, rfl, ⟨Nat.zero_le _, fun j hj => by omega⟩, rfl⟩ ?_
    intro n_ s_ hI K7 hK7
    obtain ⟨k, rfl, ⟨hk, hj⟩, rfl⟩ := hI
    refine sr fun K8 hK8=>?_
    refine ar0 (s_cmp (.tmp rfl) (.tmp rfl) rfl rfl) ?_
    refine hK8 _ ?_
    refine awp_seq ?_; intro K9 hK9
    refine awp_cond (.tmp rfl) (fun ht14 => ?_) (fun ht14 => ?_)
    · have hin : k < rs.length := by simpa [icmp] using ht14
      obtain ⟨d, hd⟩ := getx hin
      have hdm := List.mem_of_getElem? hd
      have hdl := h.len d hdm
      refine awp_skip (hK9 _ ?_)
      refine awp_seq ?_; intro K10 hK10
      refine awp_block ?_
      refine sr fun K11 hK11=>?_
      refine mT ?_
      refine ar0 (s_idxLst (.tmp rfl) (.tmp rfl) T28 rfl T60 rfl (by omega) (getmap hd) rfl) ?_
      refine ar0 (s_loadIptr (.tmp rfl) T60 rfl rfl rfl) ?_
      refine aT ?_
      refine aT ?_
      refine hK11 _ ?_
      refine awp_seq ?_; intro K12 hK12
      refine sr fun K13 hK13=>?_
      refine mT ?_
      refine ar0 (s_lenMap (.tmp rfl) T60 rfl rfl) ?_
      refine mT ?_
      refine ar0 (s_shlW (.const _) (.tmp rfl) (by omega) (i64_shl1 (by omega)) rfl) ?_
      refine ar0 (s_cmp (.tmp rfl) (.tmp rfl) rfl rfl) ?_
      refine hK13 _ ?_
      refine awp_cond (.tmp rfl) (fun ht22 => ?_) (fun ht22 => ?_)
      · have h1 : d.length ≠ 2 ^ k := by have := ht22; simp only [icmp, bne_iff_ne, ne_eq] at this; omega
        refine sr fun K14 hK14=>?_
        refine aC ?_
        refine hK14 _ ?_
        refine awp_ret ⟨_, (.cons (.tmp rfl) .nil), ?_⟩
        exact fin_eq1 (by rw [chkE_len h5 hd hj h1]; rfl)
      · have h1 : d.length = 2 ^ k := by have := ht22; simp only [icmp, bne_eq_false_iff_eq] at this; omega
        have hnu := c_r04_Number k (by omega) d (h.ok d hdm) hdl
        refine awp_skip (hK12 _ ?_)
        refine awp_seq ?_; intro K15 hK15
        refine sr fun K16 hK16=>?_
        refine mT ?_
        refine mT ?_
        refine ar0 (s_call hnu (.cons (.tmp rfl) (.cons (.tmp rfl) .nil)) rfl rfl) ?_
        refine aT ?_
        refine hK16 _ ?_
        refine sr fun K17 hK17=>?_
        refine mT ?_
        refine ar0 (s_cmp (.tmp rfl) (.const _) rfl rfl) ?_
        refine hK17 _ ?_
        refine awp_cond (.tmp rfl) (fun ht27 => ?_) (fun ht27 => ?_)
        · have h2 := neq_t ht27
          refine sr fun K18 hK18=>?_
          refine mT ?_
          refine aT ?_
          refine hK18 _ ?_
          refine awp_ret ⟨_, (.cons (.tmp rfl) .nil), ?_⟩
          exact fin_eq1 (by rw [chkE_num h5 hd hj h1 h2])
        · have h2 := neq_f ht27
          have hts := tsok_take (ts := llq rs) (fun j hjk => (hj j hjk).nl) h.rb
          have hq := numE_ok h2 (h.ok d hdm)
          have hcb : Cb r (lq d) := by have := h.rb.cb k; rw [llq_getD, List.getD_eq_getElem?_getD, hd] at this; exact this
          have hsg : FnC Tryz.prog 145 [towR rs, nR d] (i64 (T.sgn (rtsOf (llq rs)) k (dec k (lq d)))) := by
            have h9 := c_r04_sign ((llq rs).take k) k r hts (by omega) (fun j hjk => by rw [T.sgn_congr j (fun i hi => rtsOf_take (show i < k by omega)), rtsOf_take hjk]; exact (hj j hjk).2.2) (rs.map nR) (fun j hjk => root_in h.ok (show k ≤ rs.length by omega) hj hjk) k (lq d) r (Nat.le_refl _) hq.2 hcb (sB_tw (by omega) hr (by omega))
            rw [T.sgn_congr k (fun j hjk => rtsOf_take hjk)] at h9
            rw [hq.1, nR_rt]
            rw [← hq.1]; exact h9
          refine awp_skip (hK15 _ ?_)
          refine sr fun K19 hK19=>?_
          refine lP T30 ?_
          refine mT ?_
          refine ar0 (s_call hsg (.cons (.tmp rfl) (.cons (.tmp rfl) .nil)) rfl rfl) ?_
          refine ar0 (s_cmp (.tmp rfl) (.const _) rfl rfl) ?_
          refine hK19 _ ?_
          refine awp_cond (.tmp rfl) (fun ht32 => ?_) (fun ht32 => ?_)
          · have h3 : T.sgn (rtsOf (llq rs)) k (dec k (lq d)) < 0 := by simpa [icmp] using ht32
            refine sr fun K20 hK20=>?_
            refine aC ?_
            refine hK20 _ ?_
            refine awp_ret ⟨_, (.cons (.tmp rfl) .nil), ?_⟩
            exact fin_eq1 (by rw [chkE_sgn h5 hd hj h1 h2 h3]; rfl)
          · have h3 : ¬ T.sgn (rtsOf (llq rs)) k (dec k (lq d)) < 0 := by simpa [icmp] using ht32
            refine awp_skip (hK10 _ ?_)
            refine awp_region ?_
            refine ar0 (s_arithW (.tmp rfl) (.const _) rfl (i64_add1 (by unfold maxL; omega)) rfl) ?_
            refine mT ?_
            refine hK7 _ ((fun (k : Nat) => (⟨[(1, some (.ptr 1 0)), (11, some (.lst 1 (rs.map nR))), (12, some (i64 rs.length)), (13, some (i64 k))], [(1, some (.box [.lst 1 (rs.map nR)]))]⟩ : AS)) (k + 1)) ((fun (k : Nat) => rs.length - k) (k + 1)) (Wk.of (.k (.k (.k (.k .nil)))) (.cons rfl (.refl _) .nil)) ⟨k + 1, rfl, ⟨hin, fun j hjk => by rcases Nat.lt_or_ge j k with h9 | h9; exact hj j h9; (have : j = k := by omega); subst this; exact rtok_of hd h1 h2 h3⟩, rfl⟩ (by first | omega | (dsimp only; omega))
    · have hin : k = rs.length := by have : rs.length ≤ k := by simpa [icmp] using ht14
                                     omega
      subst hin
      refine awp_exit ?_
      refine hK5 _ ?_
      refine sr fun K21 hK21=>?_
      refine aC ?_
      refine hK21 _ ?_
      refine awp_ret ⟨_, (.cons (.tmp rfl) .nil), ?_⟩
      exact fin_eq1 (by rw [chkE_all h5 hj]; rfl)
theorem c_r04_errors (rs : List (List Rt)) (r : Nat) (h : TR rs r) (xs : List (List Rt)) (hx : ∀ a ∈ xs, (∀ x ∈ a, x.ok) ∧ a.length ≤ 281474976710656) (hl : xs.length ≤ 281474976710656) : FnC Tryz.prog 109 [towR rs, .lst 1 (xs.map nR)] (i64 (chksE rs xs)) := by
  refine con_of0 (N := 29) (rs := [.tmp 4]) Tryz.func109 rfl rfl rfl rfl ?_
  refine sr fun K1 hK1=>?_
  refine bX ?_
  refine aC ?_
  refine hK1 _ ?_
  refine awp_seq ?_; intro K2 hK2
  refine sr fun K3 hK3=>?_
  refine lP T30 ?_
  refine ar0 (s_call (c_r04_Check rs r h) (.cons (.tmp rfl) .nil) rfl rfl) ?_
  refine aT ?_
  refine hK3 _ ?_
  refine sr fun K4 hK4=>?_
  refine mT ?_
  refine ar0 (s_cmp (.tmp rfl) (.const _) rfl rfl) ?_
  refine hK4 _ ?_
  refine awp_cond (.tmp rfl) (fun ht12 => ?_) (fun ht12 => ?_)
  · have h1 := neq_t ht12
    refine sr fun K5 hK5=>?_
    refine mT ?_
    refine aT ?_
    refine hK5 _ ?_
    refine awp_ret ⟨_, (.cons (.tmp rfl) .nil), ?_⟩
    exact fin_eq1 (by rw [chks_chk h1])
  · have h1 := neq_f ht12
    have h5 : rs.length ≤ 5 := by have := (chk_tw h h1).1.five; rwa [List.length_map] at this
    refine awp_skip (hK2 _ ?_)
    refine awp_seq ?_; intro K6 hK6
    refine sr fun K7 hK7=>?_
    refine mT ?_
    refine ar0 (s_lenMap (.tmp rfl) T28 rfl rfl) ?_
    refine ar0 (s_move (.const _) rfl) ?_
    refine hK7 _ ?_
    refine awp_block ?_
    refine awp_loop (fun n_ s_ => ∃ (i : Nat), xs.length - i = n_ ∧ (i ≤ xs.length ∧ ∀ x ∈ xs.take i, numE rs.length x = 0) ∧ s_ = (⟨[(2, some (.ptr 2 0)), (14, some (.lst 1 (xs.map nR))), (15, some (i64 xs.length)), (16, some (i64 i))], [(2, some (.box [.lst 1 (rs.map nR)]))]⟩ : AS))
      (n := ((fun (i : Nat) => xs.length - i) (0))) (s' := ((fun (i : Nat) => (⟨[(2, some (.ptr 2 0)), (14, some (.lst 1 (xs.map nR))), (15, some (i64 xs.length)), (16, some (i64 i))], [(2, some (.box [.lst 1 (rs.map nR)]))]⟩ : AS)) (0)))
      (Wk.of (.k (.k (.k (.k .nil)))) (.cons rfl (.refl _) .nil)) ⟨0, rfl, ⟨Nat.zero_le _, fun x hx => by simp at hx⟩, rfl⟩ ?_
    intro n_ s_ hI K8 hK8
    obtain ⟨i, rfl, ⟨hi, hj⟩, rfl⟩ := hI
    refine sr fun K9 hK9=>?_
    refine ar0 (s_cmp (.tmp rfl) (.tmp rfl) rfl rfl) ?_
    refine hK9 _ ?_
    refine awp_seq ?_; intro K10 hK10
    refine awp_cond (.tmp rfl) (fun ht17 => ?_) (fun ht17 => ?_)
    · have hin : i < xs.length := by simpa [icmp] using ht17
      obtain ⟨a, ha⟩ := getx hin
      have hok := hx a (List.mem_of_getElem? ha)
      refine awp_skip (hK10 _ ?_)
      refine awp_seq ?_; intro K11 hK11
      refine awp_block ?_
      refine sr fun K12 hK12=>?_
      refine ar0 (s_idxLst (.tmp rfl) (.tmp rfl) T28 rfl T60 rfl (by omega) (getmap ha) rfl) ?_
      refine ar0 (s_loadIptr (.tmp rfl) T60 rfl rfl rfl) ?_
      refine aT ?_
      refine hK12 _ ?_
      refine sr fun K13 hK13=>?_
      refine fP T30 ?_
      refine lP T28 ?_
      refine ar0 (s_lenMap (.tmp rfl) T28 rfl rfl) ?_
      refine mT ?_
      refine ar0 (s_call (c_r04_Number rs.length h5 a hok.1 hok.2) (.cons (.tmp rfl) (.cons (.tmp rfl) .nil)) rfl rfl) ?_
      refine aT ?_
      refine hK13 _ ?_
      refine sr fun K14 hK14=>?_
      refine mT ?_
      refine ar0 (s_cmp (.tmp rfl) (.const _) rfl rfl) ?_
      refine hK14 _ ?_
      refine awp_cond (.tmp rfl) (fun ht26 => ?_) (fun ht26 => ?_)
      · have h2 := neq_t ht26
        refine sr fun K15 hK15=>?_
        refine mT ?_
        refine aT ?_
        refine hK15 _ ?_
        refine awp_ret ⟨_, (.cons (.tmp rfl) .nil), ?_⟩
        exact fin_eq1 (by rw [chks_at h1 ha hj h2])
      · have h2 := neq_f ht26
        refine awp_skip (hK11 _ ?_)
        refine awp_region ?_
        refine ar0 (s_arithW (.tmp rfl) (.const _) rfl (i64_add1 (by unfold maxL; omega)) rfl) ?_
        refine mT ?_
        refine hK8 _ ((fun (i : Nat) => (⟨[(2, some (.ptr 2 0)), (14, some (.lst 1 (xs.map nR))), (15, some (i64 xs.length)), (16, some (i64 i))], [(2, some (.box [.lst 1 (rs.map nR)]))]⟩ : AS)) (i + 1)) ((fun (i : Nat) => xs.length - i) (i + 1)) (Wk.of (.k (.k (.k (.k .nil)))) (.cons rfl (.refl _) .nil)) ⟨i + 1, rfl, ⟨hin, fun x hx => by rw [take_succ_get ha] at hx; rcases List.mem_append.1 hx with h9 | h9; exact hj x h9; (rw [List.mem_singleton.1 h9]; exact h2)⟩, rfl⟩ (by first | omega | (dsimp only; omega))
    · have hin : i = xs.length := by have : xs.length ≤ i := by simpa [icmp] using ht17
                                     omega
      subst hin
      rw [List.take_length] at hj
      refine awp_exit ?_
      refine hK6 _ ?_
      refine sr fun K16 hK16=>?_
      refine aC ?_
      refine hK16 _ ?_
      refine awp_ret ⟨_, (.cons (.tmp rfl) .nil), ?_⟩
      exact fin_eq1 (by rw [chks_of h1 hj]; rfl)
theorem c_r04_Cmp (rs : List (List Rt)) (r : Nat) (h : TR rs r) (a b : List Rt) (e f : Nat) (ha : NR a e) (hb : NR b f) (he : e + f ≤ 900000000) :
  FnC Tryz.prog 89 [towR rs, nR a, nR b] (.tup [i64 (if chksE rs [a, b] = 0 then T.sgn (rtsOf (llq rs)) rs.length (T.add rs.length (dec rs.length (lq a)) (T.neg rs.length (dec rs.length (lq b)))) else 0), i64 (chksE rs [a, b])]) := by
 have hr := h.le
 refine con_of0 (N := 23) (rs := [.tmp 6, .tmp 7]) Tryz.func89 rfl rfl rfl rfl ?_
 refine sr fun K1 hK1=>?_
 refine bX ?_
 refine aC ?_
 refine aC ?_
 refine hK1 _ ?_
 refine awp_seq ?_; intro K2 hK2
 refine sr fun K3 hK3=>?_
 refine lP T30 ?_
 refine mT ?_
 refine mT ?_
 refine ar0 (s_buildLst rfl (.cons (.tmp rfl) (.cons (.tmp rfl) .nil)) T28 rfl T60 rfl rfl rfl rfl rfl rfl rfl rfl) ?_
 refine ar0 (s_call (c_r04_errors rs r h [a, b] (two_ok ha hb) (by simp)) (.cons (.tmp rfl) (.cons (.tmp rfl) .nil)) rfl rfl) ?_
 refine aT ?_
 refine hK3 _ ?_
 refine sr fun K4 hK4=>?_
 refine mT ?_
 refine ar0 (s_cmp (.tmp rfl) (.const _) rfl rfl) ?_
 refine hK4 _ ?_
 refine awp_cond (.tmp rfl) (fun ht15 => ?_) (fun ht15 => ?_)
 ·have h1 := neq_t ht15
  refine sr fun K5 hK5=>?_
  refine mT ?_
  refine aC ?_
  refine aT ?_
  refine hK5 _ ?_
  refine awp_ret ⟨_, (.cons (.tmp rfl) (.cons (.tmp rfl) .nil)), ?_⟩
  exact fin_eq2 (by rw [if_neg h1]; rfl)
 ·have h1 := neq_f ht15
  obtain ⟨h2, h3⟩ := chks_ok h1
  obtain ⟨tw, e0⟩ := chk_tw h h2
  obtain ⟨e1, na⟩ := ha.num (h3 a (by simp))
  obtain ⟨e2, nb⟩ := hb.num (h3 b (by simp))
  have hlen : (llq rs).length = rs.length := List.length_map _
  have h5 : rs.length ≤ 5 := by have := tw.five; omega
  have hla := na.len5 h5
  have hlb := nb.len5 h5
  have htw := tw.ok
  rw [hlen] at htw
  have qa : ∀ q ∈ lq a, Qs q := fun q hq => ha.cb.qs (by omega) hq
  have qb : ∀ q ∈ lq b, Qs q := fun q hq => hb.cb.qs (by omega) hq
  have qm : ∀ q ∈ minusL (lq b), Qs q := fun q hq => hb.cb.minus.qs (by omega) hq
  have np := nl_plus na (nl_minus nb)
  have hsg := c_r04_sign (llq rs) rs.length r htw h5 (fun j hj => tw.pos j (by omega)) ((llq rs).map nA) (fun j hj => rootAt (by omega)) rs.length _ _ (Nat.le_refl _) np (ha.cb.plus hb.cb.minus) (sB_tw h5 hr (by omega))
  refine awp_weaken (Wk.of (sl := [(1, some (nA (lq a))), (2, some (nA (lq b))), (3, some (.ptr 3 0)), (8, some (i64 (chksE rs [a, b])))]) (hp := [(3, some (.box [.lst 1 ((llq rs).map nA)]))]) (.cons rfl (Sub.of e1) (.cons rfl (Sub.of e2) (.k (.k .nil)))) (.cons rfl (BlkSub.boxL (.cons (.of (towR_in e0)) .nil) rfl) .nil)) ?_
  refine awp_skip (hK2 _ ?_)
  refine awp_seq ?_; intro K6 hK6
  refine awp_region_draw mixedP ?_
  refine lP T30 ?_
  refine mT ?_
  refine mT ?_
  refine ar0 (s_call (c_r04_less _ qb (by omega)) (.cons (.tmp rfl) .nil) rfl rfl) ?_
  refine ar0 (s_call (c_r04_plus _ _ qa qm (by omega) (by rw [len_minus]; omega)) (.cons (.tmp rfl) (.cons (.tmp rfl) .nil)) rfl rfl) ?_
  refine ar0 (s_call hsg (.cons (.tmp rfl) (.cons (.tmp rfl) .nil)) rfl rfl) ?_
  refine aT ?_
  refine aC ?_
  refine ⟨by kernel_rfl, ?_⟩
  refine hK6 _ ?_
  refine awp_ret ⟨_, (.cons (.tmp rfl) (.cons (.tmp rfl) .nil)), ?_⟩
  exact fin_eq2 (by rw [if_pos h1, h1, dec_plus, dec_minus]; rfl)
theorem c_r04_Lift (rs : List (List Rt)) (r : Nat) (h : TR rs r) (a : List Rt) (e : Nat) (ha : NR a e) (he : e ≤ 1000000000) :
  FnC Tryz.prog 83 [towR rs, nR a] (.tup [nA (if chksE rs [a] = 0 then wideL (lq a) (2 ^ rs.length) else []), i64 (chksE rs [a])]) := by
 refine con_of0 (N := 20) (rs := [.tmp 4, .tmp 5]) Tryz.func83 rfl rfl rfl rfl ?_
 refine sr fun K1 hK1=>?_
 refine bX ?_
 refine aC ?_
 refine aC ?_
 refine hK1 _ ?_
 refine awp_seq ?_; intro K2 hK2
 refine sr fun K3 hK3=>?_
 refine lP T30 ?_
 refine mT ?_
 refine ar0 (s_buildLst rfl (.cons (.tmp rfl) .nil) T28 rfl T60 rfl rfl rfl rfl rfl rfl rfl rfl) ?_
 refine ar0 (s_call (c_r04_errors rs r h [a] (fun x hx => by rw [List.mem_singleton.1 hx]; exact ⟨ha.ok, ha.len⟩) (by simp)) (.cons (.tmp rfl) (.cons (.tmp rfl) .nil)) rfl rfl) ?_
 refine aT ?_
 refine hK3 _ ?_
 refine sr fun K4 hK4=>?_
 refine mT ?_
 refine ar0 (s_cmp (.tmp rfl) (.const _) rfl rfl) ?_
 refine hK4 _ ?_
 refine awp_cond (.tmp rfl) (fun ht12 => ?_) (fun ht12 => ?_)
 ·have h1 := neq_t ht12
  refine sr fun K5 hK5=>?_
  refine mT ?_
  refine aC ?_
  refine aT ?_
  refine hK5 _ ?_
  refine awp_ret ⟨_, (.cons (.tmp rfl) (.cons (.tmp rfl) .nil)), ?_⟩
  exact fin_sub (by rw [if_neg h1]; exact Sub.tup (.cons (.nil _ _ _) (.cons (.refl _) .nil)))
 ·have h1 := neq_f ht12
  obtain ⟨h2, h3⟩ := chks_ok h1
  obtain ⟨tw, e0⟩ := chk_tw h h2
  obtain ⟨e1, na⟩ := ha.num (h3 a (by simp))
  have hlen : (llq rs).length = rs.length := List.length_map _
  have h5 : rs.length ≤ 5 := by have := tw.five; omega
  have hp5 : 2 ^ rs.length ≤ 32 := pow_le2 (b := 5) h5
  refine awp_weaken (Wk.of (sl := [(1, some (nA (lq a))), (2, some (.ptr 2 0)), (6, some (i64 (chksE rs [a])))]) (hp := [(2, some (.box [.lst 1 (rs.map nR)]))]) (.cons rfl (Sub.of e1) (.k (.k .nil))) (.cons rfl (.refl _) .nil)) ?_
  refine awp_skip (hK2 _ ?_)
  refine sr fun K6 hK6=>?_
  refine mT ?_
  refine fP T30 ?_
  refine lP T28 ?_
  refine ar0 (s_lenMap (.tmp rfl) T28 rfl rfl) ?_
  refine ar0 (s_shlW (.const _) (.tmp rfl) (by omega) (i64_shl1 (by omega)) rfl) ?_
  refine ar0 (s_call (c_r04_wide _ _ na.le (by omega)) (.cons (.tmp rfl) (.cons (.tmp rfl) .nil)) rfl rfl) ?_
  refine aT ?_
  refine aC ?_
  refine hK6 _ ?_
  refine awp_ret ⟨_, (.cons (.tmp rfl) (.cons (.tmp rfl) .nil)), ?_⟩
  exact fin_eq2 (by rw [if_pos h1, h1]; rfl)
theorem c_r04_Of (x : Rt) (hx : x.ok) (hs : Qs x.q) : FnC Tryz.prog 25 [x.av] (nA (sh 0 (x.q : Rat))) := by
 have hadd := c_r02_Add x (rt 0) hx Qs.zero.ok
 rw [ofsum] at hadd
 refine con_of0 (N := 10) (rs := [.tmp 2]) Tryz.func25 rfl rfl rfl rfl ?_
 refine sr fun K1 hK1=>?_
 refine bX ?_
 refine aC ?_
 refine hK1 _ ?_
 refine awp_seq ?_; intro K2 hK2
 refine sr fun K3 hK3=>?_
 refine lP T68 ?_
 refine ar0 (s_call (c_r02_Sign x hx) (.cons (.tmp rfl) .nil) rfl rfl) ?_
 refine ar0 (s_cmp (.tmp rfl) (.const _) rfl rfl) ?_
 refine hK3 _ ?_
 refine awp_cond (.tmp rfl) (fun ht5 => ?_) (fun ht5 => ?_)
 ·have h0 : x.q = 0 := sgnQ_zero (by simpa [icmp] using ht5)
  refine sr fun K4 hK4=>?_
  refine aC ?_
  refine hK4 _ ?_
  refine awp_ret ⟨_, (.cons (.tmp rfl) .nil), ?_⟩
  exact fin_sub1 (by rw [h0]; exact Sub.nil _ _ _)
 ·have h0 : x.q ≠ 0 := fun h => by rw [h] at ht5; cases ht5
  refine awp_skip (hK2 _ ?_)
  refine sr fun K5 hK5=>?_
  refine lP T68 ?_
  refine ar0 (s_build .nil T68 rfl rfl rfl rfl rfl) ?_
  refine ar0 (s_call (Con.subA (.cons (.refl _) (.cons sub_q0 .nil)) hadd) (.cons (.tmp rfl) (.cons (.tmp rfl) .nil)) rfl rfl) ?_
  refine ar0 (s_buildLst rfl (.cons (.tmp rfl) .nil) T60 rfl T68 rfl rfl rfl rfl rfl rfl rfl rfl) ?_
  refine aT ?_
  refine hK5 _ ?_
  refine awp_ret ⟨_, (.cons (.tmp rfl) .nil), ?_⟩
  exact fin_eq1 (by
   have : sh 0 (x.q : Rat) = [x.q] := if_neg h0
   rw [this]; rfl)
end Go.Lw
namespace Go.Lw
open Go.Proofs
theorem q_Add {p q : Rat} (hp : Qs p) (hq : Qs q) : FnC Tryz.prog 156 [qA p, qA q] (qA (p + q)) := by
 have h := c_fraction_Add (rt p) (rt q) hp.ok hq.ok
 rw [rt_q, rt_q] at h
 exact h
theorem q_Sub {p q : Rat} (hp : Qs p) (hq : Qs q) : FnC Tryz.prog 209 [qA p, qA q] (qA (p - q)) := by
 have h := c_fraction_Sub (rt p) (rt q) hp.ok hq.ok
 rw [rt_q, rt_q] at h
 exact h
theorem q_Mul {p q : Rat} (hp : Qs p) (hq : Qs q) : FnC Tryz.prog 207 [qA p, qA q] (qA (p * q)) := by
 have h := c_fraction_Mul (rt p) (rt q) hp.ok hq.ok
 rw [rt_q, rt_q] at h
 exact h
theorem q_Div {p q : Rat} (hp : Qs p) (hq : Qs q) : FnC Tryz.prog 240 [qA p, qA q] (.tup [qA (p / q), errA (if q = 0 then 8 else 0)]) := by
 have h := c_fraction_Div (rt p) (rt q) hp.ok hq.ok
 rw [rt_q, rt_q] at h
 exact h
theorem qr_Add {p q : Rat} (hp : Qs p) (hq : Qs q) : FnC Tryz.prog 55 [qA p, qA q] (qA (p + q)) := by
 have h := c_r02_Add (rt p) (rt q) hp.ok hq.ok
 rw [rt_q, rt_q] at h
 exact h
theorem qr_Sub {p q : Rat} (hp : Qs p) (hq : Qs q) : FnC Tryz.prog 92 [qA p, qA q] (qA (p - q)) := by
 have h := c_r02_Sub (rt p) (rt q) hp.ok hq.ok
 rw [rt_q, rt_q] at h
 exact h
theorem qr_Mul {p q : Rat} (hp : Qs p) (hq : Qs q) : FnC Tryz.prog 90 [qA p, qA q] (qA (p * q)) := by
 have h := c_r02_Mul (rt p) (rt q) hp.ok hq.ok
 rw [rt_q, rt_q] at h
 exact h
theorem qr_Div {p q : Rat} (hp : Qs p) (hq : Qs q) : FnC Tryz.prog 153 [qA p, qA q] (.tup [qA (p / q), i64 (if q = 0 then 8 else 0)]) := by
 have h := c_r02_Div (rt p) (rt q) hp.ok hq.ok
 rw [rt_q, rt_q] at h
 exact h
theorem c_turn_Check (x : Tn) (hx : x.t.ok) : FnC Tryz.prog 34 [x.av] (errA x.err) := by
 refine con_of0 (N := 18) (rs := [.tmp 2]) Tryz.func34 rfl rfl rfl rfl ?_
 refine sr fun K1 hK1=>?_
 refine bX ?_
 refine aC ?_
 refine hK1 _ ?_
 refine awp_seq ?_; intro K2 hK2
 refine sr fun K3 hK3=>?_
 refine fP T81 ?_
 refine lP T68 ?_
 refine ar0 (s_call (c_fraction_Valid x.t hx) (.cons (.tmp rfl) .nil) rfl rfl) ?_
 refine ar0 (s_not (.tmp rfl) rfl) ?_
 refine mT ?_
 refine ar0 (s_guard rfl rfl rfl (fun h => s_fldPtr (.tmp rfl) T81 rfl rfl rfl rfl)) ?_
 refine ar0 (s_guard rfl rfl rfl (fun h => s_loadPtr (.opt rfl (o1 h)) rfl T4 rfl rfl rfl)) ?_
 refine ar0 (s_guard rfl rfl rfl (fun h => s_move (.opt rfl (o1 h)) rfl)) ?_
 refine ar0 (s_guardO rfl rfl rfl (fun h h2 => s_fldPtr (.tmp rfl) T81 rfl rfl rfl rfl)) ?_
 refine ar0 (s_guardO rfl rfl rfl (fun h h2 => s_loadPtr (.opt rfl (o2 h h2)) rfl T68 rfl rfl rfl)) ?_
 refine ar0 (s_guardO rfl rfl rfl (fun h h2 => s_call (c_fraction_Sign x.t hx) (.cons (.opt rfl (o2 h h2)) .nil) rfl rfl)) ?_
 refine ar0 (s_guardO rfl rfl rfl (fun h h2 => s_cmp (.opt rfl (o2 h h2)) (.const _) rfl rfl)) ?_
 refine ar0 (s_guard rfl rfl rfl (fun h => s_pick (.opt rfl (o1 h)) (fun hp => .opt rfl (o2 (o1 h) hp)) (fun _ => .const _) rfl)) ?_
 refine ar0 (s_pick (.tmp rfl) (fun _ => .const _) (fun hp => .opt rfl (o1 hp)) rfl) ?_
 refine hK3 _ ?_
 refine awp_cond (.tmp rfl) (fun ht16 => ?_) (fun ht16 => ?_)
 ·have h0 := Tn.err_yes ht16
  refine sr fun K4 hK4=>?_
  refine ar0 (s_mkIface (.const _) rfl T97 rfl) ?_
  refine aT ?_
  refine hK4 _ ?_
  refine awp_ret ⟨_, (.cons (.tmp rfl) .nil), ?_⟩
  exact fin_eq1 (by rw [h0]; rfl)
 ·have h0 := Tn.err_no ht16
  refine awp_skip (hK2 _ ?_)
  refine sr fun K5 hK5=>?_
  refine aC ?_
  refine hK5 _ ?_
  refine awp_ret ⟨_, (.cons (.tmp rfl) .nil), ?_⟩
  exact fin_eq1 (by rw [h0]; rfl)
theorem c_turn_over {p q : Rat} (hp : Qs p) (hq : Qs q) : FnC Tryz.prog 208 [qA p, qA q] (qA (p / q)) := by
 refine con_of0 (N := 17) (rs := [.cell 4 68]) Tryz.func208 rfl rfl rfl rfl ?_
 refine sr fun K1 hK1=>?_
 refine bX ?_
 refine bX ?_
 refine al T68 ?_
 refine hK1 _ ?_
 refine sr fun K2 hK2=>?_
 refine lP T68 ?_
 refine lP T68 ?_
 refine ar0 (s_call (q_Div hp hq) (.cons (.tmp rfl) (.cons (.tmp rfl) .nil)) rfl rfl) ?_
 refine mT ?_
 refine ar0 (s_extract (.tmp rfl) rfl rfl) ?_
 refine ar0 (s_extract (.tmp rfl) rfl rfl) ?_
 refine al T68 ?_
 refine sP T68 ?_
 refine aT ?_
 refine hK2 _ ?_
 refine awp_seq ?_; intro K3 hK3
 refine sr fun K4 hK4=>?_
 refine mT ?_
 refine ar0 (s_errNe (.tmp rfl) (by first | exact .inl rfl | exact .inr ⟨_, _, rfl⟩ | exact errV_or _) T41 rfl rfl) ?_
 refine hK4 _ ?_
 refine awp_cond (.tmp rfl) (fun ht14 => ?_) (fun ht14 => ?_)
 ·have h0 : q = 0 := by
   have := nNil_t ht14
   by_cases h : q = 0
   ·exact h
   ·rw [if_neg h] at this; exact absurd rfl this
  refine sr fun K5 hK5=>?_
  refine ar0 (s_build .nil T68 rfl rfl rfl rfl rfl) ?_
  refine sP T68 ?_
  refine hK5 _ ?_
  refine awp_ret ⟨_, (.cons (.cell rfl rfl T68 rfl rfl) .nil), ?_⟩
  exact fin_sub1 (by rw [h0, div_zero]; exact sub_q0)
 ·skip
  refine awp_skip (hK3 _ ?_)
  refine sr fun K6 hK6=>?_
  refine lP T68 ?_
  refine sP T68 ?_
  refine hK6 _ ?_
  refine awp_ret ⟨_, (.cons (.cell rfl rfl T68 rfl rfl) .nil), ?_⟩
  exact fin_eq (by rfl)
theorem c_turn_direction (half : Bool) {t : Rat} {e : Nat} (ht : Qb e t) (he : e ≤ 1000000) : FnC Tryz.prog 155 [Tn.av ⟨rt t, half⟩] (.tup [qA (cosQ half t), qA (sinQ half t)]) := by
 have qt : Qs t := ht.qs (by omega)
 have m2 := ht.mul ht
 have one : Qb 1 (((1 : Int) : Rat)) := Qb.one
 have d := one.add m2
 refine con_of0 (N := 32) (rs := [.cell 2 68, .cell 3 68]) Tryz.func155 rfl rfl rfl rfl ?_
 refine sr fun K1 hK1=>?_
 refine bX ?_
 refine al T68 ?_
 refine al T68 ?_
 refine hK1 _ ?_
 refine awp_seq ?_; intro K2 hK2
 refine sr fun K3 hK3=>?_
 refine fP T81 ?_
 refine lP T4 ?_
 refine hK3 _ ?_
 refine awp_cond (.tmp rfl) (fun ht8 => ?_) (fun ht8 => ?_)
 ·have h0 : half = true := ht8
  refine sr fun K4 hK4=>?_
  refine ar0 (s_call (c_fraction_Of (-1) (by omega)) (.cons (.const _) .nil) rfl rfl) ?_
  refine ar0 (s_build .nil T68 rfl rfl rfl rfl rfl) ?_
  refine sP T68 ?_
  refine sP T68 ?_
  refine hK4 _ ?_
  refine awp_ret ⟨_, (.cons (.cell rfl rfl T68 rfl rfl) (.cons (.cell rfl rfl T68 rfl rfl) .nil)), ?_⟩
  exact fin_sub (by subst h0; exact Sub.tup (.cons (.refl _) (.cons sub_q0 .nil)))
 ·have h0 : half = false := ht8
  refine awp_skip (hK2 _ ?_)
  refine awp_seq ?_; intro K5 hK5
  refine awp_region_draw mixedP ?_
  refine ar0 (s_call (c_fraction_Of 1 (by omega)) (.cons (.const _) .nil) rfl rfl) ?_
  refine fP T81 ?_
  refine lP T68 ?_
  refine fP T81 ?_
  refine lP T68 ?_
  refine ar0 (s_call (q_Mul qt qt) (.cons (.tmp rfl) (.cons (.tmp rfl) .nil)) rfl rfl) ?_
  refine al T68 ?_
  refine al T68 ?_
  refine sP T68 ?_
  refine sP T68 ?_
  refine ⟨by kernel_rfl, ?_⟩
  refine hK5 _ ?_
  refine sr fun K6 hK6=>?_
  refine lP T68 ?_
  refine lP T68 ?_
  refine ar0 (s_call (q_Add (one.qs (by omega)) (m2.qs (by omega))) (.cons (.tmp rfl) (.cons (.tmp rfl) .nil)) rfl rfl) ?_
  refine al T68 ?_
  refine sP T68 ?_
  refine hK6 _ ?_
  refine awp_seq ?_; intro K7 hK7
  refine awp_region_draw mixedP ?_
  refine lP T68 ?_
  refine lP T68 ?_
  refine ar0 (s_call (q_Sub (one.qs (by omega)) (m2.qs (by omega))) (.cons (.tmp rfl) (.cons (.tmp rfl) .nil)) rfl rfl) ?_
  refine lP T68 ?_
  refine ar0 (s_call (c_turn_over ((one.sub m2).qs (by omega)) (d.qs (by omega))) (.cons (.tmp rfl) (.cons (.tmp rfl) .nil)) rfl rfl) ?_
  refine fP T81 ?_
  refine lP T68 ?_
  refine fP T81 ?_
  refine lP T68 ?_
  refine ar0 (s_call (q_Add qt qt) (.cons (.tmp rfl) (.cons (.tmp rfl) .nil)) rfl rfl) ?_
  refine lP T68 ?_
  refine ar0 (s_call (c_turn_over ((ht.add ht).qs (by omega)) (d.qs (by omega))) (.cons (.tmp rfl) (.cons (.tmp rfl) .nil)) rfl rfl) ?_
  refine sP T68 ?_
  refine sP T68 ?_
  refine ⟨by kernel_rfl, ?_⟩
  refine hK7 _ ?_
  refine awp_ret ⟨_, (.cons (.cell rfl rfl T68 rfl rfl) (.cons (.cell rfl rfl T68 rfl rfl) .nil)), ?_⟩
  exact fin_eq2 (by subst h0; rfl)
theorem c_turn_Cos (x : Tn) (hx : x.t.ok) {e : Nat} (hq : Qb e x.t.q) (he : e ≤ 1000000) : FnC Tryz.prog 94 [x.av] (.tup [qA (if x.err = 0 then cosQ x.half x.t.q else 0), errA x.err]) := by
 refine con_of0 (N := 19) (rs := [.cell 2 68, .tmp 3]) Tryz.func94 rfl rfl rfl rfl ?_
 refine sr fun K1 hK1=>?_
 refine bX ?_
 refine al T68 ?_
 refine aC ?_
 refine hK1 _ ?_
 refine awp_seq ?_; intro K2 hK2
 refine sr fun K3 hK3=>?_
 refine lP T81 ?_
 refine ar0 (s_call (c_turn_Check x hx) (.cons (.tmp rfl) .nil) rfl rfl) ?_
 refine aT ?_
 refine hK3 _ ?_
 refine sr fun K4 hK4=>?_
 refine mT ?_
 refine ar0 (s_errNe (.tmp rfl) (by first | exact .inl rfl | exact .inr ⟨_, _, rfl⟩ | exact errV_or _) T41 rfl rfl) ?_
 refine hK4 _ ?_
 refine awp_cond (.tmp rfl) (fun ht10 => ?_) (fun ht10 => ?_)
 ·have h1 := nNil_t ht10
  refine sr fun K5 hK5=>?_
  refine ar0 (s_build .nil T68 rfl rfl rfl rfl rfl) ?_
  refine mT ?_
  refine sP T68 ?_
  refine aT ?_
  refine hK5 _ ?_
  refine awp_ret ⟨_, (.cons (.cell rfl rfl T68 rfl rfl) (.cons (.tmp rfl) .nil)), ?_⟩
  exact fin_sub (by rw [if_neg h1]; exact Sub.tup (.cons sub_q0 (.cons (.refl _) .nil)))
 ·have h1 := nNil_f ht10
  have hd := c_turn_direction x.half hq he
  rw [← Rt.eq_rt hx (Tn.ok_valid h1)] at hd
  refine awp_skip (hK2 _ ?_)
  refine sr fun K6 hK6=>?_
  refine lP T81 ?_
  refine ar0 (s_call hd (.cons (.tmp rfl) .nil) rfl rfl) ?_
  refine mT ?_
  refine ar0 (s_extract (.tmp rfl) rfl rfl) ?_
  refine ar0 (s_extract (.tmp rfl) rfl rfl) ?_
  refine al T68 ?_
  refine al T68 ?_
  refine sP T68 ?_
  refine sP T68 ?_
  refine hK6 _ ?_
  refine sr fun K7 hK7=>?_
  refine lP T68 ?_
  refine sP T68 ?_
  refine aC ?_
  refine hK7 _ ?_
  refine awp_ret ⟨_, (.cons (.cell rfl rfl T68 rfl rfl) (.cons (.tmp rfl) .nil)), ?_⟩
  exact fin_eq (by rw [if_pos h1, h1]; rfl)
theorem c_turn_Sin (x : Tn) (hx : x.t.ok) {e : Nat} (hq : Qb e x.t.q) (he : e ≤ 1000000) : FnC Tryz.prog 95 [x.av] (.tup [qA (if x.err = 0 then sinQ x.half x.t.q else 0), errA x.err]) := by
 refine con_of0 (N := 19) (rs := [.cell 2 68, .tmp 3]) Tryz.func95 rfl rfl rfl rfl ?_
 refine sr fun K1 hK1=>?_
 refine bX ?_
 refine al T68 ?_
 refine aC ?_
 refine hK1 _ ?_
 refine awp_seq ?_; intro K2 hK2
 refine sr fun K3 hK3=>?_
 refine lP T81 ?_
 refine ar0 (s_call (c_turn_Check x hx) (.cons (.tmp rfl) .nil) rfl rfl) ?_
 refine aT ?_
 refine hK3 _ ?_
 refine sr fun K4 hK4=>?_
 refine mT ?_
 refine ar0 (s_errNe (.tmp rfl) (by first | exact .inl rfl | exact .inr ⟨_, _, rfl⟩ | exact errV_or _) T41 rfl rfl) ?_
 refine hK4 _ ?_
 refine awp_cond (.tmp rfl) (fun ht10 => ?_) (fun ht10 => ?_)
 ·have h1 := nNil_t ht10
  refine sr fun K5 hK5=>?_
  refine ar0 (s_build .nil T68 rfl rfl rfl rfl rfl) ?_
  refine mT ?_
  refine sP T68 ?_
  refine aT ?_
  refine hK5 _ ?_
  refine awp_ret ⟨_, (.cons (.cell rfl rfl T68 rfl rfl) (.cons (.tmp rfl) .nil)), ?_⟩
  exact fin_sub (by rw [if_neg h1]; exact Sub.tup (.cons sub_q0 (.cons (.refl _) .nil)))
 ·have h1 := nNil_f ht10
  have hd := c_turn_direction x.half hq he
  rw [← Rt.eq_rt hx (Tn.ok_valid h1)] at hd
  refine awp_skip (hK2 _ ?_)
  refine sr fun K6 hK6=>?_
  refine lP T81 ?_
  refine ar0 (s_call hd (.cons (.tmp rfl) .nil) rfl rfl) ?_
  refine mT ?_
  refine ar0 (s_extract (.tmp rfl) rfl rfl) ?_
  refine ar0 (s_extract (.tmp rfl) rfl rfl) ?_
  refine al T68 ?_
  refine al T68 ?_
  refine sP T68 ?_
  refine sP T68 ?_
  refine hK6 _ ?_
  refine sr fun K7 hK7=>?_
  refine lP T68 ?_
  refine sP T68 ?_
  refine aC ?_
  refine hK7 _ ?_
  refine awp_ret ⟨_, (.cons (.cell rfl rfl T68 rfl rfl) (.cons (.tmp rfl) .nil)), ?_⟩
  exact fin_eq (by rw [if_pos h1, h1]; rfl)
theorem c_r12_one : FnC Tryz.prog 93 [] (qA 1) := by
 refine con_of0 (N := 2) (rs := [.cell 0 68]) Tryz.func93 rfl rfl rfl rfl ?_
 refine sr fun K1 hK1=>?_
 refine al T68 ?_
 refine hK1 _ ?_
 refine sr fun K2 hK2=>?_
 refine ar0 (s_call (c_r02_Of 1 (by omega)) (.cons (.const _) .nil) rfl rfl) ?_
 refine sP T68 ?_
 refine hK2 _ ?_
 refine awp_ret ⟨_, (.cons (.cell rfl rfl T68 rfl rfl) .nil), ?_⟩
 exact fin_eq (by first | rfl | (simp; done))
theorem c_r12_over {p q : Rat} (hp : Qs p) (hq : Qs q) : FnC Tryz.prog 91 [qA p, qA q] (qA (p / q)) := by
 refine con_of0 (N := 14) (rs := [.cell 4 68]) Tryz.func91 rfl rfl rfl rfl ?_
 refine sr fun K1 hK1=>?_
 refine bX ?_
 refine bX ?_
 refine al T68 ?_
 refine hK1 _ ?_
 refine sr fun K2 hK2=>?_
 refine lP T68 ?_
 refine lP T68 ?_
 refine ar0 (s_call (qr_Div hp hq) (.cons (.tmp rfl) (.cons (.tmp rfl) .nil)) rfl rfl) ?_
 refine mT ?_
 refine ar0 (s_extract (.tmp rfl) rfl rfl) ?_
 refine ar0 (s_extract (.tmp rfl) rfl rfl) ?_
 refine al T68 ?_
 refine sP T68 ?_
 refine aT ?_
 refine hK2 _ ?_
 refine sr fun K3 hK3=>?_
 refine lP T68 ?_
 refine sP T68 ?_
 refine hK3 _ ?_
 refine awp_ret ⟨_, (.cons (.cell rfl rfl T68 rfl rfl) .nil), ?_⟩
 exact fin_eq (by first | rfl | (simp; done))
theorem c_r12_Cos (half : Bool) {t : Rat} {e : Nat} (ht : Qb e t) (he : e ≤ 1000000) : FnC Tryz.prog 41 [Tn.av ⟨rt t, half⟩] (qA (cosQ half t)) := by
 have qt : Qs t := ht.qs (by omega)
 have m2 := ht.mul ht
 have d := Qb.one.add m2
 refine con_of0 (N := 19) (rs := [.cell 2 68]) Tryz.func41 rfl rfl rfl rfl ?_
 refine sr fun K1 hK1=>?_
 refine bX ?_
 refine al T68 ?_
 refine hK1 _ ?_
 refine awp_seq ?_; intro K2 hK2
 refine sr fun K3 hK3=>?_
 refine fP T81 ?_
 refine lP T4 ?_
 refine hK3 _ ?_
 refine awp_cond (.tmp rfl) (fun ht5 => ?_) (fun ht5 => ?_)
 ·have h0 : half = true := ht5
  refine sr fun K4 hK4=>?_
  refine ar0 (s_call (c_r02_Of (-1) (by omega)) (.cons (.const _) .nil) rfl rfl) ?_
  refine sP T68 ?_
  refine hK4 _ ?_
  refine awp_ret ⟨_, (.cons (.cell rfl rfl T68 rfl rfl) .nil), ?_⟩
  exact fin_eq (by subst h0; rfl)
 ·have h0 : half = false := ht5
  refine awp_skip (hK2 _ ?_)
  refine sr fun K5 hK5=>?_
  refine fP T81 ?_
  refine lP T68 ?_
  refine fP T81 ?_
  refine lP T68 ?_
  refine ar0 (s_call (qr_Mul qt qt) (.cons (.tmp rfl) (.cons (.tmp rfl) .nil)) rfl rfl) ?_
  refine al T68 ?_
  refine sP T68 ?_
  refine hK5 _ ?_
  refine awp_seq ?_; intro K6 hK6
  refine awp_region_draw mixedP ?_
  refine ar0 (s_call c_r12_one .nil rfl rfl) ?_
  refine lP T68 ?_
  refine ar0 (s_call (qr_Sub (Qb.one.qs (by omega)) (m2.qs (by omega))) (.cons (.tmp rfl) (.cons (.tmp rfl) .nil)) rfl rfl) ?_
  refine ar0 (s_call c_r12_one .nil rfl rfl) ?_
  refine lP T68 ?_
  refine ar0 (s_call (qr_Add (Qb.one.qs (by omega)) (m2.qs (by omega))) (.cons (.tmp rfl) (.cons (.tmp rfl) .nil)) rfl rfl) ?_
  refine ar0 (s_call (c_r12_over ((Qb.one.sub m2).qs (by omega)) (d.qs (by omega))) (.cons (.tmp rfl) (.cons (.tmp rfl) .nil)) rfl rfl) ?_
  refine sP T68 ?_
  refine ⟨by kernel_rfl, ?_⟩
  refine hK6 _ ?_
  refine awp_ret ⟨_, (.cons (.cell rfl rfl T68 rfl rfl) .nil), ?_⟩
  exact fin_eq (by subst h0; rfl)
theorem c_r12_Sin (half : Bool) {t : Rat} {e : Nat} (ht : Qb e t) (he : e ≤ 1000000) : FnC Tryz.prog 42 [Tn.av ⟨rt t, half⟩] (qA (sinQ half t)) := by
 have qt : Qs t := ht.qs (by omega)
 have m2 := ht.mul ht
 have d := Qb.one.add m2
 refine con_of0 (N := 19) (rs := [.cell 2 68]) Tryz.func42 rfl rfl rfl rfl ?_
 refine sr fun K1 hK1=>?_
 refine bX ?_
 refine al T68 ?_
 refine hK1 _ ?_
 refine awp_seq ?_; intro K2 hK2
 refine sr fun K3 hK3=>?_
 refine fP T81 ?_
 refine lP T4 ?_
 refine hK3 _ ?_
 refine awp_cond (.tmp rfl) (fun ht4 => ?_) (fun ht4 => ?_)
 ·have h0 : half = true := ht4
  refine sr fun K4 hK4=>?_
  refine ar0 (s_build .nil T68 rfl rfl rfl rfl rfl) ?_
  refine sP T68 ?_
  refine hK4 _ ?_
  refine awp_ret ⟨_, (.cons (.cell rfl rfl T68 rfl rfl) .nil), ?_⟩
  exact fin_sub1 (by subst h0; exact sub_q0)
 ·have h0 : half = false := ht4
  refine awp_skip (hK2 _ ?_)
  refine awp_seq ?_; intro K5 hK5
  refine awp_region_draw mixedP ?_
  refine fP T81 ?_
  refine lP T68 ?_
  refine fP T81 ?_
  refine lP T68 ?_
  refine ar0 (s_call (qr_Add qt qt) (.cons (.tmp rfl) (.cons (.tmp rfl) .nil)) rfl rfl) ?_
  refine ar0 (s_call c_r12_one .nil rfl rfl) ?_
  refine fP T81 ?_
  refine lP T68 ?_
  refine fP T81 ?_
  refine lP T68 ?_
  refine ar0 (s_call (qr_Mul qt qt) (.cons (.tmp rfl) (.cons (.tmp rfl) .nil)) rfl rfl) ?_
  refine ar0 (s_call (qr_Add (Qb.one.qs (by omega)) (m2.qs (by omega))) (.cons (.tmp rfl) (.cons (.tmp rfl) .nil)) rfl rfl) ?_
  refine ar0 (s_call (c_r12_over ((ht.add ht).qs (by omega)) (d.qs (by omega))) (.cons (.tmp rfl) (.cons (.tmp rfl) .nil)) rfl rfl) ?_
  refine sP T68 ?_
  refine ⟨by kernel_rfl, ?_⟩
  refine hK5 _ ?_
  refine awp_ret ⟨_, (.cons (.cell rfl rfl T68 rfl rfl) .nil), ?_⟩
  exact fin_eq (by subst h0; rfl)
theorem c_r17_Zero (a : Rt) (ha : a.ok) : FnC Tryz.prog 163 [a.av] (bl (decide (a.q = 0))) := by
 refine con_of0 (N := 6) (rs := [.tmp 2]) Tryz.func163 rfl rfl rfl rfl ?_
 refine sr fun K1 hK1=>?_
 refine bX ?_
 refine aC ?_
 refine hK1 _ ?_
 refine sr fun K2 hK2=>?_
 refine lP T68 ?_
 refine ar0 (s_call (c_r02_Sign a ha) (.cons (.tmp rfl) .nil) rfl rfl) ?_
 refine ar0 (s_cmp (.tmp rfl) (.const _) rfl rfl) ?_
 refine aT ?_
 refine hK2 _ ?_
 refine awp_ret ⟨_, (.cons (.tmp rfl) .nil), ?_⟩
 exact fin_eq1 (by exact congrArg bl (sgn_eq0 a.q))
theorem c_r17_Turn (x : Tn) (hx : x.t.ok) : FnC Tryz.prog 103 [x.av] (bl (decide (x.err = 0))) := by
 refine con_of0 (N := 16) (rs := [.tmp 2]) Tryz.func103 rfl rfl rfl rfl ?_
 refine sr fun K1 hK1=>?_
 refine bX ?_
 refine aC ?_
 refine hK1 _ ?_
 refine sr fun K2 hK2=>?_
 refine fP T81 ?_
 refine lP T68 ?_
 refine ar0 (s_call (c_r02_Valid x.t hx) (.cons (.tmp rfl) .nil) rfl rfl) ?_
 refine mT ?_
 refine ar0 (s_guard rfl rfl rfl (fun h => s_fldPtr (.tmp rfl) T81 rfl rfl rfl rfl)) ?_
 refine ar0 (s_guard rfl rfl rfl (fun h => s_loadPtr (.opt rfl (o1 h)) rfl T4 rfl rfl rfl)) ?_
 refine ar0 (s_guard rfl rfl rfl (fun h => s_not (.opt rfl (o1 h)) rfl)) ?_
 refine ar0 (s_guard rfl rfl rfl (fun h => s_move (.opt rfl (o1 h)) rfl)) ?_
 refine ar0 (s_guardO rfl rfl rfl (fun h h2 => s_fldPtr (.tmp rfl) T81 rfl rfl rfl rfl)) ?_
 refine ar0 (s_guardO rfl rfl rfl (fun h h2 => s_loadPtr (.opt rfl (o2 h h2)) rfl T68 rfl rfl rfl)) ?_
 refine ar0 (s_guardO rfl rfl rfl (fun h h2 => s_call (c_r17_Zero x.t hx) (.cons (.opt rfl (o2 h h2)) .nil) rfl rfl)) ?_
 refine ar0 (s_guard rfl rfl rfl (fun h => s_pick (.opt rfl (o1 h)) (fun _ => .const _) (fun hp => .opt rfl (o2 (o1 h) hp)) rfl)) ?_
 refine ar0 (s_pick (.tmp rfl) (fun hp => .opt rfl (o1 hp)) (fun _ => .const _) rfl) ?_
 refine aT ?_
 refine hK2 _ ?_
 refine awp_ret ⟨_, (.cons (.tmp rfl) .nil), ?_⟩
 exact fin_eq1 (by exact congrArg bl (Tn.err_dec x))
theorem c_r17_Place (p : Plc) (hx : p.x.ok) (hy : p.y.ok) : FnC Tryz.prog 104 [p.av] (bl (p.x.valid && p.y.valid)) := by
 refine con_of0 (N := 11) (rs := [.tmp 2]) Tryz.func104 rfl rfl rfl rfl ?_
 refine sr fun K1 hK1=>?_
 refine bX ?_
 refine aC ?_
 refine hK1 _ ?_
 refine sr fun K2 hK2=>?_
 refine fP T83 ?_
 refine lP T68 ?_
 refine ar0 (s_call (c_r02_Valid p.x hx) (.cons (.tmp rfl) .nil) rfl rfl) ?_
 refine mT ?_
 refine ar0 (s_guard rfl rfl rfl (fun h => s_fldPtr (.tmp rfl) T83 rfl rfl rfl rfl)) ?_
 refine ar0 (s_guard rfl rfl rfl (fun h => s_loadPtr (.opt rfl (o1 h)) rfl T68 rfl rfl rfl)) ?_
 refine ar0 (s_guard rfl rfl rfl (fun h => s_call (c_r02_Valid p.y hy) (.cons (.opt rfl (o1 h)) .nil) rfl rfl)) ?_
 refine ar0 (s_pick (.tmp rfl) (fun hp => .opt rfl (o1 hp)) (fun _ => .const _) rfl) ?_
 refine aT ?_
 refine hK2 _ ?_
 refine awp_ret ⟨_, (.cons (.tmp rfl) .nil), ?_⟩
 exact fin_eq1 (by exact congrArg bl (and_cond _ _))
theorem c_r17_Valid (p : Pse) (ht : p.turn.t.ok) (hx : p.at_.x.ok) (hy : p.at_.y.ok) : FnC Tryz.prog 48 [p.av] (bl p.ok) := by
 refine con_of0 (N := 11) (rs := [.tmp 2]) Tryz.func48 rfl rfl rfl rfl ?_
 refine sr fun K1 hK1=>?_
 refine bX ?_
 refine aC ?_
 refine hK1 _ ?_
 refine sr fun K2 hK2=>?_
 refine fP T85 ?_
 refine lP T81 ?_
 refine ar0 (s_call (c_r17_Turn p.turn ht) (.cons (.tmp rfl) .nil) rfl rfl) ?_
 refine mT ?_
 refine ar0 (s_guard rfl rfl rfl (fun h => s_fldPtr (.tmp rfl) T85 rfl rfl rfl rfl)) ?_
 refine ar0 (s_guard rfl rfl rfl (fun h => s_loadPtr (.opt rfl (o1 h)) rfl T83 rfl rfl rfl)) ?_
 refine ar0 (s_guard rfl rfl rfl (fun h => s_call (c_r17_Place p.at_ hx hy) (.cons (.opt rfl (o1 h)) .nil) rfl rfl)) ?_
 refine ar0 (s_pick (.tmp rfl) (fun hp => .opt rfl (o1 hp)) (fun _ => .const _) rfl) ?_
 refine aT ?_
 refine hK2 _ ?_
 refine awp_ret ⟨_, (.cons (.tmp rfl) .nil), ?_⟩
 exact fin_eq1 (by exact congrArg bl ((and_cond _ _).trans (Bool.and_assoc _ _ _).symm))
end Go.Lw
namespace Go.Lw
open Go.Proofs
theorem tw_Add {ts : List (List Rat)} {r e f : Nat} (tw : Tw ts r) {a b : List Rat} (ha : Nm ts.length e a) (hb : Nm ts.length f b) (he : e + f ≤ 1000000000) :
  FnC Tryz.prog 250 [towA ts, nA a, nA b] (.tup [nA (sh ts.length (T.add ts.length (dec ts.length a) (dec ts.length b))), .v .nilIface]) := by
 have h := c_tower_Add (ts.map (List.map rt)) r tw.tr (a.map rt) (b.map rt) e f (ha.rt (by omega)) (hb.rt (by omega)) he
 have h0 : chksE (ts.map (List.map rt)) [a.map rt, b.map rt] = 0 := two_chk tw ha hb
 rw [h0, if_pos rfl, towR_rt, nR_rt, nR_rt, lq_rt, lq_rt, List.length_map] at h
 exact h
theorem tw_Sub {ts : List (List Rat)} {r e f : Nat} (tw : Tw ts r) {a b : List Rat} (ha : Nm ts.length e a) (hb : Nm ts.length f b) (he : e + f ≤ 1000000000) :
  FnC Tryz.prog 255 [towA ts, nA a, nA b] (.tup [nA (sh ts.length (T.add ts.length (dec ts.length a) (T.neg ts.length (dec ts.length b)))), .v .nilIface]) := by
 have h := c_tower_Sub (ts.map (List.map rt)) r tw.tr (a.map rt) (b.map rt) e f (ha.rt (by omega)) (hb.rt (by omega)) he
 have h0 : chksE (ts.map (List.map rt)) [a.map rt, b.map rt] = 0 := two_chk tw ha hb
 rw [h0, if_pos rfl, towR_rt, nR_rt, nR_rt, lq_rt, lq_rt, List.length_map] at h
 exact h
theorem tw_Mul {ts : List (List Rat)} {r e f : Nat} (tw : Tw ts r) {a b : List Rat} (ha : Nm ts.length e a) (hb : Nm ts.length f b) (he : e + f ≤ 1000000000) :
  FnC Tryz.prog 251 [towA ts, nA a, nA b] (.tup [nA (sh ts.length (T.mul (rtsOf ts) ts.length (dec ts.length a) (dec ts.length b))), .v .nilIface]) := by
 have h := c_tower_Mul (ts.map (List.map rt)) r tw.tr (a.map rt) (b.map rt) e f (ha.rt (by omega)) (hb.rt (by omega)) he
 have h0 : chksE (ts.map (List.map rt)) [a.map rt, b.map rt] = 0 := two_chk tw ha hb
 rw [h0, if_pos rfl, towR_rt, nR_rt, nR_rt, llq_rt, lq_rt, lq_rt, List.length_map] at h
 exact h
theorem tw_Cmp {ts : List (List Rat)} {r e f : Nat} (tw : Tw ts r) {a b : List Rat} (ha : Nm ts.length e a) (hb : Nm ts.length f b) (he : e + f ≤ 900000000) :
  FnC Tryz.prog 47 [towA ts, nA a, nA b] (.tup [i64 (T.sgn (rtsOf ts) ts.length (T.add ts.length (dec ts.length a) (T.neg ts.length (dec ts.length b)))), .v .nilIface]) := by
 have h := c_tower_Cmp (ts.map (List.map rt)) r tw.tr (a.map rt) (b.map rt) e f (ha.rt (by omega)) (hb.rt (by omega)) he
 have h0 : chksE (ts.map (List.map rt)) [a.map rt, b.map rt] = 0 := two_chk tw ha hb
 rw [h0, if_pos rfl, towR_rt, nR_rt, nR_rt, llq_rt, lq_rt, lq_rt, List.length_map] at h
 exact h
theorem tw_Sign {ts : List (List Rat)} {r e : Nat} (tw : Tw ts r) {a : List Rat} (ha : Nm ts.length e a) (he : e ≤ 1000000000) :
  FnC Tryz.prog 196 [towA ts, nA a] (.tup [i64 (T.sgn (rtsOf ts) ts.length (dec ts.length a)), .v .nilIface]) := by
 have h := c_tower_Sign (ts.map (List.map rt)) r tw.tr (a.map rt) e (ha.rt he) he
 have h0 : chksE (ts.map (List.map rt)) [a.map rt] = 0 := one_chk tw ha
 rw [h0, if_pos rfl, towR_rt, nR_rt, llq_rt, lq_rt, List.length_map] at h
 exact h
theorem r4_Cmp {ts : List (List Rat)} {r e f : Nat} (tw : Tw ts r) {a b : List Rat} (ha : Nm ts.length e a) (hb : Nm ts.length f b) (he : e + f ≤ 900000000) :
  FnC Tryz.prog 89 [towA ts, nA a, nA b] (.tup [i64 (T.sgn (rtsOf ts) ts.length (T.add ts.length (dec ts.length a) (T.neg ts.length (dec ts.length b)))), i64 0]) := by
 have h := c_r04_Cmp (ts.map (List.map rt)) r tw.tr (a.map rt) (b.map rt) e f (ha.rt (by omega)) (hb.rt (by omega)) he
 have h0 : chksE (ts.map (List.map rt)) [a.map rt, b.map rt] = 0 := two_chk tw ha hb
 rw [h0, if_pos rfl, towR_rt, nR_rt, nR_rt, llq_rt, lq_rt, lq_rt, List.length_map] at h
 exact h
theorem tw_Neg {ts : List (List Rat)} {r e : Nat} (tw : Tw ts r) {a : List Rat} (ha : Nm ts.length e a) (he : e ≤ 1000000000) :
  FnC Tryz.prog 46 [towA ts, nA a] (.tup [nA (sh ts.length (T.neg ts.length (dec ts.length a))), .v .nilIface]) := by
 have h := c_tower_Neg (ts.map (List.map rt)) r tw.tr (a.map rt) e (ha.rt he) he
 have h0 : chksE (ts.map (List.map rt)) [a.map rt] = 0 := one_chk tw ha
 rw [h0, if_pos rfl, towR_rt, nR_rt, lq_rt, List.length_map] at h
 exact h
theorem tw_Check {ts : List (List Rat)} {r : Nat} (tw : Tw ts r) : FnC Tryz.prog 45 [towA ts] (.v .nilIface) := by
 have h := c_tower_Check (ts.map (List.map rt)) r tw.tr
 rw [tw.chk, towR_rt] at h
 exact h
theorem tw_Of {q : Rat} (h : Qs q) : FnC Tryz.prog 96 [qA q] (nA (sh 0 (q : Rat))) := by
 have h1 := c_tower_Of (rt q) h.ok (by rw [rt_q]; exact h)
 rw [rt_q] at h1
 exact h1
theorem r4_Of {q : Rat} (h : Qs q) : FnC Tryz.prog 25 [qA q] (nA (sh 0 (q : Rat))) := by
 have h1 := c_r04_Of (rt q) h.ok (by rw [rt_q]; exact h)
 rw [rt_q] at h1
 exact h1
theorem c_point_check {ts : List (List Rat)} {r e : Nat} (tw : Tw ts r) (ls : List (List Rat)) (hl : ∀ l ∈ ls, Nm ts.length e l) (he : e ≤ 1000000000) (hn : ls.length ≤ 1000) : FnC Tryz.prog 229 [towA ts, .lst 1 (ls.map nA)] (.v .nilIface) := by
  refine con_of0 (N := 31) (rs := [.tmp 4]) Tryz.func229 rfl rfl rfl rfl ?_
  refine sr fun K1 hK1=>?_
  refine bX ?_
  refine aC ?_
  refine hK1 _ ?_
  refine awp_seq ?_; intro K2 hK2
  refine sr fun K3 hK3=>?_
  refine lP T30 ?_
  refine ar0 (s_call (tw_Check tw) (.cons (.tmp rfl) .nil) rfl rfl) ?_
  refine aT ?_
  refine hK3 _ ?_
  refine sr fun K4 hK4=>?_
  refine mT ?_
  refine ar0 (s_errNe (.tmp rfl) (by first | exact .inl rfl | exact .inr ⟨_, _, rfl⟩ | exact errV_or _) T41 rfl rfl) ?_
  refine hK4 _ ?_
  refine awp_cond (.tmp rfl) (fun ht13 => ?_) (fun ht13 => ?_)
  · cases ht13
  · skip
    refine awp_skip (hK2 _ ?_)
    refine awp_seq ?_; intro K5 hK5
    refine sr fun K6 hK6=>?_
    refine mT ?_
    refine ar0 (s_lenMap (.tmp rfl) T28 rfl rfl) ?_
    refine ar0 (s_move (.const _) rfl) ?_
    refine hK6 _ ?_
    refine awp_block ?_
    refine awp_loop (fun n_ s_ => ∃ (i : Nat), ls.length - i = n_ ∧ (i ≤ ls.length) ∧ s_ = (⟨[(2, some (.ptr 2 0)), (15, some (.lst 1 (ls.map nA))), (16, some (i64 ls.length)), (17, some (i64 i))], [(2, some (.box [.lst 1 (ts.map nA)]))]⟩ : AS))
      (n := ((fun (i : Nat) => ls.length - i) (0))) (s' := ((fun (i : Nat) => (⟨[(2, some (.ptr 2 0)), (15, some (.lst 1 (ls.map nA))), (16, some (i64 ls.length)), (17, some (i64 i))], [(2, some (.box [.lst 1 (ts.map nA)]))]⟩ : AS)) (0)))
      (Wk.of (.k (.k (.k (.k .nil)))) (.cons rfl (.refl _) .nil)) ⟨0, rfl, (Nat.zero_le _), rfl⟩ ?_
    intro n_ s_ hI K7 hK7
    obtain ⟨i, rfl, hi, rfl⟩ := hI
    refine sr fun K8 hK8=>?_
    refine ar0 (s_cmp (.tmp rfl) (.tmp rfl) rfl rfl) ?_
    refine hK8 _ ?_
    refine awp_seq ?_; intro K9 hK9
    refine awp_cond (.tmp rfl) (fun ht18 => ?_) (fun ht18 => ?_)
    · have hin : i < ls.length := by simpa [icmp] using ht18
      obtain ⟨l, hll⟩ := getx hin
      have hok := hl l (List.mem_of_getElem? hll)
      refine awp_skip (hK9 _ ?_)
      refine awp_seq ?_; intro K10 hK10
      refine awp_block ?_
      refine sr fun K11 hK11=>?_
      refine ar0 (s_idxLst (.tmp rfl) (.tmp rfl) T28 rfl T60 rfl (by omega) (getmap hll) rfl) ?_
      refine ar0 (s_loadIptr (.tmp rfl) T60 rfl rfl rfl) ?_
      refine aT ?_
      refine hK11 _ ?_
      refine sr fun K12 hK12=>?_
      refine lP T30 ?_
      refine mT ?_
      refine ar0 (s_call (tw_Neg tw hok he) (.cons (.tmp rfl) (.cons (.tmp rfl) .nil)) rfl rfl) ?_
      refine mT ?_
      refine ar0 (s_extract (.tmp rfl) rfl rfl) ?_
      refine ar0 (s_extract (.tmp rfl) rfl rfl) ?_
      refine aT ?_
      refine aT ?_
      refine hK12 _ ?_
      refine sr fun K13 hK13=>?_
      refine mT ?_
      refine ar0 (s_errNe (.tmp rfl) (by first | exact .inl rfl | exact .inr ⟨_, _, rfl⟩ | exact errV_or _) T41 rfl rfl) ?_
      refine hK13 _ ?_
      refine awp_cond (.tmp rfl) (fun ht28 => ?_) (fun ht28 => ?_)
      · cases ht28
      · skip
        refine awp_skip (hK10 _ ?_)
        refine awp_region ?_
        refine ar0 (s_arithW (.tmp rfl) (.const _) rfl (i64_add1 (by unfold maxL; omega)) rfl) ?_
        refine mT ?_
        refine hK7 _ ((fun (i : Nat) => (⟨[(2, some (.ptr 2 0)), (15, some (.lst 1 (ls.map nA))), (16, some (i64 ls.length)), (17, some (i64 i))], [(2, some (.box [.lst 1 (ts.map nA)]))]⟩ : AS)) (i + 1)) ((fun (i : Nat) => ls.length - i) (i + 1)) (Wk.of (.k (.k (.k (.k .nil)))) (.cons rfl (.refl _) .nil)) ⟨i + 1, rfl, hin, rfl⟩ (by first | omega | (dsimp only; omega))
    · have hin : i = ls.length := by have : ls.length ≤ i := by simpa [icmp] using ht18
                                     omega
      refine awp_exit ?_
      refine hK5 _ ?_
      refine sr fun K14 hK14=>?_
      refine aC ?_
      refine hK14 _ ?_
      refine awp_ret ⟨_, (.cons (.tmp rfl) .nil), ?_⟩
      exact fin_eq1 (by first | rfl | (simp; done))
theorem c_point_checkAll {ts : List (List Rat)} {r e : Nat} (tw : Tw ts r) (ps : List (List Rat × List Rat)) (hl : ∀ p ∈ ps, Nm ts.length e p.1 ∧ Nm ts.length e p.2) (he : e ≤ 1000000000) (hn : ps.length ≤ 500) : FnC Tryz.prog 193 [towA ts, .lst 2 (ps.map fun p => ptA p.1 p.2)] (.v .nilIface) := by
  refine con_of0 (N := 25) (rs := [.tmp 4]) Tryz.func193 rfl rfl rfl rfl ?_
  refine sr fun K1 hK1=>?_
  refine bX ?_
  refine aC ?_
  refine hK1 _ ?_
  refine sr fun K2 hK2=>?_
  refine aC ?_
  refine hK2 _ ?_
  refine awp_seq ?_; intro K3 hK3
  refine sr fun K4 hK4=>?_
  refine mT ?_
  refine ar0 (s_lenMap (.tmp rfl) T256 rfl rfl) ?_
  refine ar0 (s_move (.const _) rfl) ?_
  refine hK4 _ ?_
  refine awp_block ?_
  refine awp_weaken (Wk.virt 900 1 rfl) ?_
  refine awp_loop (fun n_ s_ => ∃ (i : Nat), ps.length - i = n_ ∧ (i ≤ ps.length) ∧ s_ = (⟨[(2, some (.ptr 2 0)), (5, some (.ms 900 1 0 (2 * i))), (8, some (.lst 2 (ps.map fun p => ptA p.1 p.2))), (9, some (i64 ps.length)), (10, some (i64 i))], [(2, some (.box [.lst 1 (ts.map nA)])), (900, some (.row 1 ((flat2 (ps.take i)).map nA)))]⟩ : AS))
    (n := ((fun (i : Nat) => ps.length - i) (0))) (s' := ((fun (i : Nat) => (⟨[(2, some (.ptr 2 0)), (5, some (.ms 900 1 0 (2 * i))), (8, some (.lst 2 (ps.map fun p => ptA p.1 p.2))), (9, some (i64 ps.length)), (10, some (i64 i))], [(2, some (.box [.lst 1 (ts.map nA)])), (900, some (.row 1 ((flat2 (ps.take i)).map nA)))]⟩ : AS)) (0)))
    (Wk.of (.k (.k (.k (.k (.k .nil))))) (.cons rfl (.refl _) (.cons rfl (.refl _) .nil))) ⟨0, rfl, (Nat.zero_le _), rfl⟩ ?_
  intro n_ s_ hI K5 hK5
  obtain ⟨i, rfl, hi, rfl⟩ := hI
  refine sr fun K6 hK6=>?_
  refine ar0 (s_cmp (.tmp rfl) (.tmp rfl) rfl rfl) ?_
  refine hK6 _ ?_
  refine awp_seq ?_; intro K7 hK7
  refine awp_cond (.tmp rfl) (fun ht11 => ?_) (fun ht11 => ?_)
  · have hin : i < ps.length := by simpa [icmp] using ht11
    obtain ⟨p, hp⟩ := getx hin
    have hfl : (flat2 (ps.take i)).length = 2 * i := by rw [len_flat2, List.length_take]; omega
    refine awp_skip (hK7 _ ?_)
    refine awp_seq ?_; intro K8 hK8
    refine awp_block ?_
    refine sr fun K9 hK9=>?_
    refine ar0 (s_idxLst (.tmp rfl) (.tmp rfl) T256 rfl T151 rfl (by omega) (getmap hp) rfl) ?_
    refine ar0 (s_loadIptr (.tmp rfl) T151 rfl rfl rfl) ?_
    refine al T151 ?_
    refine sP T151 ?_
    refine hK9 _ ?_
    refine awp_region ?_
    refine mT ?_
    refine fP T151 ?_
    refine lP T60 ?_
    refine fP T151 ?_
    refine lP T60 ?_
    refine ar0 (s_buildLst rfl (.cons (.tmp rfl) (.cons (.tmp rfl) .nil)) T28 rfl T60 rfl rfl rfl rfl rfl rfl rfl rfl) ?_
    refine ar (s_append (.tmp rfl) rfl (by rw [List.length_map, hfl]) (.tmp rfl) T28 rfl T60 rfl rfl (by simp; omega) rfl rfl) (newOk_of rfl) ?_
    refine aT ?_
    refine hK8 _ ?_
    refine awp_weaken (Wk.of (sl := [(2, some (.ptr 2 0)), (5, some (.ms 20 1 0 (2 * i + 2))), (8, some (.lst 2 (ps.map fun p => ptA p.1 p.2))), (9, some (i64 ps.length)), (10, some (i64 i))]) (hp := [(2, some (.box [.lst 1 (ts.map nA)])), (20, some (.row 1 ((flat2 (ps.take (i + 1))).map nA)))]) (.k (.k (.k (.k (.k .nil))))) (.cons rfl (.refl _) (.cons rfl (BlkSub.of (by rw [take_succ_get hp, flat2_app, List.map_append]; rfl)) .nil))) ?_
    refine awp_weaken (Wk.rekey (k := 20) (d := 900) rfl rfl) ?_
    refine awp_region ?_
    refine ar0 (s_arithW (.tmp rfl) (.const _) rfl (i64_add1 (by unfold maxL; omega)) rfl) ?_
    refine mT ?_
    refine hK5 _ ((fun (i : Nat) => (⟨[(2, some (.ptr 2 0)), (5, some (.ms 900 1 0 (2 * i))), (8, some (.lst 2 (ps.map fun p => ptA p.1 p.2))), (9, some (i64 ps.length)), (10, some (i64 i))], [(2, some (.box [.lst 1 (ts.map nA)])), (900, some (.row 1 ((flat2 (ps.take i)).map nA)))]⟩ : AS)) (i + 1)) ((fun (i : Nat) => ps.length - i) (i + 1)) (Wk.of (.k (.k (.k (.k (.k .nil))))) (.cons rfl (.refl _) (.cons rfl (.refl _) .nil))) ⟨i + 1, rfl, hin, rfl⟩ (by first | omega | (dsimp only; omega))
  · have hin : i = ps.length := by have : ps.length ≤ i := by simpa [icmp] using ht11
                                   omega
    subst hin
    refine awp_exit ?_
    refine hK3 _ ?_
    refine awp_weaken ((Wk.freeze (k := 900) rfl).trans <| Wk.of (sl := [(2, some (.ptr 2 0)), (5, some (.lst 1 ((flat2 ps).map nA)))]) (hp := [(2, some (.box [.lst 1 (ts.map nA)]))]) (.k (.cons rfl (Sub.of (by rw [fz_all (by rw [List.length_map, len_flat2, List.length_take]; omega), List.take_length])) .nil)) (.cons rfl (.refl _) .nil)) ?_
    refine sr fun K10 hK10=>?_
    refine lP T30 ?_
    refine mT ?_
    refine ar0 (s_call (c_point_check tw (flat2 ps) (flat2_all hl) he (by rw [len_flat2]; omega)) (.cons (.tmp rfl) (.cons (.tmp rfl) .nil)) rfl rfl) ?_
    refine aT ?_
    refine hK10 _ ?_
    refine awp_ret ⟨_, (.cons (.tmp rfl) .nil), ?_⟩
    exact fin_eq1 (by first | rfl | (simp; done))
theorem c_sum_keep (R : List AV) (a : List Rat) : Con Tryz.prog 249 [.ptr 1000 0, nA a, .v .nilIface] [(1000, some (.box [.lst 1 R, .v .nilIface]))] (nA a) [(1000, some (.box [.lst 1 R, .v .nilIface]))] := by
 refine con_of (N := 17) (rs := [.tmp 6]) Tryz.func249 rfl rfl rfl rfl (fun k z h => lk1000 h) ?_
 refine sr fun K1 hK1=>?_
 refine aC ?_
 refine hK1 _ ?_
 refine awp_seq ?_; intro K2 hK2
 refine sr fun K3 hK3=>?_
 refine mT ?_
 refine ar0 (s_nilChk (.tmp rfl) rfl) ?_
 refine fP T234 ?_
 refine lP T41 ?_
 refine ar0 (s_errEq (.tmp rfl) (by first | exact .inl rfl | exact .inr ⟨_, _, rfl⟩ | exact errV_or _) T41 rfl rfl) ?_
 refine hK3 _ ?_
 refine awp_cond (.tmp rfl) (fun ht11 => ?_) (fun ht11 => ?_)
 ·skip
  refine awp_region ?_
  refine mT ?_
  refine mT ?_
  refine ar0 (s_nilChk (.tmp rfl) rfl) ?_
  refine fP T234 ?_
  refine sP T41 ?_
  refine hK2 _ ?_
  refine sr fun K4 hK4=>?_
  refine mT ?_
  refine aT ?_
  refine hK4 _ ?_
  refine awp_ret ⟨_, (.cons (.tmp rfl) .nil), ?_⟩
  exact Fin.keep (keep1 rfl)
 ·cases ht11
theorem c_sum_add {ts : List (List Rat)} {r e f : Nat} (tw : Tw ts r) {a b : List Rat} (ha : Nm ts.length e a) (hb : Nm ts.length f b) (he : e + f ≤ 1000000000) :
  Con Tryz.prog 226 [.ptr 1000 0, nA a, nA b] [(1000, some (sumB ts))] (nA (sh ts.length (T.add ts.length (dec ts.length a) (dec ts.length b)))) [(1000, some (sumB ts))] := by
 refine con_of (N := 18) (rs := [.tmp 6]) Tryz.func226 rfl rfl rfl rfl (fun k z h => lk1000 h) ?_
 refine sr fun K1 hK1=>?_
 refine aC ?_
 refine hK1 _ ?_
 refine sr fun K2 hK2=>?_
 refine mT ?_
 refine mT ?_
 refine ar0 (s_nilChk (.tmp rfl) rfl) ?_
 refine fP T234 ?_
 refine lP T30 ?_
 refine mT ?_
 refine mT ?_
 refine ar0 (s_call (tw_Add tw ha hb he) (.cons (.tmp rfl) (.cons (.tmp rfl) (.cons (.tmp rfl) .nil))) rfl rfl) ?_
 refine ar0 (s_extract (.tmp rfl) rfl rfl) ?_
 refine ar0 (s_extract (.tmp rfl) rfl rfl) ?_
 refine ar (s_callH (c_sum_keep _ _) (.cons (.tmp rfl) (.cons (.tmp rfl) (.cons (.tmp rfl) .nil))) (by first | exact hH0 | exact hH1 rfl | exact hH2 rfl rfl) rfl rfl) (newOk_of rfl) ?_
 refine aT ?_
 refine hK2 _ ?_
 refine awp_ret ⟨_, (.cons (.tmp rfl) .nil), ?_⟩
 exact Fin.keep (keep1 rfl)
theorem c_sum_sub {ts : List (List Rat)} {r e f : Nat} (tw : Tw ts r) {a b : List Rat} (ha : Nm ts.length e a) (hb : Nm ts.length f b) (he : e + f ≤ 1000000000) :
  Con Tryz.prog 253 [.ptr 1000 0, nA a, nA b] [(1000, some (sumB ts))] (nA (sh ts.length (T.add ts.length (dec ts.length a) (T.neg ts.length (dec ts.length b))))) [(1000, some (sumB ts))] := by
 refine con_of (N := 18) (rs := [.tmp 6]) Tryz.func253 rfl rfl rfl rfl (fun k z h => lk1000 h) ?_
 refine sr fun K1 hK1=>?_
 refine aC ?_
 refine hK1 _ ?_
 refine sr fun K2 hK2=>?_
 refine mT ?_
 refine mT ?_
 refine ar0 (s_nilChk (.tmp rfl) rfl) ?_
 refine fP T234 ?_
 refine lP T30 ?_
 refine mT ?_
 refine mT ?_
 refine ar0 (s_call (tw_Sub tw ha hb he) (.cons (.tmp rfl) (.cons (.tmp rfl) (.cons (.tmp rfl) .nil))) rfl rfl) ?_
 refine ar0 (s_extract (.tmp rfl) rfl rfl) ?_
 refine ar0 (s_extract (.tmp rfl) rfl rfl) ?_
 refine ar (s_callH (c_sum_keep _ _) (.cons (.tmp rfl) (.cons (.tmp rfl) (.cons (.tmp rfl) .nil))) (by first | exact hH0 | exact hH1 rfl | exact hH2 rfl rfl) rfl rfl) (newOk_of rfl) ?_
 refine aT ?_
 refine hK2 _ ?_
 refine awp_ret ⟨_, (.cons (.tmp rfl) .nil), ?_⟩
 exact Fin.keep (keep1 rfl)
theorem c_sum_mul {ts : List (List Rat)} {r e f : Nat} (tw : Tw ts r) {a b : List Rat} (ha : Nm ts.length e a) (hb : Nm ts.length f b) (he : e + f ≤ 1000000000) :
  Con Tryz.prog 227 [.ptr 1000 0, nA a, nA b] [(1000, some (sumB ts))] (nA (sh ts.length (T.mul (rtsOf ts) ts.length (dec ts.length a) (dec ts.length b)))) [(1000, some (sumB ts))] := by
 refine con_of (N := 18) (rs := [.tmp 6]) Tryz.func227 rfl rfl rfl rfl (fun k z h => lk1000 h) ?_
 refine sr fun K1 hK1=>?_
 refine aC ?_
 refine hK1 _ ?_
 refine sr fun K2 hK2=>?_
 refine mT ?_
 refine mT ?_
 refine ar0 (s_nilChk (.tmp rfl) rfl) ?_
 refine fP T234 ?_
 refine lP T30 ?_
 refine mT ?_
 refine mT ?_
 refine ar0 (s_call (tw_Mul tw ha hb he) (.cons (.tmp rfl) (.cons (.tmp rfl) (.cons (.tmp rfl) .nil))) rfl rfl) ?_
 refine ar0 (s_extract (.tmp rfl) rfl rfl) ?_
 refine ar0 (s_extract (.tmp rfl) rfl rfl) ?_
 refine ar (s_callH (c_sum_keep _ _) (.cons (.tmp rfl) (.cons (.tmp rfl) (.cons (.tmp rfl) .nil))) (by first | exact hH0 | exact hH1 rfl | exact hH2 rfl rfl) rfl rfl) (newOk_of rfl) ?_
 refine aT ?_
 refine hK2 _ ?_
 refine awp_ret ⟨_, (.cons (.tmp rfl) .nil), ?_⟩
 exact Fin.keep (keep1 rfl)
theorem c_sum_dot {ts : List (List Rat)} {r e f : Nat} (tw : Tw ts r) {a b c d : List Rat} (ha : Nm ts.length e a) (hb : Nm ts.length e b) (hc : Nm ts.length f c) (hd : Nm ts.length f d) (he : 2 * (e + f + kB r) ≤ 1000000000) :
  Con Tryz.prog 190 [.ptr 1000 0, ptA a b, ptA c d] [(1000, some (sumB ts))] (nA (sh ts.length (dotT ts (dec ts.length a) (dec ts.length b) (dec ts.length c) (dec ts.length d)))) [(1000, some (sumB ts))] := by
 refine con_of (N := 21) (rs := [.tmp 6]) Tryz.func190 rfl rfl rfl rfl (fun k z h => lk1000 h) ?_
 refine sr fun K1 hK1=>?_
 refine bX ?_
 refine bX ?_
 refine aC ?_
 refine hK1 _ ?_
 refine awp_seq ?_; intro K2 hK2
 refine awp_region_draw mixedP ?_
 refine mT ?_
 refine mT ?_
 refine fP T151 ?_
 refine lP T60 ?_
 refine fP T151 ?_
 refine lP T60 ?_
 refine ar (s_callH (c_sum_mul tw ha hc (by omega)) (.cons (.tmp rfl) (.cons (.tmp rfl) (.cons (.tmp rfl) .nil))) (by first | exact hH0 | exact hH1 rfl | exact hH2 rfl rfl) rfl rfl) (newOk_of rfl) ?_
 refine mT ?_
 refine fP T151 ?_
 refine lP T60 ?_
 refine fP T151 ?_
 refine lP T60 ?_
 refine ar (s_callH (c_sum_mul tw hb hd (by omega)) (.cons (.tmp rfl) (.cons (.tmp rfl) (.cons (.tmp rfl) .nil))) (by first | exact hH0 | exact hH1 rfl | exact hH2 rfl rfl) rfl rfl) (newOk_of rfl) ?_
 refine ar (s_callH (dot_ap ▸ c_sum_add tw (ha.mul tw rfl hc) (hb.mul tw rfl hd) (by omega)) (.cons (.tmp rfl) (.cons (.tmp rfl) (.cons (.tmp rfl) .nil))) (by first | exact hH0 | exact hH1 rfl | exact hH2 rfl rfl) rfl rfl) (newOk_of rfl) ?_
 refine aT ?_
 refine ⟨by kernel_rfl, ?_⟩
 refine hK2 _ ?_
 refine awp_ret ⟨_, (.cons (.tmp rfl) .nil), ?_⟩
 exact Fin.keep (keep1 rfl)
theorem c_sum_cross {ts : List (List Rat)} {r e f : Nat} (tw : Tw ts r) {a b c d : List Rat} (ha : Nm ts.length e a) (hb : Nm ts.length e b) (hc : Nm ts.length f c) (hd : Nm ts.length f d) (he : 2 * (e + f + kB r) ≤ 1000000000) :
  Con Tryz.prog 233 [.ptr 1000 0, ptA a b, ptA c d] [(1000, some (sumB ts))] (nA (sh ts.length (crossT ts (dec ts.length a) (dec ts.length b) (dec ts.length c) (dec ts.length d)))) [(1000, some (sumB ts))] := by
 refine con_of (N := 21) (rs := [.tmp 6]) Tryz.func233 rfl rfl rfl rfl (fun k z h => lk1000 h) ?_
 refine sr fun K1 hK1=>?_
 refine bX ?_
 refine bX ?_
 refine aC ?_
 refine hK1 _ ?_
 refine awp_seq ?_; intro K2 hK2
 refine awp_region_draw mixedP ?_
 refine mT ?_
 refine mT ?_
 refine fP T151 ?_
 refine lP T60 ?_
 refine fP T151 ?_
 refine lP T60 ?_
 refine ar (s_callH (c_sum_mul tw ha hd (by omega)) (.cons (.tmp rfl) (.cons (.tmp rfl) (.cons (.tmp rfl) .nil))) (by first | exact hH0 | exact hH1 rfl | exact hH2 rfl rfl) rfl rfl) (newOk_of rfl) ?_
 refine mT ?_
 refine fP T151 ?_
 refine lP T60 ?_
 refine fP T151 ?_
 refine lP T60 ?_
 refine ar (s_callH (c_sum_mul tw hb hc (by omega)) (.cons (.tmp rfl) (.cons (.tmp rfl) (.cons (.tmp rfl) .nil))) (by first | exact hH0 | exact hH1 rfl | exact hH2 rfl rfl) rfl rfl) (newOk_of rfl) ?_
 refine ar (s_callH (cross_ap ▸ c_sum_sub tw (ha.mul tw rfl hd) (hb.mul tw rfl hc) (by omega)) (.cons (.tmp rfl) (.cons (.tmp rfl) (.cons (.tmp rfl) .nil))) (by first | exact hH0 | exact hH1 rfl | exact hH2 rfl rfl) rfl rfl) (newOk_of rfl) ?_
 refine aT ?_
 refine ⟨by kernel_rfl, ?_⟩
 refine hK2 _ ?_
 refine awp_ret ⟨_, (.cons (.tmp rfl) .nil), ?_⟩
 exact Fin.keep (keep1 rfl)
end Go.Lw
