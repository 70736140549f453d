/- CertifyMoved: for anything drawn, any body and shift the law returns true and leaves its arguments as they were. No condition. Part 5 of 6: what the later parts need -/
import Derived.Test.YtnjialefedaceaaGreatXd
set_option linter.unusedVariables false
namespace Go.Lw
open Go.Proofs
theorem c_r04_times (ts : List (List Rat)) (m r : Nat) (ht : TsOk ts m r) (hm : m ≤ 5) (R : List AV) (hR : ∀ j, j < m → R[j]? = some (nA (ts.getD j []))) (k : Nat) : ∀ (j : Nat) (a b : List Rat) (e f : Nat), j ≤ m → j ≤ k → Nl j a → Nl j b → Cb e a → Cb f b → e + f + eB r j < 4398046511104 →
  FnC Tryz.prog 238 [.agg [.lst 1 R], nA a, nA b] (nA (rT ts k a b)) := by
 induction k using Nat.strongRecOn
 rename_i k ih
 intro j a b e f hj hjk ha hb ca cb hs
 obtain ⟨nx, dx⟩ := short_nl ha (by omega)
 obtain ⟨ny, dy⟩ := short_nl hb (by omega)
 have cx : Cb e (shortL 5 a) := ca.sub (fun q hq => mem_shortL 5 hq)
 have cy : Cb f (shortL 5 b) := cb.sub (fun q hq => mem_shortL 5 hq)
 have k1 := c_r04_Short a (by omega) ha
 have k2 := c_r04_Short b (by omega) hb
 rw [← shortL_sh ha (by omega)] at k1
 rw [← shortL_sh hb (by omega)] at k2
 obtain ⟨x, hx⟩ : ∃ x, x = shortL 5 a := ⟨_, rfl⟩
 obtain ⟨y, hy⟩ : ∃ y, y = shortL 5 b := ⟨_, rfl⟩
 rw [← hx] at k1 nx dx cx
 rw [← hy] at k2 ny dy cy
 have hlx := nx.len5 (by omega)
 have hly := ny.len5 (by omega)
 obtain ⟨n, hn⟩ : ∃ n, n = max x.length y.length := ⟨_, rfl⟩
 refine gF0 Tryz.func238 ?_
 refine gc k1 ?_
 refine gc k2 ?_
 refine gl ?_
 refine gl ?_
 refine gs (s_max (.tmp rfl) (.tmp rfl) rfl) ?_ (3, 0)
 refine gW (Wk.of (sl := [(1, some (nA x)), (2, some (nA y)), (3, some (.ptr 3 0)), (7, some (i64 n))]) (hp := [(3, some (.box [.lst 1 R]))]) (.k (.k (.k (.cons rfl (Sub.int (by omega)) .nil)))) (.cons rfl (.refl _) .nil)) ?_
 refine gl ?_
 refine glG ?_
 refine gC (fun ht32 => ?_) (fun ht32 => ?_)
 ·have h0 : x.length = 0 ∨ y.length = 0 := by have := pick_or ht32; omega
  refine gR ?_
  exact fin_sub1 (by rw [rT_zero (by rw [← hx, ← hy]; exact h0)]; exact Sub.nil _ _ _)
 ·have h0 : ¬ (x.length = 0 ∨ y.length = 0) := by have := pick_nor ht32; omega
  refine gC (fun ht34 => ?_) (fun ht34 => ?_)
  ·have h1 : max x.length y.length = 1 := by have := ht34; simp only [icmp, beq_iff_eq] at this; omega
   have e1 := rT_one (ts := ts) (k := k) (a := a) (b := b) (by rw [← hx, ← hy]; exact h0) (by rw [← hx, ← hy]; exact h1)
   rw [← hx, ← hy] at e1
   clear hx hy
   have lx1 : x.length = 1 := by omega
   have ly1 : y.length = 1 := by omega
   clear hn
   obtain ⟨p, rfl⟩ : ∃ p, x = [p] := List.length_eq_one_iff.1 lx1
   obtain ⟨q, rfl⟩ : ∃ q, y = [q] := List.length_eq_one_iff.1 ly1
   refine gi rfl ?_
   refine gi rfl ?_
   refine gc (c_r02_Mul (rt p) (rt q) (cx.qs (by omega) (by simp : p ∈ [p])).ok (cy.qs (by omega) (by simp : q ∈ [q])).ok) ?_
   refine gD ?_
   refine gE1 ?_
   rw [e1, rt_q, rt_q]; rfl
  ·have h1 : n ≠ 1 := by have := ht34; simp only [icmp, beq_eq_false_iff_ne, ne_eq] at this; omega
   obtain ⟨i, hij, hmax⟩ := (max_nl nx ny h0).resolve_left (by omega)
   obtain ⟨k', rfl⟩ : ∃ k', k = k' + 1 := ⟨k - 1, by omega⟩
   have hp2 := Nat.two_pow_pos i
   have hpi : 2 ^ i ≤ 32 := pow_le2 (b := 5) (by omega)
   have hps : 2 ^ (i + 1) = 2 * 2 ^ i := by rw [Nat.pow_succ]; omega
   have hnn : n = 2 ^ (i + 1) := by omega
   have hes : eB r (i + 1) ≤ eB r j := eB_lev r hij
   have hee : eB r (i + 1) = 2 * eB r i + r + 2 := rfl
   have lx : (wideL x (2 ^ (i + 1))).length = 2 ^ (i + 1) := len_wide (by omega)
   have ly : (wideL y (2 ^ (i + 1))).length = 2 ^ (i + 1) := len_wide (by omega)
   obtain ⟨X, hX⟩ : ∃ X, X = wideL x (2 ^ (i + 1)) := ⟨_, rfl⟩
   obtain ⟨Y, hY⟩ : ∃ Y, Y = wideL y (2 ^ (i + 1)) := ⟨_, rfl⟩
   have cX : Cb e X := by rw [hX]; exact cx.wide
   have cY : Cb f Y := by rw [hY]; exact cy.wide
   rw [← hX] at lx
   rw [← hY] at ly
   have n1 : Nl i (X.take (2 ^ i)) := .inr ⟨i, Nat.le_refl _, nl_take lx⟩
   have n2 : Nl i (X.drop (2 ^ i)) := .inr ⟨i, Nat.le_refl _, nl_drop lx⟩
   have n3 : Nl i (Y.take (2 ^ i)) := .inr ⟨i, Nat.le_refl _, nl_take ly⟩
   have n4 : Nl i (Y.drop (2 ^ i)) := .inr ⟨i, Nat.le_refl _, nl_drop ly⟩
   have nd := ht.1 i (by omega)
   have cd := ht.2.cb i
   have s1 := rT_spec hm ht (k := k') (show i ≤ m by omega) (by omega) n1 n3 cX.take cY.take
   have s2 := rT_spec hm ht (k := k') (show i ≤ m by omega) (by omega) n2 n4 cX.drop cY.drop
   have s3 := rT_spec hm ht (k := k') (show i ≤ m by omega) (by omega) s2.1 nd s2.2.2 cd
   have s4 := rT_spec hm ht (k := k') (show i ≤ m by omega) (by omega) n1 n4 cX.take cY.drop
   have s5 := rT_spec hm ht (k := k') (show i ≤ m by omega) (by omega) n2 n3 cX.drop cY.take
   have hrt := rT_step (ts := ts) (k := k') (a := a) (b := b) rfl (by rw [← hx, ← hy]; exact h0) (by rw [← hx, ← hy]; exact hmax)
   rw [← hx, ← hy, ← hX, ← hY] at hrt
   have w1 := c_r04_wide x n (by omega) (by omega)
   have w2 := c_r04_wide y n (by omega) (by omega)
   rw [hnn, ← hX] at w1
   rw [hnn, ← hY] at w2
   rw [← hnn] at w1 w2
   have pw := c_r04_power n (by omega)
   rw [show pwk n = i + 1 by rw [hnn]; exact (pw_of (by omega)).1, show pwb n = true by rw [hnn]; exact (pw_of (by omega)).2] at pw
   refine gc w1 ?_
   refine gc w2 ?_
   refine gc pw ?_
   refine gs (s_quoW (.tmp rfl) (.const _) (by omega) (show _ = ((2 ^ i : Nat) : Int) by rw [i64_half (by omega), hnn, half_pow]) rfl) ?_
   refine gs (s_sliceLst (.tmp rfl) (.none _) (.some _ (.tmp rfl) (by omega)) T60 rfl T68 rfl (by omega) (by simp only [List.length_map]; omega) rfl) ?_
   refine gs (s_quoW (.tmp rfl) (.const _) (by omega) (show _ = ((2 ^ i : Nat) : Int) by rw [i64_half (by omega), hnn, half_pow]) rfl) ?_
   refine gs (s_sliceLst (.tmp rfl) (.some _ (.tmp rfl) (by omega)) (.none _) T60 rfl T68 rfl (by simp only [List.length_map]; omega) (by omega) rfl) ?_
   refine gs (s_quoW (.tmp rfl) (.const _) (by omega) (show _ = ((2 ^ i : Nat) : Int) by rw [i64_half (by omega), hnn, half_pow]) rfl) ?_
   refine gs (s_sliceLst (.tmp rfl) (.none _) (.some _ (.tmp rfl) (by omega)) T60 rfl T68 rfl (by omega) (by simp only [List.length_map]; omega) rfl) ?_
   refine gs (s_quoW (.tmp rfl) (.const _) (by omega) (show _ = ((2 ^ i : Nat) : Int) by rw [i64_half (by omega), hnn, half_pow]) rfl) ?_
   refine gs (s_sliceLst (.tmp rfl) (.some _ (.tmp rfl) (by omega)) (.none _) T60 rfl T68 rfl (by simp only [List.length_map]; omega) (by omega) rfl) ?_
   refine gD ?_ (10, 0)
   refine gW (Wk.of (sl := [(3, some (.ptr 3 0)), (7, some (i64 n)), (8, some (i64 ((i + 1 : Nat) : Int))), (10, some (nA (X.take (2 ^ i)))), (11, some (nA (X.drop (2 ^ i)))), (12, some (nA (Y.take (2 ^ i)))), (13, some (nA (Y.drop (2 ^ i))))]) (hp := [(3, some (.box [.lst 1 R]))]) (.k (.k (.k (.cons rfl (Sub.of (cut_low X (2 ^ i))) (.cons rfl (Sub.of (cut_high X (2 ^ i))) (.cons rfl (Sub.of (cut_low Y (2 ^ i))) (.cons rfl (Sub.of (cut_high Y (2 ^ i))) .nil))))))) (.cons rfl (.refl _) .nil)) ?_
   refine gc (ih k' (by omega) i _ _ e f (by omega) (by omega) n1 n3 cX.take cY.take (by omega)) ?_
   refine gc (ih k' (by omega) i _ _ e f (by omega) (by omega) n2 n4 cX.drop cY.drop (by omega)) ?_
   refine ga (show _ = (i : Int) by rw [i64_subI (by omega)]; omega) ?_
   refine gi (hR i (by omega)) ?_
   refine gc (ih k' (by omega) i _ _ _ _ (by omega) (by omega) s2.1 nd s2.2.2 cd (by omega)) ?_
   refine gc (c_r04_plus _ _ (fun q hq => s1.2.2.qs (by omega) hq) (fun q hq => s3.2.2.qs (by omega) hq) (by have := s1.1.le; omega) (by have := s3.1.le; omega)) ?_
   refine gD ?_
   refine gc (ih k' (by omega) i _ _ e f (by omega) (by omega) n1 n4 cX.take cY.drop (by omega)) ?_
   refine gc (ih k' (by omega) i _ _ e f (by omega) (by omega) n2 n3 cX.drop cY.take (by omega)) ?_
   refine gc (c_r04_plus _ _ (fun q hq => s4.2.2.qs (by omega) hq) (fun q hq => s5.2.2.qs (by omega) hq) (by have := s4.1.le; omega) (by have := s5.1.le; omega)) ?_
   refine gD ?_
   refine gs (s_quoW (.tmp rfl) (.const _) (by omega) (show _ = ((2 ^ i : Nat) : Int) by rw [i64_half (by omega), hnn, half_pow]) rfl) ?_
   refine gt (s_callH (c_r04_wideO 900 rfl _ (2 ^ i) (by have := s1.1.le; have := s3.1.le; rw [len_plus]; omega) (by omega)) (.cons (.tmp rfl) (.cons (.tmp rfl) .nil)) (by first | exact hH0 | exact hH1 rfl | exact hH2 rfl rfl) rfl rfl) ?_
   refine gs (s_quoW (.tmp rfl) (.const _) (by omega) (show _ = ((2 ^ i : Nat) : Int) by rw [i64_half (by omega), hnn, half_pow]) rfl) ?_
   refine gc (c_r04_wide _ (2 ^ i) (by have := s4.1.le; have := s5.1.le; rw [len_plus]; omega) (by omega)) ?_
   refine gs (s_appendF (.tmp rfl) rfl (by have := s1.1.le; have := s3.1.le; rw [List.length_map, len_wide (by rw [len_plus]; omega)]) (.tmp rfl) T60 rfl T68 rfl rfl (by have := s4.1.le; have := s5.1.le; rw [List.length_map, len_wide (by rw [len_plus]; omega)]; show (2 ^ i + 2 ^ i) * 56 ≤ 140737488355328; omega) rfl rfl) ?_
   refine gE1 ?_
   rw [hrt, ← List.map_append]; rfl
theorem c_r04_norm (ts : List (List Rat)) (m r : Nat) (ht : TsOk ts m r) (hm : m ≤ 5) (R : List AV) (hR : ∀ j, j < m → R[j]? = some (nA (ts.getD j []))) (i n : Nat) (a : List Rat) (e : Nat) (hi : i + 1 ≤ m) (hnn : n = 2 ^ (i + 1)) (hal : a.length = 2 ^ (i + 1)) (ca : Cb e a) (hs : 4 * e + 3 * eB r i + r + 1 < 4398046511104) :
  FnC Tryz.prog 199 [.agg [.lst 1 R], nA a, i64 n] (nA (rnormL ts i a)) := by
 have hp2 := Nat.two_pow_pos i
 have hpi : 2 ^ i ≤ 32 := pow_le2 (b := 5) (by omega)
 have hps : 2 ^ (i + 1) = 2 * 2 ^ i := by rw [Nat.pow_succ]; omega
 have n1 : Nl i (a.take (2 ^ i)) := .inr ⟨i, Nat.le_refl _, nl_take hal⟩
 have n2 : Nl i (a.drop (2 ^ i)) := .inr ⟨i, Nat.le_refl _, nl_drop hal⟩
 have nd := ht.1 i (by omega)
 have cd := ht.2.cb i
 have s1 := rT_spec hm ht (k := i) (show i ≤ m by omega) (by omega) n1 n1 ca.take ca.take
 have s2 := rT_spec hm ht (k := i) (show i ≤ m by omega) (by omega) n2 n2 ca.drop ca.drop
 have s3 := rT_spec hm ht (k := i) (show i ≤ m by omega) (by omega) s2.1 nd s2.2.2 cd
 have w1 := c_r04_wide a n (by omega) (by omega)
 rw [show wideL a n = a by unfold wideL; rw [hnn, hal]; simp] at w1
 have pw := c_r04_power n (by omega)
 rw [show pwk n = i + 1 by rw [hnn]; exact (pw_of (by omega)).1, show pwb n = true by rw [hnn]; exact (pw_of (by omega)).2] at pw
 refine gF0 Tryz.func199 ?_
 refine gc w1 ?_
 refine gc pw ?_
 refine gs (s_quoW (.tmp rfl) (.const _) (by omega) (show _ = ((2 ^ i : Nat) : Int) by rw [i64_half (by omega), hnn, half_pow]) rfl) ?_
 refine gs (s_sliceLst (.tmp rfl) (.none _) (.some _ (.tmp rfl) (by omega)) T60 rfl T68 rfl (by omega) (by simp only [List.length_map]; omega) rfl) ?_
 refine gs (s_quoW (.tmp rfl) (.const _) (by omega) (show _ = ((2 ^ i : Nat) : Int) by rw [i64_half (by omega), hnn, half_pow]) rfl) ?_
 refine gs (s_sliceLst (.tmp rfl) (.some _ (.tmp rfl) (by omega)) (.none _) T60 rfl T68 rfl (by simp only [List.length_map]; omega) (by omega) rfl) ?_
 refine gD ?_ (4, 0)
 refine gW (Wk.of (sl := [(3, some (.ptr 3 0)), (7, some (i64 ((i + 1 : Nat) : Int))), (9, some (nA (a.take (2 ^ i)))), (10, some (nA (a.drop (2 ^ i))))]) (hp := [(3, some (.box [.lst 1 R]))]) (.k (.k (.cons rfl (Sub.of (cut_low a (2 ^ i))) (.cons rfl (Sub.of (cut_high a (2 ^ i))) .nil)))) (.cons rfl (.refl _) .nil)) ?_
 refine gc (c_r04_times ts m r ht hm R hR i i _ _ e e (by omega) (by omega) n1 n1 ca.take ca.take (by omega)) ?_
 refine gc (c_r04_times ts m r ht hm R hR i i _ _ e e (by omega) (by omega) n2 n2 ca.drop ca.drop (by omega)) ?_
 refine ga (show _ = (i : Int) by rw [i64_subI (by omega)]; omega) ?_
 refine gi (hR i (by omega)) ?_
 refine gc (c_r04_times ts m r ht hm R hR i i _ _ _ _ (by omega) (by omega) s2.1 nd s2.2.2 cd (by omega)) ?_
 refine gc (c_r04_less _ (fun q hq => s3.2.2.qs (by omega) hq) (by have := s3.1.le; omega)) ?_
 refine gc (c_r04_plus _ _ (fun q hq => s1.2.2.qs (by omega) hq) (fun q hq => s3.2.2.minus.qs (by omega) hq) (by have := s1.1.le; omega) (by have := s3.1.le; rw [len_minus]; omega)) ?_
 refine gD ?_
 refine gE1 ?_
 rfl
theorem c_r04_sign (ts : List (List Rat)) (m r : Nat) (ht : TsOk ts m r) (hm : m ≤ 5) (hpos : ∀ j, j < m → 0 ≤ T.sgn (rtsOf ts) j (rtsOf ts j)) (R : List AV) (hR : ∀ j, j < m → R[j]? = some (nA (ts.getD j []))) (j : Nat) : ∀ (a : List Rat) (e : Nat), j ≤ m → Nl j a → Cb e a → sB r j e < 4398046511104 →
  FnC Tryz.prog 145 [.agg [.lst 1 R], nA a] (i64 (T.sgn (rtsOf ts) j (dec j a))) := by
 induction j using Nat.strongRecOn
 rename_i j ih
 intro a e hj ha ca hs
 have hse := sB_le r j e
 obtain ⟨s, hsa⟩ : ∃ s, s = sh j (dec j a) := ⟨_, rfl⟩
 have hsd : dec j s = dec j a := by rw [hsa, dec_sh]
 have hsn : Nl j s := by rw [hsa]; exact sh_nl j _
 have cs : Cb e s := by rw [hsa]; exact ca.sh ha
 have hls := hsn.len5 (by omega)
 rw [← hsd]
 refine gF0 Tryz.func145 ?_
 refine gc (hsa ▸ c_r04_Short a (by omega) ha) ?_
 refine gl ?_
 refine gC (fun ht15 => ?_) (fun ht15 => ?_)
 ·have h1 : s = [] := List.length_eq_zero_iff.1 (by have := ht15; simp only [icmp, beq_iff_eq] at this; omega)
  refine gE1 ?_
  rw [h1, dec_nil, T.sgn_zero]; rfl
 ·have h1 : s.length ≠ 0 := by have := ht15; simp only [icmp, beq_eq_false_iff_ne, ne_eq] at this; omega
  refine gl ?_
  refine gC (fun ht19 => ?_) (fun ht19 => ?_)
  ·have h2 : s.length = 1 := by have := ht19; simp only [icmp, beq_iff_eq] at this; omega
   obtain ⟨q, rfl⟩ := List.length_eq_one_iff.1 h2
   refine gi rfl ?_
   refine gc (c_r02_Sign (rt q) (cs.qs (by omega) (by simp : q ∈ [q])).ok) ?_
   refine gE1 ?_
   rw [dec_one, T.sgn_ofQ, rt_q]
  ·have h2 : s.length ≠ 1 := by have := ht19; simp only [icmp, beq_eq_false_iff_ne, ne_eq] at this; omega
   obtain ⟨i, hij, hsl⟩ : ∃ i, i + 1 ≤ j ∧ s.length = 2 ^ (i + 1) := by
    rcases nl_cases hsn with h | h | h
    ·exact absurd h h1
    ·exact absurd h h2
    ·exact h
   have hp2 := Nat.two_pow_pos i
   have hpi : 2 ^ i ≤ 32 := pow_le2 (b := 5) (by omega)
   have hps : 2 ^ (i + 1) = 2 * 2 ^ i := by rw [Nat.pow_succ]; omega
   have n1 : Nl i (s.take (2 ^ i)) := .inr ⟨i, Nat.le_refl _, nl_take hsl⟩
   have n2 : Nl i (s.drop (2 ^ i)) := .inr ⟨i, Nat.le_refl _, nl_drop hsl⟩
   have nd := ht.1 i (by omega)
   have cd := ht.2.cb i
   obtain ⟨nn, dn, cn⟩ := rnormL_spec hm ht (by omega) hsl cs
   have b1 : sB r i (4 * e + 3 * eB r i + r + 1) ≤ sB r j e := sB_lev r e hij
   have b2 : sB r i e ≤ sB r i (4 * e + 3 * eB r i + r + 1) := sB_mono r i (by omega)
   have b3 : sB r i r ≤ sB r i (4 * e + 3 * eB r i + r + 1) := sB_mono r i (by omega)
   have b4 := sB_le r i (4 * e + 3 * eB r i + r + 1)
   have k1 := ih i (by omega) (s.take (2 ^ i)) e (by omega) n1 cs.take (by omega)
   have k2 := ih i (by omega) (s.drop (2 ^ i)) e (by omega) n2 cs.drop (by omega)
   have k3 := ih i (by omega) _ r (by omega) nd cd (by omega)
   have k4 := ih i (by omega) _ _ (by omega) nn cn (by omega)
   have v3 : T.sgn (rtsOf ts) i (dec i (ts.getD i [])) = 0 ∨ T.sgn (rtsOf ts) i (dec i (ts.getD i [])) = 1 := by
    have h9 : 0 ≤ T.sgn (rtsOf ts) i (dec i (ts.getD i [])) := hpos i (by omega)
    have := T.sgn_cases (rtsOf ts) i (dec i (ts.getD i []))
    omega
   have hres : T.sgn (rtsOf ts) j (dec j s) = T.sgn3 (T.sgn (rtsOf ts) i (dec i (s.take (2 ^ i)))) (T.sgn (rtsOf ts) i (dec i (s.drop (2 ^ i)))) (T.sgn (rtsOf ts) i (dec i (ts.getD i []))) (T.sgn (rtsOf ts) i (dec i (rnormL ts i s))) := by
    rw [sgn_lev _ (by omega) hij, dn]; rfl
   rw [sgn3_ref v3] at hres
   have v1 := T.sgn_cases (rtsOf ts) i (dec i (s.take (2 ^ i)))
   have v2 := T.sgn_cases (rtsOf ts) i (dec i (s.drop (2 ^ i)))
   have v4 := T.sgn_cases (rtsOf ts) i (dec i (rnormL ts i s))
   have pw := c_r04_power s.length (by omega)
   rw [show pwk s.length = i + 1 by rw [hsl]; exact (pw_of (by omega)).1, show pwb s.length = true by rw [hsl]; exact (pw_of (by omega)).2] at pw
   refine gc pw ?_
   refine ga (show _ = (i : Int) by rw [i64_subI (by omega)]; omega) ?_
   refine gi (hR i (by omega)) ?_
   refine gs (s_quoW (.tmp rfl) (.const _) (by omega) (show _ = ((2 ^ i : Nat) : Int) by rw [i64_half (by omega), hsl, half_pow]) rfl) ?_
   refine gs (s_sliceLst (.tmp rfl) (.none _) (.some _ (.tmp rfl) (by omega)) T60 rfl T68 rfl (by omega) (by simp only [List.length_map]; omega) rfl) ?_
   refine gc (by have h9 := k1; rw [← cut_low] at h9; exact h9) ?_
   refine gs (s_quoW (.tmp rfl) (.const _) (by omega) (show _ = ((2 ^ i : Nat) : Int) by rw [i64_half (by omega), hsl, half_pow]) rfl) ?_
   refine gs (s_sliceLst (.tmp rfl) (.some _ (.tmp rfl) (by omega)) (.none _) T60 rfl T68 rfl (by simp only [List.length_map]; omega) (by omega) rfl) ?_
   refine gc (by have h9 := k2; rw [← cut_high] at h9; exact h9) ?_
   refine gc k3 ?_
   refine ga (mul_small v2 (.inr v3)) ?_
   refine gD ?_
   refine gC (fun ht57 => ?_) (fun ht57 => ?_)
   ·have e2 := pick_or ht57
    refine gE1 ?_
    rw [hres, if_pos e2]
   ·have e2 := pick_nor ht57
    refine gC (fun ht60 => ?_) (fun ht60 => ?_)
    ·have e3 : T.sgn (rtsOf ts) i (dec i (s.take (2 ^ i))) = 0 := by simpa [icmp] using ht60
     refine gE1 ?_
     rw [hres, if_neg e2, if_pos e3]; rfl
    ·have e3 : ¬ T.sgn (rtsOf ts) i (dec i (s.take (2 ^ i))) = 0 := by simpa [icmp] using ht60
     refine gc (c_r04_norm ts m r ht hm R hR i s.length s e (by omega) hsl hsl cs (by omega)) ?_
     refine gc k4 ?_
     refine ga (mul_small v1 v4) ?_
     refine gD ?_
     refine gE1 ?_
     rw [hres, if_neg e2, if_neg e3]; rfl
theorem c_r04_Check (rs : List (List Rt)) (r : Nat) (h : TR rs r) : FnC Tryz.prog 82 [towR rs] (i64 (chkE rs)) := by
  have hll := h.ll
  have hr := h.le
  refine gF0 Tryz.func82 ?_
  refine gl ?_
  refine gC (fun ht9 => ?_) (fun ht9 => ?_)
  · have h5 : 5 < rs.length := by have := ht9; simp only [icmp, decide_eq_true_eq] at this; omega
    refine gE1 ?_
    rw [chkE_big h5]; rfl
  · have h5 : rs.length ≤ 5 := by have := ht9; simp only [icmp, decide_eq_false_iff_not] at this; omega
    refine gl ?_
    refine gL1 [1, 11, 12] [1] (fun (k : Nat) => [(13, some (i64 k))]) (fun _ => []) (fun k => k ≤ rs.length ∧ ∀ j, j < k → RtOk rs j) (fun k => rs.length - k) 0 ⟨Nat.zero_le _, fun j hj => by omega⟩ ?_
    rintro k ⟨hk, hj⟩ K1 hK1
    refine gC (fun ht14 => ?_) (fun ht14 => ?_)
    · have hin : k < rs.length := by simpa [icmp] using ht14
      obtain ⟨d, hd⟩ := getx hin
      have hdm := List.mem_of_getElem? hd
      have hdl := h.len d hdm
      refine gi (getmap hd) ?_
      refine gl ?_
      refine gs (s_shlW (.const _) (.tmp rfl) (by omega) (i64_shl1 (by omega)) rfl) ?_
      refine gC (fun ht22 => ?_) (fun ht22 => ?_)
      · have h1 : d.length ≠ 2 ^ k := by have := ht22; simp only [icmp, bne_iff_ne, ne_eq] at this; omega
        refine gE1 ?_
        rw [chkE_len h5 hd hj h1]; rfl
      · have h1 : d.length = 2 ^ k := by have := ht22; simp only [icmp, bne_eq_false_iff_eq] at this; omega
        have hnu := c_r04_Number k (by omega) d (h.ok d hdm) hdl
        refine gc hnu ?_
        refine gC (fun ht27 => ?_) (fun ht27 => ?_)
        · have h2 := neq_t ht27
          refine gE1 ?_
          rw [chkE_num h5 hd hj h1 h2]
        · have h2 := neq_f ht27
          have hts := tsok_take (ts := llq rs) (fun j hjk => (hj j hjk).nl) h.rb
          have hq := numE_ok h2 (h.ok d hdm)
          have hcb : Cb r (lq d) := by have := h.rb.cb k; rw [llq_getD, List.getD_eq_getElem?_getD, hd] at this; exact this
          have hsg : FnC Tryz.prog 145 [towR rs, nR d] (i64 (T.sgn (rtsOf (llq rs)) k (dec k (lq d)))) := by
            have h9 := c_r04_sign ((llq rs).take k) k r hts (by omega) (fun j hjk => by rw [T.sgn_congr j (fun i hi => rtsOf_take (show i < k by omega)), rtsOf_take hjk]; exact (hj j hjk).2.2) (rs.map nR) (fun j hjk => root_in h.ok (show k ≤ rs.length by omega) hj hjk) k (lq d) r (Nat.le_refl _) hq.2 hcb (sB_tw (by omega) hr (by omega))
            rw [T.sgn_congr k (fun j hjk => rtsOf_take hjk)] at h9
            rw [hq.1, nR_rt]
            rw [← hq.1]; exact h9
          refine gc hsg ?_
          refine gC (fun ht32 => ?_) (fun ht32 => ?_)
          · have h3 : T.sgn (rtsOf (llq rs)) k (dec k (lq d)) < 0 := by simpa [icmp] using ht32
            refine gE1 ?_
            rw [chkE_sgn h5 hd hj h1 h2 h3]; rfl
          · have h3 : ¬ T.sgn (rtsOf (llq rs)) k (dec k (lq d)) < 0 := by simpa [icmp] using ht32
            refine ga (i64_add1 (by unfold maxL; omega)) ?_
            exact gK1 hK1 (k + 1) ⟨hin, fun j hjk => by rcases Nat.lt_or_ge j k with h9 | h9; exact hj j h9; (have : j = k := by omega); subst this; exact rtok_of hd h1 h2 h3⟩
    · have hin : k = rs.length := by have : rs.length ≤ k := by simpa [icmp] using ht14
                                     omega
      subst hin
      refine gE1 ?_
      rw [chkE_all h5 hj]; rfl
theorem c_r04_errors (rs : List (List Rt)) (r : Nat) (h : TR rs r) (xs : List (List Rt)) (hx : ∀ a ∈ xs, (∀ x ∈ a, x.ok) ∧ a.length ≤ 281474976710656) (hl : xs.length ≤ 281474976710656) : FnC Tryz.prog 109 [towR rs, .lst 1 (xs.map nR)] (i64 (chksE rs xs)) := by
  refine gF0 Tryz.func109 ?_
  refine gc (c_r04_Check rs r h) ?_
  refine gC (fun ht12 => ?_) (fun ht12 => ?_)
  · have h1 := neq_t ht12
    refine gE1 ?_
    rw [chks_chk h1]
  · have h1 := neq_f ht12
    have h5 : rs.length ≤ 5 := by have := (chk_tw h h1).1.five; rwa [List.length_map] at this
    refine gl ?_
    refine gL1 [2, 14, 15] [2] (fun (i : Nat) => [(16, some (i64 i))]) (fun _ => []) (fun i => i ≤ xs.length ∧ ∀ x ∈ xs.take i, numE rs.length x = 0) (fun i => xs.length - i) 0 ⟨Nat.zero_le _, fun x hx => by simp at hx⟩ ?_
    rintro i ⟨hi, hj⟩ K1 hK1
    refine gC (fun ht17 => ?_) (fun ht17 => ?_)
    · have hin : i < xs.length := by simpa [icmp] using ht17
      obtain ⟨a, ha⟩ := getx hin
      have hok := hx a (List.mem_of_getElem? ha)
      refine gi (getmap ha) ?_
      refine gl ?_
      refine gc (c_r04_Number rs.length h5 a hok.1 hok.2) ?_
      refine gC (fun ht26 => ?_) (fun ht26 => ?_)
      · have h2 := neq_t ht26
        refine gE1 ?_
        rw [chks_at h1 ha hj h2]
      · have h2 := neq_f ht26
        refine ga (i64_add1 (by unfold maxL; omega)) ?_
        exact gK1 hK1 (i + 1) ⟨hin, fun x hx => by rw [take_succ_get ha] at hx; rcases List.mem_append.1 hx with h9 | h9; exact hj x h9; (rw [List.mem_singleton.1 h9]; exact h2)⟩
    · have hin : i = xs.length := by have : xs.length ≤ i := by simpa [icmp] using ht17
                                     omega
      subst hin
      rw [List.take_length] at hj
      refine gE1 ?_
      rw [chks_of h1 hj]; rfl
theorem c_r04_Add (rs : List (List Rt)) (r : Nat) (h : TR rs r) (a b : List Rt) (e f : Nat) (ha : NR a e) (hb : NR b f) (he : e + f ≤ 1000000000) :
  FnC Tryz.prog 54 [towR rs, nR a, nR b] (.tup [nA (if chksE rs [a, b] = 0 then sh rs.length (T.add rs.length (dec rs.length (lq a)) (dec rs.length (lq b))) else []), i64 (chksE rs [a, b])]) := by
 refine gF0 Tryz.func54 ?_
 refine gc (c_r04_errors rs r h [a, b] (two_ok ha hb) (by simp)) ?_
 refine gC (fun ht15 => ?_) (fun ht15 => ?_) (st2 := (77777, 0))
 ·have h1 := neq_t ht15
  refine gR ?_
  exact fin_sub (by rw [if_neg h1]; exact Sub.tup (.cons (.nil _ _ _) (.cons (.refl _) .nil)))
 ·have h1 := neq_f ht15
  obtain ⟨h2, h3⟩ := chks_ok h1
  obtain ⟨tw, e0⟩ := chk_tw h h2
  obtain ⟨e1, na⟩ := ha.num (h3 a (by simp))
  obtain ⟨e2, nb⟩ := hb.num (h3 b (by simp))
  have h5 : rs.length ≤ 5 := by have := tw.five; rwa [List.length_map] at this
  have hla := na.len5 h5
  have hlb := nb.len5 h5
  have qa : ∀ q ∈ lq a, Qs q := fun q hq => ha.cb.qs (by omega) hq
  have qb : ∀ q ∈ lq b, Qs q := fun q hq => hb.cb.qs (by omega) hq
  have qp : ∀ q ∈ plusL (lq a) (lq b), Qs q := fun q hq => (ha.cb.plus hb.cb).qs (by omega) hq
  have np := nl_plus na nb
  refine gW (Wk.of (sl := [(1, some (nA (lq a))), (2, some (nA (lq b))), (3, some (.ptr 3 0)), (8, some (i64 (chksE rs [a, b])))]) (hp := [(3, some (.box [.lst 1 (rs.map nR)]))]) (.cons rfl (Sub.of e1) (.cons rfl (Sub.of e2) (.k (.k .nil)))) (.cons rfl (.refl _) .nil)) ?_
  refine gc (c_r04_plus _ _ qa qb (by omega) (by omega)) ?_
  refine gc (c_r04_Short _ h5 np) ?_
  refine gE2 ?_
  rw [if_pos h1, h1, dec_plus]; rfl
theorem c_r04_Sub (rs : List (List Rt)) (r : Nat) (h : TR rs r) (a b : List Rt) (e f : Nat) (ha : NR a e) (hb : NR b f) (he : e + f ≤ 1000000000) :
  FnC Tryz.prog 239 [towR rs, nR a, nR b] (.tup [nA (if chksE rs [a, b] = 0 then sh rs.length (T.add rs.length (dec rs.length (lq a)) (T.neg rs.length (dec rs.length (lq b)))) else []), i64 (chksE rs [a, b])]) := by
 refine gF0 Tryz.func239 ?_
 refine gc (c_r04_errors rs r h [a, b] (two_ok ha hb) (by simp)) ?_
 refine gC (fun ht15 => ?_) (fun ht15 => ?_) (st2 := (77777, 0))
 ·have h1 := neq_t ht15
  refine gR ?_
  exact fin_sub (by rw [if_neg h1]; exact Sub.tup (.cons (.nil _ _ _) (.cons (.refl _) .nil)))
 ·have h1 := neq_f ht15
  obtain ⟨h2, h3⟩ := chks_ok h1
  obtain ⟨tw, e0⟩ := chk_tw h h2
  obtain ⟨e1, na⟩ := ha.num (h3 a (by simp))
  obtain ⟨e2, nb⟩ := hb.num (h3 b (by simp))
  have h5 : rs.length ≤ 5 := by have := tw.five; rwa [List.length_map] at this
  have hla := na.len5 h5
  have hlb := nb.len5 h5
  have qa : ∀ q ∈ lq a, Qs q := fun q hq => ha.cb.qs (by omega) hq
  have qb : ∀ q ∈ lq b, Qs q := fun q hq => hb.cb.qs (by omega) hq
  have qm : ∀ q ∈ minusL (lq b), Qs q := fun q hq => hb.cb.minus.qs (by omega) hq
  have qp : ∀ q ∈ plusL (lq a) (minusL (lq b)), Qs q := fun q hq => (ha.cb.plus hb.cb.minus).qs (by omega) hq
  have np := nl_plus na (nl_minus nb)
  refine gW (Wk.of (sl := [(1, some (nA (lq a))), (2, some (nA (lq b))), (3, some (.ptr 3 0)), (8, some (i64 (chksE rs [a, b])))]) (hp := [(3, some (.box [.lst 1 (rs.map nR)]))]) (.cons rfl (Sub.of e1) (.cons rfl (Sub.of e2) (.k (.k .nil)))) (.cons rfl (.refl _) .nil)) ?_
  refine gc (c_r04_less _ qb (by omega)) ?_
  refine gc (c_r04_plus _ _ qa qm (by omega) (by rw [len_minus]; omega)) ?_
  refine gc (c_r04_Short _ h5 np) ?_
  refine gE2 ?_
  rw [if_pos h1, h1, dec_plus, dec_minus]; rfl
theorem c_r04_Mul (rs : List (List Rt)) (r : Nat) (h : TR rs r) (a b : List Rt) (e f : Nat) (ha : NR a e) (hb : NR b f) (he : e + f ≤ 1000000000) :
  FnC Tryz.prog 200 [towR rs, nR a, nR b] (.tup [nA (if chksE rs [a, b] = 0 then sh rs.length (T.mul (rtsOf (llq rs)) rs.length (dec rs.length (lq a)) (dec rs.length (lq b))) else []), i64 (chksE rs [a, b])]) := by
 have hr := h.le
 refine gF0 Tryz.func200 ?_
 refine gc (c_r04_errors rs r h [a, b] (two_ok ha hb) (by simp)) ?_
 refine gC (fun ht15 => ?_) (fun ht15 => ?_) (st2 := (77777, 0))
 ·have h1 := neq_t ht15
  refine gR ?_
  exact fin_sub (by rw [if_neg h1]; exact Sub.tup (.cons (.nil _ _ _) (.cons (.refl _) .nil)))
 ·have h1 := neq_f ht15
  obtain ⟨h2, h3⟩ := chks_ok h1
  obtain ⟨tw, e0⟩ := chk_tw h h2
  obtain ⟨e1, na⟩ := ha.num (h3 a (by simp))
  obtain ⟨e2, nb⟩ := hb.num (h3 b (by simp))
  have hlen : (llq rs).length = rs.length := List.length_map _
  have h5 : rs.length ≤ 5 := by have := tw.five; omega
  have hla := na.len5 h5
  have hlb := nb.len5 h5
  have htw := tw.ok
  rw [hlen] at htw
  have hE := eB_five r h5
  have np := rT_spec h5 htw (k := rs.length) (Nat.le_refl rs.length) (Nat.le_refl _) na nb ha.cb hb.cb
  have hti := c_r04_times (llq rs) rs.length r htw h5 ((llq rs).map nA) (fun j hj => rootAt (by omega)) rs.length rs.length _ _ e f (Nat.le_refl _) (Nat.le_refl _) na nb ha.cb hb.cb (by omega)
  refine gW (Wk.of (sl := [(1, some (nA (lq a))), (2, some (nA (lq b))), (3, some (.ptr 3 0)), (8, some (i64 (chksE rs [a, b])))]) (hp := [(3, some (.box [.lst 1 ((llq rs).map nA)]))]) (.cons rfl (Sub.of e1) (.cons rfl (Sub.of e2) (.k (.k .nil)))) (.cons rfl (BlkSub.boxL (.cons (.of (towR_in e0)) .nil) rfl) .nil)) ?_
  refine gc hti ?_
  refine gc (c_r04_Short _ h5 np.1) ?_
  refine gE2 ?_
  rw [if_pos h1, h1, np.2.1]; rfl
theorem c_r04_Cmp (rs : List (List Rt)) (r : Nat) (h : TR rs r) (a b : List Rt) (e f : Nat) (ha : NR a e) (hb : NR b f) (he : e + f ≤ 900000000) :
  FnC Tryz.prog 89 [towR rs, nR a, nR b] (.tup [i64 (if chksE rs [a, b] = 0 then T.sgn (rtsOf (llq rs)) rs.length (T.add rs.length (dec rs.length (lq a)) (T.neg rs.length (dec rs.length (lq b)))) else 0), i64 (chksE rs [a, b])]) := by
 have hr := h.le
 refine gF0 Tryz.func89 ?_
 refine gc (c_r04_errors rs r h [a, b] (two_ok ha hb) (by simp)) ?_
 refine gC (fun ht15 => ?_) (fun ht15 => ?_) (st2 := (77777, 0))
 ·have h1 := neq_t ht15
  refine gE2 ?_
  rw [if_neg h1]; rfl
 ·have h1 := neq_f ht15
  obtain ⟨h2, h3⟩ := chks_ok h1
  obtain ⟨tw, e0⟩ := chk_tw h h2
  obtain ⟨e1, na⟩ := ha.num (h3 a (by simp))
  obtain ⟨e2, nb⟩ := hb.num (h3 b (by simp))
  have hlen : (llq rs).length = rs.length := List.length_map _
  have h5 : rs.length ≤ 5 := by have := tw.five; omega
  have hla := na.len5 h5
  have hlb := nb.len5 h5
  have htw := tw.ok
  rw [hlen] at htw
  have qa : ∀ q ∈ lq a, Qs q := fun q hq => ha.cb.qs (by omega) hq
  have qb : ∀ q ∈ lq b, Qs q := fun q hq => hb.cb.qs (by omega) hq
  have qm : ∀ q ∈ minusL (lq b), Qs q := fun q hq => hb.cb.minus.qs (by omega) hq
  have np := nl_plus na (nl_minus nb)
  have hsg := c_r04_sign (llq rs) rs.length r htw h5 (fun j hj => tw.pos j (by omega)) ((llq rs).map nA) (fun j hj => rootAt (by omega)) rs.length _ _ (Nat.le_refl _) np (ha.cb.plus hb.cb.minus) (sB_tw h5 hr (by omega))
  refine gW (Wk.of (sl := [(1, some (nA (lq a))), (2, some (nA (lq b))), (3, some (.ptr 3 0)), (8, some (i64 (chksE rs [a, b])))]) (hp := [(3, some (.box [.lst 1 ((llq rs).map nA)]))]) (.cons rfl (Sub.of e1) (.cons rfl (Sub.of e2) (.k (.k .nil)))) (.cons rfl (BlkSub.boxL (.cons (.of (towR_in e0)) .nil) rfl) .nil)) ?_
  refine gc (c_r04_less _ qb (by omega)) ?_
  refine gc (c_r04_plus _ _ qa qm (by omega) (by rw [len_minus]; omega)) ?_
  refine gc hsg ?_
  refine gD ?_
  refine gE2 ?_
  rw [if_pos h1, h1, dec_plus, dec_minus]; rfl
theorem c_r04_Sign (rs : List (List Rt)) (r : Nat) (h : TR rs r) (a : List Rt) (e : Nat) (ha : NR a e) (he : e ≤ 1000000000) :
  FnC Tryz.prog 204 [towR rs, nR a] (.tup [i64 (if chksE rs [a] = 0 then T.sgn (rtsOf (llq rs)) rs.length (dec rs.length (lq a)) else 0), i64 (chksE rs [a])]) := by
 have hr := h.le
 refine gF0 Tryz.func204 ?_
 refine gc (c_r04_errors rs r h [a] (fun x hx => by rw [List.mem_singleton.1 hx]; exact ⟨ha.ok, ha.len⟩) (by simp)) ?_
 refine gC (fun ht12 => ?_) (fun ht12 => ?_) (st2 := (77777, 0))
 ·have h1 := neq_t ht12
  refine gE2 ?_
  rw [if_neg h1]; rfl
 ·have h1 := neq_f ht12
  obtain ⟨h2, h3⟩ := chks_ok h1
  obtain ⟨tw, e0⟩ := chk_tw h h2
  obtain ⟨e1, na⟩ := ha.num (h3 a (by simp))
  have hlen : (llq rs).length = rs.length := List.length_map _
  have h5 : rs.length ≤ 5 := by have := tw.five; omega
  have htw := tw.ok
  rw [hlen] at htw
  have hsg := c_r04_sign (llq rs) rs.length r htw h5 (fun j hj => tw.pos j (by omega)) ((llq rs).map nA) (fun j hj => rootAt (by omega)) rs.length _ _ (Nat.le_refl _) na ha.cb (sB_tw h5 hr (by omega))
  refine gW (Wk.of (sl := [(1, some (nA (lq a))), (2, some (.ptr 2 0)), (6, some (i64 (chksE rs [a])))]) (hp := [(2, some (.box [.lst 1 ((llq rs).map nA)]))]) (.cons rfl (Sub.of e1) (.k (.k .nil))) (.cons rfl (BlkSub.boxL (.cons (.of (towR_in e0)) .nil) rfl) .nil)) ?_
  refine gc hsg ?_
  refine gE2 ?_
  rw [if_pos h1, h1]; rfl
theorem c_r04_Lift (rs : List (List Rt)) (r : Nat) (h : TR rs r) (a : List Rt) (e : Nat) (ha : NR a e) (he : e ≤ 1000000000) :
  FnC Tryz.prog 83 [towR rs, nR a] (.tup [nA (if chksE rs [a] = 0 then wideL (lq a) (2 ^ rs.length) else []), i64 (chksE rs [a])]) := by
 refine gF0 Tryz.func83 ?_
 refine gc (c_r04_errors rs r h [a] (fun x hx => by rw [List.mem_singleton.1 hx]; exact ⟨ha.ok, ha.len⟩) (by simp)) ?_
 refine gC (fun ht12 => ?_) (fun ht12 => ?_) (st2 := (77777, 0))
 ·have h1 := neq_t ht12
  refine gR ?_
  exact fin_sub (by rw [if_neg h1]; exact Sub.tup (.cons (.nil _ _ _) (.cons (.refl _) .nil)))
 ·have h1 := neq_f ht12
  obtain ⟨h2, h3⟩ := chks_ok h1
  obtain ⟨tw, e0⟩ := chk_tw h h2
  obtain ⟨e1, na⟩ := ha.num (h3 a (by simp))
  have hlen : (llq rs).length = rs.length := List.length_map _
  have h5 : rs.length ≤ 5 := by have := tw.five; omega
  have hp5 : 2 ^ rs.length ≤ 32 := pow_le2 (b := 5) h5
  refine gW (Wk.of (sl := [(1, some (nA (lq a))), (2, some (.ptr 2 0)), (6, some (i64 (chksE rs [a])))]) (hp := [(2, some (.box [.lst 1 (rs.map nR)]))]) (.cons rfl (Sub.of e1) (.k (.k .nil))) (.cons rfl (.refl _) .nil)) ?_
  refine gl ?_
  refine gs (s_shlW (.const _) (.tmp rfl) (by omega) (i64_shl1 (by omega)) rfl) ?_
  refine gc (c_r04_wide _ _ na.le (by omega)) ?_
  refine gE2 ?_
  rw [if_pos h1, h1]; rfl
theorem c_r04_Of (x : Rt) (hx : x.ok) (hs : Qs x.q) : FnC Tryz.prog 25 [x.av] (nA (sh 0 (x.q : Rat))) := by
 have hadd := c_r02_Add x (rt 0) hx Qs.zero.ok
 rw [ofsum] at hadd
 refine gF0 Tryz.func25 ?_
 refine gc (c_r02_Sign x hx) ?_
 refine gC (fun ht5 => ?_) (fun ht5 => ?_)
 ·have h0 : x.q = 0 := sgnQ_zero (by simpa [icmp] using ht5)
  refine gR ?_
  exact fin_sub1 (by rw [h0]; exact Sub.nil _ _ _)
 ·have h0 : x.q ≠ 0 := fun h => by rw [h] at ht5; cases ht5
  refine gc (Con.subA (.cons (.refl _) (.cons sub_q0 .nil)) hadd) ?_
  refine gE1 ?_
  have : sh 0 (x.q : Rat) = [x.q] := if_neg h0
  rw [this]; rfl
end Go.Lw
namespace Go.Lw
open Go.Proofs
theorem q_Add {p q : Rat} (hp : Qs p) (hq : Qs q) : FnC Tryz.prog 156 [qA p, qA q] (qA (p + q)) := by
 have h := c_fraction_Add (rt p) (rt q) hp.ok hq.ok
 rw [rt_q, rt_q] at h
 exact h
theorem q_Sub {p q : Rat} (hp : Qs p) (hq : Qs q) : FnC Tryz.prog 209 [qA p, qA q] (qA (p - q)) := by
 have h := c_fraction_Sub (rt p) (rt q) hp.ok hq.ok
 rw [rt_q, rt_q] at h
 exact h
theorem q_Mul {p q : Rat} (hp : Qs p) (hq : Qs q) : FnC Tryz.prog 207 [qA p, qA q] (qA (p * q)) := by
 have h := c_fraction_Mul (rt p) (rt q) hp.ok hq.ok
 rw [rt_q, rt_q] at h
 exact h
theorem q_Div {p q : Rat} (hp : Qs p) (hq : Qs q) : FnC Tryz.prog 240 [qA p, qA q] (.tup [qA (p / q), errA (if q = 0 then 8 else 0)]) := by
 have h := c_fraction_Div (rt p) (rt q) hp.ok hq.ok
 rw [rt_q, rt_q] at h
 exact h
theorem qr_Add {p q : Rat} (hp : Qs p) (hq : Qs q) : FnC Tryz.prog 55 [qA p, qA q] (qA (p + q)) := by
 have h := c_r02_Add (rt p) (rt q) hp.ok hq.ok
 rw [rt_q, rt_q] at h
 exact h
theorem qr_Sub {p q : Rat} (hp : Qs p) (hq : Qs q) : FnC Tryz.prog 92 [qA p, qA q] (qA (p - q)) := by
 have h := c_r02_Sub (rt p) (rt q) hp.ok hq.ok
 rw [rt_q, rt_q] at h
 exact h
theorem qr_Mul {p q : Rat} (hp : Qs p) (hq : Qs q) : FnC Tryz.prog 90 [qA p, qA q] (qA (p * q)) := by
 have h := c_r02_Mul (rt p) (rt q) hp.ok hq.ok
 rw [rt_q, rt_q] at h
 exact h
theorem qr_Div {p q : Rat} (hp : Qs p) (hq : Qs q) : FnC Tryz.prog 153 [qA p, qA q] (.tup [qA (p / q), i64 (if q = 0 then 8 else 0)]) := by
 have h := c_r02_Div (rt p) (rt q) hp.ok hq.ok
 rw [rt_q, rt_q] at h
 exact h
theorem c_turn_Check (x : Tn) (hx : x.t.ok) : FnC Tryz.prog 34 [x.av] (errA x.err) := by
 refine gF0 Tryz.func34 ?_
 refine gc (c_fraction_Valid x.t hx) ?_
 refine gcG (fun _ => (c_fraction_Sign x.t hx)) ?_
 refine gC (fun ht16 => ?_) (fun ht16 => ?_)
 ·have h0 := Tn.err_yes ht16
  refine gE1 ?_
  rw [h0]; rfl
 ·have h0 := Tn.err_no ht16
  refine gE1 ?_
  rw [h0]; rfl
theorem c_turn_over {p q : Rat} (hp : Qs p) (hq : Qs q) : FnC Tryz.prog 208 [qA p, qA q] (qA (p / q)) := by
 refine gF0 Tryz.func208 ?_
 refine gc (q_Div hp hq) ?_
 refine gC (fun ht14 => ?_) (fun ht14 => ?_)
 ·have h0 : q = 0 := by
   have := nNil_t ht14
   by_cases h : q = 0
   ·exact h
   ·rw [if_neg h] at this; exact absurd rfl this
  refine gR ?_
  exact fin_sub1 (by rw [h0, div_zero]; exact sub_q0)
 ·refine gE1 ?_
  rfl
theorem c_turn_direction (half : Bool) {t : Rat} {e : Nat} (ht : Qb e t) (he : e ≤ 1000000) : FnC Tryz.prog 155 [Tn.av ⟨rt t, half⟩] (.tup [qA (cosQ half t), qA (sinQ half t)]) := by
 have qt : Qs t := ht.qs (by omega)
 have m2 := ht.mul ht
 have one : Qb 1 (((1 : Int) : Rat)) := Qb.one
 have d := one.add m2
 refine gF0 Tryz.func155 ?_
 refine gC (fun ht8 => ?_) (fun ht8 => ?_)
 ·have h0 : half = true := ht8
  refine gc (c_fraction_Of (-1) (by omega)) ?_
  refine gR ?_
  exact fin_sub (by subst h0; exact Sub.tup (.cons (.refl _) (.cons sub_q0 .nil)))
 ·have h0 : half = false := ht8
  refine gc (c_fraction_Of 1 (by omega)) ?_
  refine gc (q_Mul qt qt) ?_
  refine gD ?_
  refine gc (q_Add (one.qs (by omega)) (m2.qs (by omega))) ?_
  refine gc (q_Sub (one.qs (by omega)) (m2.qs (by omega))) ?_
  refine gc (c_turn_over ((one.sub m2).qs (by omega)) (d.qs (by omega))) ?_
  refine gc (q_Add qt qt) ?_
  refine gc (c_turn_over ((ht.add ht).qs (by omega)) (d.qs (by omega))) ?_
  refine gD ?_
  refine gE2 ?_
  subst h0; rfl
theorem c_turn_Cos (x : Tn) (hx : x.t.ok) {e : Nat} (hq : Qb e x.t.q) (he : e ≤ 1000000) : FnC Tryz.prog 94 [x.av] (.tup [qA (if x.err = 0 then cosQ x.half x.t.q else 0), errA x.err]) := by
 refine gF0 Tryz.func94 ?_
 refine gc (c_turn_Check x hx) ?_
 refine gC (fun ht10 => ?_) (fun ht10 => ?_)
 ·have h1 := nNil_t ht10
  refine gR ?_
  exact fin_sub (by rw [if_neg h1]; exact Sub.tup (.cons sub_q0 (.cons (.refl _) .nil)))
 ·have h1 := nNil_f ht10
  have hd := c_turn_direction x.half hq he
  rw [← Rt.eq_rt hx (Tn.ok_valid h1)] at hd
  refine gc hd ?_
  refine gE2 ?_
  rw [if_pos h1, h1]; rfl
theorem c_turn_Sin (x : Tn) (hx : x.t.ok) {e : Nat} (hq : Qb e x.t.q) (he : e ≤ 1000000) : FnC Tryz.prog 95 [x.av] (.tup [qA (if x.err = 0 then sinQ x.half x.t.q else 0), errA x.err]) := by
 refine gF0 Tryz.func95 ?_
 refine gc (c_turn_Check x hx) ?_
 refine gC (fun ht10 => ?_) (fun ht10 => ?_)
 ·have h1 := nNil_t ht10
  refine gR ?_
  exact fin_sub (by rw [if_neg h1]; exact Sub.tup (.cons sub_q0 (.cons (.refl _) .nil)))
 ·have h1 := nNil_f ht10
  have hd := c_turn_direction x.half hq he
  rw [← Rt.eq_rt hx (Tn.ok_valid h1)] at hd
  refine gc hd ?_
  refine gE2 ?_
  rw [if_pos h1, h1]; rfl
theorem c_r12_one : FnC Tryz.prog 93 [] (qA 1) := by
 refine gF0 Tryz.func93 ?_
 refine gc (c_r02_Of 1 (by omega)) ?_
 refine gE1 ?_
 first | rfl | (simp; done)
theorem c_r12_over {p q : Rat} (hp : Qs p) (hq : Qs q) : FnC Tryz.prog 91 [qA p, qA q] (qA (p / q)) := by
 refine gF0 Tryz.func91 ?_
 refine gc (qr_Div hp hq) ?_
 refine gE1 ?_
 first | rfl | (simp; done)
theorem c_r12_Cos (half : Bool) {t : Rat} {e : Nat} (ht : Qb e t) (he : e ≤ 1000000) : FnC Tryz.prog 41 [Tn.av ⟨rt t, half⟩] (qA (cosQ half t)) := by
 have qt : Qs t := ht.qs (by omega)
 have m2 := ht.mul ht
 have d := Qb.one.add m2
 refine gF0 Tryz.func41 ?_
 refine gC (fun ht5 => ?_) (fun ht5 => ?_)
 ·have h0 : half = true := ht5
  refine gc (c_r02_Of (-1) (by omega)) ?_
  refine gE1 ?_
  subst h0; rfl
 ·have h0 : half = false := ht5
  refine gc (qr_Mul qt qt) ?_
  refine gc c_r12_one ?_
  refine gc (qr_Sub (Qb.one.qs (by omega)) (m2.qs (by omega))) ?_
  refine gc c_r12_one ?_
  refine gc (qr_Add (Qb.one.qs (by omega)) (m2.qs (by omega))) ?_
  refine gc (c_r12_over ((Qb.one.sub m2).qs (by omega)) (d.qs (by omega))) ?_
  refine gD ?_
  refine gE1 ?_
  subst h0; rfl
theorem c_r12_Sin (half : Bool) {t : Rat} {e : Nat} (ht : Qb e t) (he : e ≤ 1000000) : FnC Tryz.prog 42 [Tn.av ⟨rt t, half⟩] (qA (sinQ half t)) := by
 have qt : Qs t := ht.qs (by omega)
 have m2 := ht.mul ht
 have d := Qb.one.add m2
 refine gF0 Tryz.func42 ?_
 refine gC (fun ht4 => ?_) (fun ht4 => ?_)
 ·have h0 : half = true := ht4
  refine gR ?_
  exact fin_sub1 (by subst h0; exact sub_q0)
 ·have h0 : half = false := ht4
  refine gc (qr_Add qt qt) ?_
  refine gc c_r12_one ?_
  refine gc (qr_Mul qt qt) ?_
  refine gc (qr_Add (Qb.one.qs (by omega)) (m2.qs (by omega))) ?_
  refine gc (c_r12_over ((ht.add ht).qs (by omega)) (d.qs (by omega))) ?_
  refine gD ?_
  refine gE1 ?_
  subst h0; rfl
theorem c_r17_Zero (a : Rt) (ha : a.ok) : FnC Tryz.prog 163 [a.av] (bl (decide (a.q = 0))) := by
 refine gF0 Tryz.func163 ?_
 refine gc (c_r02_Sign a ha) ?_
 refine gE1 ?_
 exact congrArg bl (sgn_eq0 a.q)
theorem c_r17_Turn (x : Tn) (hx : x.t.ok) : FnC Tryz.prog 103 [x.av] (bl (decide (x.err = 0))) := by
 refine gF0 Tryz.func103 ?_
 refine gc (c_r02_Valid x.t hx) ?_
 refine gcG (fun _ => (c_r17_Zero x.t hx)) ?_
 refine gE1 ?_
 exact congrArg bl (Tn.err_dec x)
theorem c_r17_Place (p : Plc) (hx : p.x.ok) (hy : p.y.ok) : FnC Tryz.prog 104 [p.av] (bl (p.x.valid && p.y.valid)) := by
 refine gF0 Tryz.func104 ?_
 refine gc (c_r02_Valid p.x hx) ?_
 refine gcG (fun _ => (c_r02_Valid p.y hy)) ?_
 refine gE1 ?_
 exact congrArg bl (and_cond _ _)
theorem c_r17_Valid (p : Pse) (ht : p.turn.t.ok) (hx : p.at_.x.ok) (hy : p.at_.y.ok) : FnC Tryz.prog 48 [p.av] (bl p.ok) := by
 refine gF0 Tryz.func48 ?_
 refine gc (c_r17_Turn p.turn ht) ?_
 refine gcG (fun _ => (c_r17_Place p.at_ hx hy)) ?_
 refine gE1 ?_
 exact congrArg bl ((and_cond _ _).trans (Bool.and_assoc _ _ _).symm)
end Go.Lw
namespace Go.Lw
open Go.Proofs
theorem tw_Add {ts : List (List Rat)} {r e f : Nat} (tw : Tw ts r) {a b : List Rat} (ha : Nm ts.length e a) (hb : Nm ts.length f b) (he : e + f ≤ 1000000000) :
  FnC Tryz.prog 250 [towA ts, nA a, nA b] (.tup [nA (sh ts.length (T.add ts.length (dec ts.length a) (dec ts.length b))), .v .nilIface]) := by
 have h := c_tower_Add (ts.map (List.map rt)) r tw.tr (a.map rt) (b.map rt) e f (ha.rt (by omega)) (hb.rt (by omega)) he
 have h0 : chksE (ts.map (List.map rt)) [a.map rt, b.map rt] = 0 := two_chk tw ha hb
 rw [h0, if_pos rfl, towR_rt, nR_rt, nR_rt, lq_rt, lq_rt, List.length_map] at h
 exact h
theorem tw_Sub {ts : List (List Rat)} {r e f : Nat} (tw : Tw ts r) {a b : List Rat} (ha : Nm ts.length e a) (hb : Nm ts.length f b) (he : e + f ≤ 1000000000) :
  FnC Tryz.prog 255 [towA ts, nA a, nA b] (.tup [nA (sh ts.length (T.add ts.length (dec ts.length a) (T.neg ts.length (dec ts.length b)))), .v .nilIface]) := by
 have h := c_tower_Sub (ts.map (List.map rt)) r tw.tr (a.map rt) (b.map rt) e f (ha.rt (by omega)) (hb.rt (by omega)) he
 have h0 : chksE (ts.map (List.map rt)) [a.map rt, b.map rt] = 0 := two_chk tw ha hb
 rw [h0, if_pos rfl, towR_rt, nR_rt, nR_rt, lq_rt, lq_rt, List.length_map] at h
 exact h
theorem tw_Mul {ts : List (List Rat)} {r e f : Nat} (tw : Tw ts r) {a b : List Rat} (ha : Nm ts.length e a) (hb : Nm ts.length f b) (he : e + f ≤ 1000000000) :
  FnC Tryz.prog 251 [towA ts, nA a, nA b] (.tup [nA (sh ts.length (T.mul (rtsOf ts) ts.length (dec ts.length a) (dec ts.length b))), .v .nilIface]) := by
 have h := c_tower_Mul (ts.map (List.map rt)) r tw.tr (a.map rt) (b.map rt) e f (ha.rt (by omega)) (hb.rt (by omega)) he
 have h0 : chksE (ts.map (List.map rt)) [a.map rt, b.map rt] = 0 := two_chk tw ha hb
 rw [h0, if_pos rfl, towR_rt, nR_rt, nR_rt, llq_rt, lq_rt, lq_rt, List.length_map] at h
 exact h
theorem tw_Cmp {ts : List (List Rat)} {r e f : Nat} (tw : Tw ts r) {a b : List Rat} (ha : Nm ts.length e a) (hb : Nm ts.length f b) (he : e + f ≤ 900000000) :
  FnC Tryz.prog 47 [towA ts, nA a, nA b] (.tup [i64 (T.sgn (rtsOf ts) ts.length (T.add ts.length (dec ts.length a) (T.neg ts.length (dec ts.length b)))), .v .nilIface]) := by
 have h := c_tower_Cmp (ts.map (List.map rt)) r tw.tr (a.map rt) (b.map rt) e f (ha.rt (by omega)) (hb.rt (by omega)) he
 have h0 : chksE (ts.map (List.map rt)) [a.map rt, b.map rt] = 0 := two_chk tw ha hb
 rw [h0, if_pos rfl, towR_rt, nR_rt, nR_rt, llq_rt, lq_rt, lq_rt, List.length_map] at h
 exact h
theorem tw_Sign {ts : List (List Rat)} {r e : Nat} (tw : Tw ts r) {a : List Rat} (ha : Nm ts.length e a) (he : e ≤ 1000000000) :
  FnC Tryz.prog 196 [towA ts, nA a] (.tup [i64 (T.sgn (rtsOf ts) ts.length (dec ts.length a)), .v .nilIface]) := by
 have h := c_tower_Sign (ts.map (List.map rt)) r tw.tr (a.map rt) e (ha.rt he) he
 have h0 : chksE (ts.map (List.map rt)) [a.map rt] = 0 := one_chk tw ha
 rw [h0, if_pos rfl, towR_rt, nR_rt, llq_rt, lq_rt, List.length_map] at h
 exact h
theorem r4_Add {ts : List (List Rat)} {r e f : Nat} (tw : Tw ts r) {a b : List Rat} (ha : Nm ts.length e a) (hb : Nm ts.length f b) (he : e + f ≤ 1000000000) :
  FnC Tryz.prog 54 [towA ts, nA a, nA b] (.tup [nA (sh ts.length (T.add ts.length (dec ts.length a) (dec ts.length b))), i64 0]) := by
 have h := c_r04_Add (ts.map (List.map rt)) r tw.tr (a.map rt) (b.map rt) e f (ha.rt (by omega)) (hb.rt (by omega)) he
 have h0 : chksE (ts.map (List.map rt)) [a.map rt, b.map rt] = 0 := two_chk tw ha hb
 rw [h0, if_pos rfl, towR_rt, nR_rt, nR_rt, lq_rt, lq_rt, List.length_map] at h
 exact h
theorem r4_Sub {ts : List (List Rat)} {r e f : Nat} (tw : Tw ts r) {a b : List Rat} (ha : Nm ts.length e a) (hb : Nm ts.length f b) (he : e + f ≤ 1000000000) :
  FnC Tryz.prog 239 [towA ts, nA a, nA b] (.tup [nA (sh ts.length (T.add ts.length (dec ts.length a) (T.neg ts.length (dec ts.length b)))), i64 0]) := by
 have h := c_r04_Sub (ts.map (List.map rt)) r tw.tr (a.map rt) (b.map rt) e f (ha.rt (by omega)) (hb.rt (by omega)) he
 have h0 : chksE (ts.map (List.map rt)) [a.map rt, b.map rt] = 0 := two_chk tw ha hb
 rw [h0, if_pos rfl, towR_rt, nR_rt, nR_rt, lq_rt, lq_rt, List.length_map] at h
 exact h
theorem r4_Mul {ts : List (List Rat)} {r e f : Nat} (tw : Tw ts r) {a b : List Rat} (ha : Nm ts.length e a) (hb : Nm ts.length f b) (he : e + f ≤ 1000000000) :
  FnC Tryz.prog 200 [towA ts, nA a, nA b] (.tup [nA (sh ts.length (T.mul (rtsOf ts) ts.length (dec ts.length a) (dec ts.length b))), i64 0]) := by
 have h := c_r04_Mul (ts.map (List.map rt)) r tw.tr (a.map rt) (b.map rt) e f (ha.rt (by omega)) (hb.rt (by omega)) he
 have h0 : chksE (ts.map (List.map rt)) [a.map rt, b.map rt] = 0 := two_chk tw ha hb
 rw [h0, if_pos rfl, towR_rt, nR_rt, nR_rt, llq_rt, lq_rt, lq_rt, List.length_map] at h
 exact h
theorem r4_Cmp {ts : List (List Rat)} {r e f : Nat} (tw : Tw ts r) {a b : List Rat} (ha : Nm ts.length e a) (hb : Nm ts.length f b) (he : e + f ≤ 900000000) :
  FnC Tryz.prog 89 [towA ts, nA a, nA b] (.tup [i64 (T.sgn (rtsOf ts) ts.length (T.add ts.length (dec ts.length a) (T.neg ts.length (dec ts.length b)))), i64 0]) := by
 have h := c_r04_Cmp (ts.map (List.map rt)) r tw.tr (a.map rt) (b.map rt) e f (ha.rt (by omega)) (hb.rt (by omega)) he
 have h0 : chksE (ts.map (List.map rt)) [a.map rt, b.map rt] = 0 := two_chk tw ha hb
 rw [h0, if_pos rfl, towR_rt, nR_rt, nR_rt, llq_rt, lq_rt, lq_rt, List.length_map] at h
 exact h
theorem r4_Sign {ts : List (List Rat)} {r e : Nat} (tw : Tw ts r) {a : List Rat} (ha : Nm ts.length e a) (he : e ≤ 1000000000) :
  FnC Tryz.prog 204 [towA ts, nA a] (.tup [i64 (T.sgn (rtsOf ts) ts.length (dec ts.length a)), i64 0]) := by
 have h := c_r04_Sign (ts.map (List.map rt)) r tw.tr (a.map rt) e (ha.rt he) he
 have h0 : chksE (ts.map (List.map rt)) [a.map rt] = 0 := one_chk tw ha
 rw [h0, if_pos rfl, towR_rt, nR_rt, llq_rt, lq_rt, List.length_map] at h
 exact h
theorem tw_Neg {ts : List (List Rat)} {r e : Nat} (tw : Tw ts r) {a : List Rat} (ha : Nm ts.length e a) (he : e ≤ 1000000000) :
  FnC Tryz.prog 46 [towA ts, nA a] (.tup [nA (sh ts.length (T.neg ts.length (dec ts.length a))), .v .nilIface]) := by
 have h := c_tower_Neg (ts.map (List.map rt)) r tw.tr (a.map rt) e (ha.rt he) he
 have h0 : chksE (ts.map (List.map rt)) [a.map rt] = 0 := one_chk tw ha
 rw [h0, if_pos rfl, towR_rt, nR_rt, lq_rt, List.length_map] at h
 exact h
theorem tw_Check {ts : List (List Rat)} {r : Nat} (tw : Tw ts r) : FnC Tryz.prog 45 [towA ts] (.v .nilIface) := by
 have h := c_tower_Check (ts.map (List.map rt)) r tw.tr
 rw [tw.chk, towR_rt] at h
 exact h
theorem tw_Of {q : Rat} (h : Qs q) : FnC Tryz.prog 96 [qA q] (nA (sh 0 (q : Rat))) := by
 have h1 := c_tower_Of (rt q) h.ok (by rw [rt_q]; exact h)
 rw [rt_q] at h1
 exact h1
theorem r4_Of {q : Rat} (h : Qs q) : FnC Tryz.prog 25 [qA q] (nA (sh 0 (q : Rat))) := by
 have h1 := c_r04_Of (rt q) h.ok (by rw [rt_q]; exact h)
 rw [rt_q] at h1
 exact h1
theorem c_point_check {ts : List (List Rat)} {r e : Nat} (tw : Tw ts r) (ls : List (List Rat)) (hl : ∀ l ∈ ls, Nm ts.length e l) (he : e ≤ 1000000000) (hn : ls.length ≤ 1000) : FnC Tryz.prog 229 [towA ts, .lst 1 (ls.map nA)] (.v .nilIface) := by
  refine gF0 Tryz.func229 ?_
  refine gc (tw_Check tw) ?_
  refine gC (fun ht13 => ?_) (fun ht13 => ?_) (st1 := (3, 0))
  · cases ht13
  · refine gl ?_
    refine gL1 [2, 15, 16] [2] (fun (i : Nat) => [(17, some (i64 i))]) (fun _ => []) (fun i => i ≤ ls.length) (fun i => ls.length - i) 0 (Nat.zero_le _) ?_
    rintro i hi K1 hK1
    refine gC (fun ht18 => ?_) (fun ht18 => ?_)
    · have hin : i < ls.length := by simpa [icmp] using ht18
      obtain ⟨l, hll⟩ := getx hin
      have hok := hl l (List.mem_of_getElem? hll)
      refine gi (getmap hll) ?_
      refine gc (tw_Neg tw hok he) ?_
      refine gC (fun ht28 => ?_) (fun ht28 => ?_) (st1 := (9, 0))
      · cases ht28
      · refine ga (i64_add1 (by unfold maxL; omega)) ?_
        exact gK1 hK1 (i + 1) hin
    · have hin : i = ls.length := by have : ls.length ≤ i := by simpa [icmp] using ht18
                                     omega
      refine gE1 ?_
      first | rfl | (simp; done)
theorem c_point_checkAll {ts : List (List Rat)} {r e : Nat} (tw : Tw ts r) (ps : List (List Rat × List Rat)) (hl : ∀ p ∈ ps, Nm ts.length e p.1 ∧ Nm ts.length e p.2) (he : e ≤ 1000000000) (hn : ps.length ≤ 500) : FnC Tryz.prog 193 [towA ts, .lst 2 (ps.map fun p => ptA p.1 p.2)] (.v .nilIface) := by
  refine gF0 Tryz.func193 ?_
  refine gl ?_
  refine gW (Wk.virt 900 1 rfl) ?_
  refine gL1 [2, 8, 9] [2] (fun (i : Nat) => [(5, some (.ms 900 1 0 (2 * i))), (10, some (i64 i))]) (fun i => [(900, some (.row 1 ((flat2 (ps.take i)).map nA)))]) (fun i => i ≤ ps.length) (fun i => ps.length - i) 0 (Nat.zero_le _) ?_
  rintro i hi K1 hK1
  refine gC (fun ht11 => ?_) (fun ht11 => ?_) (st2 := (7, 0))
  · have hin : i < ps.length := by simpa [icmp] using ht11
    obtain ⟨p, hp⟩ := getx hin
    have hfl : (flat2 (ps.take i)).length = 2 * i := by rw [len_flat2, List.length_take]; omega
    refine gi (getmap hp) ?_
    refine gs (s_append (.tmp rfl) rfl (by rw [List.length_map, hfl]) (.tmp rfl) T28 rfl T60 rfl rfl (by simp; omega) rfl rfl) ?_ (6, 0)
    refine gW (Wk.of (sl := [(2, some (.ptr 2 0)), (5, some (.ms 20 1 0 (2 * i + 2))), (8, some (.lst 2 (ps.map fun p => ptA p.1 p.2))), (9, some (i64 ps.length)), (10, some (i64 i))]) (hp := [(2, some (.box [.lst 1 (ts.map nA)])), (20, some (.row 1 ((flat2 (ps.take (i + 1))).map nA)))]) (by repeat (first | exact SlW.nil | refine SlW.k ?_)) (.cons rfl (.refl _) (.cons rfl (BlkSub.of (by rw [take_succ_get hp, flat2_app, List.map_append]; rfl)) .nil))) ?_ (6, 0)
    refine gW (Wk.rekey (k := 20) (d := 900) rfl rfl) ?_
    refine ga (i64_add1 (by unfold maxL; omega)) ?_
    exact gK1 hK1 (i + 1) hin
  · have hin : i = ps.length := by have : ps.length ≤ i := by simpa [icmp] using ht11
                                   omega
    subst hin
    refine gW ((Wk.freeze (k := 900) rfl).trans <| Wk.of (sl := [(2, some (.ptr 2 0)), (5, some (.lst 1 ((flat2 ps).map nA)))]) (hp := [(2, some (.box [.lst 1 (ts.map nA)]))]) (.k (.cons rfl (Sub.of (by rw [fz_all (by rw [List.length_map, len_flat2, List.length_take]; omega), List.take_length])) .nil)) (.cons rfl (.refl _) .nil)) ?_
    refine gc (c_point_check tw (flat2 ps) (flat2_all hl) he (by rw [len_flat2]; omega)) ?_
    refine gE1 ?_
    first | rfl | (simp; done)
theorem c_sum_keep (R : List AV) (a : List Rat) : Con Tryz.prog 249 [.ptr 1000 0, nA a, .v .nilIface] [(1000, some (.box [.lst 1 R, .v .nilIface]))] (nA a) [(1000, some (.box [.lst 1 R, .v .nilIface]))] := by
 refine gF Tryz.func249 (fun k z h => lk1000 h) ?_
 refine gC (fun ht11 => ?_) (fun ht11 => ?_) (st2 := (77777, 0))
 ·refine gR ?_
  exact Fin.keep (keep1 rfl)
 ·cases ht11
theorem c_sum_add {ts : List (List Rat)} {r e f : Nat} (tw : Tw ts r) {a b : List Rat} (ha : Nm ts.length e a) (hb : Nm ts.length f b) (he : e + f ≤ 1000000000) :
  Con Tryz.prog 226 [.ptr 1000 0, nA a, nA b] [(1000, some (sumB ts))] (nA (sh ts.length (T.add ts.length (dec ts.length a) (dec ts.length b)))) [(1000, some (sumB ts))] := by
 refine gF Tryz.func226 (fun k z h => lk1000 h) ?_
 refine gc (tw_Add tw ha hb he) ?_
 refine gt (s_callH (c_sum_keep _ _) (.cons (.tmp rfl) (.cons (.tmp rfl) (.cons (.tmp rfl) .nil))) (by first | exact hH0 | exact hH1 rfl | exact hH2 rfl rfl) rfl rfl) ?_
 refine gR ?_
 exact Fin.keep (keep1 rfl)
theorem c_sum_sub {ts : List (List Rat)} {r e f : Nat} (tw : Tw ts r) {a b : List Rat} (ha : Nm ts.length e a) (hb : Nm ts.length f b) (he : e + f ≤ 1000000000) :
  Con Tryz.prog 253 [.ptr 1000 0, nA a, nA b] [(1000, some (sumB ts))] (nA (sh ts.length (T.add ts.length (dec ts.length a) (T.neg ts.length (dec ts.length b))))) [(1000, some (sumB ts))] := by
 refine gF Tryz.func253 (fun k z h => lk1000 h) ?_
 refine gc (tw_Sub tw ha hb he) ?_
 refine gt (s_callH (c_sum_keep _ _) (.cons (.tmp rfl) (.cons (.tmp rfl) (.cons (.tmp rfl) .nil))) (by first | exact hH0 | exact hH1 rfl | exact hH2 rfl rfl) rfl rfl) ?_
 refine gR ?_
 exact Fin.keep (keep1 rfl)
theorem c_sum_mul {ts : List (List Rat)} {r e f : Nat} (tw : Tw ts r) {a b : List Rat} (ha : Nm ts.length e a) (hb : Nm ts.length f b) (he : e + f ≤ 1000000000) :
  Con Tryz.prog 227 [.ptr 1000 0, nA a, nA b] [(1000, some (sumB ts))] (nA (sh ts.length (T.mul (rtsOf ts) ts.length (dec ts.length a) (dec ts.length b)))) [(1000, some (sumB ts))] := by
 refine gF Tryz.func227 (fun k z h => lk1000 h) ?_
 refine gc (tw_Mul tw ha hb he) ?_
 refine gt (s_callH (c_sum_keep _ _) (.cons (.tmp rfl) (.cons (.tmp rfl) (.cons (.tmp rfl) .nil))) (by first | exact hH0 | exact hH1 rfl | exact hH2 rfl rfl) rfl rfl) ?_
 refine gR ?_
 exact Fin.keep (keep1 rfl)
theorem c_sum_dot {ts : List (List Rat)} {r e f : Nat} (tw : Tw ts r) {a b c d : List Rat} (ha : Nm ts.length e a) (hb : Nm ts.length e b) (hc : Nm ts.length f c) (hd : Nm ts.length f d) (he : 2 * (e + f + kB r) ≤ 1000000000) :
  Con Tryz.prog 190 [.ptr 1000 0, ptA a b, ptA c d] [(1000, some (sumB ts))] (nA (sh ts.length (dotT ts (dec ts.length a) (dec ts.length b) (dec ts.length c) (dec ts.length d)))) [(1000, some (sumB ts))] := by
 refine gF Tryz.func190 (fun k z h => lk1000 h) ?_
 refine gt (s_callH (c_sum_mul tw ha hc (by omega)) (.cons (.tmp rfl) (.cons (.tmp rfl) (.cons (.tmp rfl) .nil))) (by first | exact hH0 | exact hH1 rfl | exact hH2 rfl rfl) rfl rfl) ?_
 refine gt (s_callH (c_sum_mul tw hb hd (by omega)) (.cons (.tmp rfl) (.cons (.tmp rfl) (.cons (.tmp rfl) .nil))) (by first | exact hH0 | exact hH1 rfl | exact hH2 rfl rfl) rfl rfl) ?_
 refine gt (s_callH (dot_ap ▸ c_sum_add tw (ha.mul tw rfl hc) (hb.mul tw rfl hd) (by omega)) (.cons (.tmp rfl) (.cons (.tmp rfl) (.cons (.tmp rfl) .nil))) (by first | exact hH0 | exact hH1 rfl | exact hH2 rfl rfl) rfl rfl) ?_
 refine gD ?_
 refine gR ?_
 exact Fin.keep (keep1 rfl)
theorem c_sum_cross {ts : List (List Rat)} {r e f : Nat} (tw : Tw ts r) {a b c d : List Rat} (ha : Nm ts.length e a) (hb : Nm ts.length e b) (hc : Nm ts.length f c) (hd : Nm ts.length f d) (he : 2 * (e + f + kB r) ≤ 1000000000) :
  Con Tryz.prog 233 [.ptr 1000 0, ptA a b, ptA c d] [(1000, some (sumB ts))] (nA (sh ts.length (crossT ts (dec ts.length a) (dec ts.length b) (dec ts.length c) (dec ts.length d)))) [(1000, some (sumB ts))] := by
 refine gF Tryz.func233 (fun k z h => lk1000 h) ?_
 refine gt (s_callH (c_sum_mul tw ha hd (by omega)) (.cons (.tmp rfl) (.cons (.tmp rfl) (.cons (.tmp rfl) .nil))) (by first | exact hH0 | exact hH1 rfl | exact hH2 rfl rfl) rfl rfl) ?_
 refine gt (s_callH (c_sum_mul tw hb hc (by omega)) (.cons (.tmp rfl) (.cons (.tmp rfl) (.cons (.tmp rfl) .nil))) (by first | exact hH0 | exact hH1 rfl | exact hH2 rfl rfl) rfl rfl) ?_
 refine gt (s_callH (cross_ap ▸ c_sum_sub tw (ha.mul tw rfl hd) (hb.mul tw rfl hc) (by omega)) (.cons (.tmp rfl) (.cons (.tmp rfl) (.cons (.tmp rfl) .nil))) (by first | exact hH0 | exact hH1 rfl | exact hH2 rfl rfl) rfl rfl) ?_
 refine gD ?_
 refine gR ?_
 exact Fin.keep (keep1 rfl)
end Go.Lw
namespace Go.Lw
open Go.Proofs
theorem c_sum_less {ts : List (List Rat)} {r e : Nat} (tw : Tw ts r) {a b c d : List Rat} (ha : Nm ts.length e a) (hb : Nm ts.length e b) (hc : Nm ts.length e c) (hd : Nm ts.length e d) (he : 2 * e ≤ 1000000000) :
  Con Tryz.prog 234 [.ptr 1000 0, ptA a b, ptA c d] [(1000, some (sumB ts))] (ptA (sh ts.length (subT ts (dec ts.length a) (dec ts.length c))) (sh ts.length (subT ts (dec ts.length b) (dec ts.length d)))) [(1000, some (sumB ts))] := by
 refine gF Tryz.func234 (fun k z h => lk1000 h) ?_
 refine gt (s_callH (c_sum_sub tw ha hc (by omega)) (.cons (.tmp rfl) (.cons (.tmp rfl) (.cons (.tmp rfl) .nil))) (by first | exact hH0 | exact hH1 rfl | exact hH2 rfl rfl) rfl rfl) ?_
 refine gt (s_callH (c_sum_sub tw hb hd (by omega)) (.cons (.tmp rfl) (.cons (.tmp rfl) (.cons (.tmp rfl) .nil))) (by first | exact hH0 | exact hH1 rfl | exact hH2 rfl rfl) rfl rfl) ?_
 refine gD ?_
 refine gR ?_
 exact Fin.keep (keep1 rfl)
theorem c_sum_num (R : List AV) (a : List Rat) : Con Tryz.prog 194 [.ptr 1000 0, nA a] [(1000, some (.box [.lst 1 R, .v .nilIface]))] (.tup [nA a, .v .nilIface]) [(1000, some (.box [.lst 1 R, .v .nilIface]))] := by
 refine gF Tryz.func194 (fun k z h => lk1000 h) ?_
 refine gC (fun ht10 => ?_) (fun ht10 => ?_) (st1 := (2, 0))
 ·cases ht10
 ·refine gR ?_
  show Fin _ (AV.tup [nA a, .v .nilIface]) _ _
  exact Fin.keep (keep1 rfl)
theorem c_sum_point (R : List AV) (a b : List Rat) : Con Tryz.prog 252 [.ptr 1000 0, ptA a b] [(1000, some (.box [.lst 1 R, .v .nilIface]))] (.tup [ptA a b, .v .nilIface]) [(1000, some (.box [.lst 1 R, .v .nilIface]))] := by
 refine gF Tryz.func252 (fun k z h => lk1000 h) ?_
 refine gC (fun ht10 => ?_) (fun ht10 => ?_) (st1 := (2, 0))
 ·cases ht10
 ·refine gR ?_
  show Fin _ (AV.tup [ptA a b, .v .nilIface]) _ _
  exact Fin.keep (keep1 rfl)
theorem c_sum_orient {ts : List (List Rat)} {r e : Nat} (tw : Tw ts r) {a b c d p q : List Rat} (ha : Nm ts.length e a) (hb : Nm ts.length e b) (hc : Nm ts.length e c) (hd : Nm ts.length e d) (hp : Nm ts.length e p) (hq : Nm ts.length e q)
  (he : 8 * e + 4 + 2 * kB r ≤ 1000000000) :
  Con Tryz.prog 195 [.ptr 1000 0, ptA a b, ptA c d, ptA p q] [(1000, some (sumB ts))] (nA (sh ts.length (orientT ts (dec ts.length a) (dec ts.length b) (dec ts.length c) (dec ts.length d) (dec ts.length p) (dec ts.length q)))) [(1000, some (sumB ts))] := by
 refine gF Tryz.func195 (fun k z h => lk1000 h) ?_
 refine gt (s_callH (c_sum_less tw hc hd ha hb (by omega)) (.cons (.tmp rfl) (.cons (.tmp rfl) (.cons (.tmp rfl) .nil))) (by first | exact hH0 | exact hH1 rfl | exact hH2 rfl rfl) rfl rfl) ?_
 refine gt (s_callH (c_sum_less tw hp hq ha hb (by omega)) (.cons (.tmp rfl) (.cons (.tmp rfl) (.cons (.tmp rfl) .nil))) (by first | exact hH0 | exact hH1 rfl | exact hH2 rfl rfl) rfl rfl) ?_
 refine gt (s_callH (orient_ap ▸ c_sum_cross tw (hc.sub ha) (hd.sub hb) (hp.sub ha) (hq.sub hb) (by omega)) (.cons (.tmp rfl) (.cons (.tmp rfl) (.cons (.tmp rfl) .nil))) (by first | exact hH0 | exact hH1 rfl | exact hH2 rfl rfl) rfl rfl) ?_
 refine gD ?_
 refine gR ?_
 exact Fin.keep (keep1 rfl)
theorem c_point_product {ts : List (List Rat)} {r e : Nat} (tw : Tw ts r) {a b c d : List Rat} (ha : Nm ts.length e a) (hb : Nm ts.length e b) (hc : Nm ts.length e c) (hd : Nm ts.length e d) (he : e ≤ 1000000000) (f : FuncId) (v : List Rat)
  (hf : Con Tryz.prog f [.ptr 1000 0, ptA a b, ptA c d] [(1000, some (sumB ts))] (nA v) [(1000, some (sumB ts))]) :
  FnC Tryz.prog 189 [towA ts, ptA a b, ptA c d, .fn f []] (.tup [nA v, .v .nilIface]) := by
 refine gF0 Tryz.func189 ?_
 refine gc (c_point_checkAll (e := e) tw [(a, b), (c, d)] (by simp only [List.mem_cons, List.not_mem_nil, or_false]; rintro p (rfl | rfl); exact ⟨ha, hb⟩; exact ⟨hc, hd⟩) he (by simp)) ?_
 refine gC (fun ht18 => ?_) (fun ht18 => ?_) (st1 := (3, 0))
 ·cases ht18
 ·refine gs (s_callV (.tmp rfl) (show Con Tryz.prog f ([.ptr 22 0, ptA a b, ptA c d] ++ []) [(22, some (sumB ts))] (nA v) [(22, some (sumB ts))] from Con.rekeyB 22 rfl rfl rfl rfl hf) (.cons (.tmp rfl) (.cons (.tmp rfl) (.cons (.tmp rfl) .nil))) (by first | exact hH0 | exact hH1 rfl | exact hH2 rfl rfl) rfl rfl) ?_
  refine gt (s_callH (Con.rekeyB 22 rfl rfl rfl rfl (c_sum_num _ _)) (.cons (.tmp rfl) (.cons (.tmp rfl) .nil)) (by first | exact hH0 | exact hH1 rfl | exact hH2 rfl rfl) rfl rfl) ?_
  refine gE2 ?_
  rfl
theorem c_point_Dot {ts : List (List Rat)} {r e : Nat} (tw : Tw ts r) {a b c d : List Rat} (ha : Nm ts.length e a) (hb : Nm ts.length e b) (hc : Nm ts.length e c) (hd : Nm ts.length e d) (he : 2 * (e + e + kB r) ≤ 1000000000) :
  FnC Tryz.prog 135 [towA ts, ptA a b, ptA c d] (.tup [nA (sh ts.length (dotT ts (dec ts.length a) (dec ts.length b) (dec ts.length c) (dec ts.length d))), .v .nilIface]) := by
 refine gF0 Tryz.func135 ?_
 refine gc (Con.subA (.cons (.refl _) (.cons (.refl _) (.cons (.refl _) (.cons (Sub.fn0 _) .nil)))) (c_point_product tw ha hb hc hd (by omega) _ _ (c_sum_dot tw ha hb hc hd he))) ?_
 refine gE2 ?_
 first | rfl | (simp; done)
theorem c_point_Orient {ts : List (List Rat)} {r e : Nat} (tw : Tw ts r) {a b c d p q : List Rat} (ha : Nm ts.length e a) (hb : Nm ts.length e b) (hc : Nm ts.length e c) (hd : Nm ts.length e d) (hp : Nm ts.length e p) (hq : Nm ts.length e q)
  (he : 8 * e + 10 + 2 * kB r ≤ 1000000000) :
  FnC Tryz.prog 140 [towA ts, ptA a b, ptA c d, ptA p q] (.tup [i64 (T.sgn (rtsOf ts) ts.length (orientT ts (dec ts.length a) (dec ts.length b) (dec ts.length c) (dec ts.length d) (dec ts.length p) (dec ts.length q))), .v .nilIface]) := by
 have ho := orient_nm tw ha hb hc hd hp hq
 refine gF0 Tryz.func140 ?_
 refine gc (c_point_checkAll (e := e) tw [(a, b), (c, d), (p, q)] (by simp only [List.mem_cons, List.not_mem_nil, or_false]; rintro x (rfl | rfl | rfl); exact ⟨ha, hb⟩; exact ⟨hc, hd⟩; exact ⟨hp, hq⟩) (by omega) (by simp)) ?_
 refine gC (fun ht21 => ?_) (fun ht21 => ?_) (st1 := (3, 0))
 ·cases ht21
 ·refine gt (s_callH (Con.rekeyB 25 rfl rfl rfl rfl (c_sum_orient tw ha hb hc hd hp hq (by omega))) (.cons (.tmp rfl) (.cons (.tmp rfl) (.cons (.tmp rfl) (.cons (.tmp rfl) .nil)))) (by first | exact hH0 | exact hH1 rfl | exact hH2 rfl rfl) rfl rfl) ?_
  refine gt (s_callH (Con.rekeyB 25 rfl rfl rfl rfl (c_sum_num _ _)) (.cons (.tmp rfl) (.cons (.tmp rfl) .nil)) (by first | exact hH0 | exact hH1 rfl | exact hH2 rfl rfl) rfl rfl) ?_
  refine gC (fun ht37 => ?_) (fun ht37 => ?_) (st1 := (7, 0))
  ·cases ht37
  ·refine gc (tw_Sign tw ho (by omega)) ?_
   refine gE2 ?_
   rw [dec_sh]
theorem c_point_Same {ts : List (List Rat)} {r e : Nat} (tw : Tw ts r) {a b c d : List Rat} (ha : Nm ts.length e a) (hb : Nm ts.length e b) (hc : Nm ts.length e c) (hd : Nm ts.length e d) (he : 2 * e ≤ 900000000) :
  FnC Tryz.prog 139 [towA ts, ptA a b, ptA c d] (.tup [bl (decide (T.sgn (rtsOf ts) ts.length (subT ts (dec ts.length a) (dec ts.length c)) = 0 ∧ T.sgn (rtsOf ts) ts.length (subT ts (dec ts.length b) (dec ts.length d)) = 0)), .v .nilIface]) := by
 refine gF0 Tryz.func139 ?_
 refine gc (c_point_checkAll (e := e) tw [(a, b), (c, d)] (by simp only [List.mem_cons, List.not_mem_nil, or_false]; rintro p (rfl | rfl); exact ⟨ha, hb⟩; exact ⟨hc, hd⟩) (by omega) (by simp)) ?_
 refine gC (fun ht18 => ?_) (fun ht18 => ?_) (st1 := (3, 0))
 ·cases ht18
 ·refine gc (tw_Cmp tw ha hc (by omega)) ?_
  refine gC (fun ht30 => ?_) (fun ht30 => ?_) (st1 := (6, 0))
  ·cases ht30
  ·refine gc (tw_Cmp tw hb hd (by omega)) ?_
   refine gE2 ?_
   rw [← same_cond]; rfl
theorem c_point_Turn {ts : List (List Rat)} {r e : Nat} (tw : Tw ts r) {a b c d : List Rat} (ha : Nm ts.length e a) (hb : Nm ts.length e b) (hc : Nm ts.length e c) (hd : Nm ts.length e d) (he : 2 * (e + e + kB r) ≤ 1000000000) :
  FnC Tryz.prog 230 [towA ts, nA a, nA b, ptA c d] (.tup [ptA (sh ts.length (turnX ts (dec ts.length a) (dec ts.length b) (dec ts.length c) (dec ts.length d))) (sh ts.length (turnY ts (dec ts.length a) (dec ts.length b) (dec ts.length c) (dec ts.length d))), .v .nilIface]) := by
 refine gF0 Tryz.func230 ?_
 refine gc (c_point_check (e := e) tw [a, b, c, d] (by simp only [List.mem_cons, List.not_mem_nil, or_false]; rintro x (rfl | rfl | rfl | rfl) <;> assumption) (by omega) (by simp)) ?_
 refine gC (fun ht22 => ?_) (fun ht22 => ?_) (st1 := (3, 0))
 ·cases ht22
 ·refine gt (s_callH (Con.rekeyB 27 rfl rfl rfl rfl (c_sum_mul tw ha hc (by omega))) (.cons (.tmp rfl) (.cons (.tmp rfl) (.cons (.tmp rfl) .nil))) (by first | exact hH0 | exact hH1 rfl | exact hH2 rfl rfl) rfl rfl) ?_
  refine gt (s_callH (Con.rekeyB 27 rfl rfl rfl rfl (c_sum_mul tw hb hd (by omega))) (.cons (.tmp rfl) (.cons (.tmp rfl) (.cons (.tmp rfl) .nil))) (by first | exact hH0 | exact hH1 rfl | exact hH2 rfl rfl) rfl rfl) ?_
  refine gt (s_callH (Con.rekeyB 27 rfl rfl rfl rfl (cross_ap ▸ c_sum_sub tw (ha.mul tw rfl hc) (hb.mul tw rfl hd) (by omega))) (.cons (.tmp rfl) (.cons (.tmp rfl) (.cons (.tmp rfl) .nil))) (by first | exact hH0 | exact hH1 rfl | exact hH2 rfl rfl) rfl rfl) ?_
  refine gt (s_callH (Con.rekeyB 27 rfl rfl rfl rfl (c_sum_mul tw hb hc (by omega))) (.cons (.tmp rfl) (.cons (.tmp rfl) (.cons (.tmp rfl) .nil))) (by first | exact hH0 | exact hH1 rfl | exact hH2 rfl rfl) rfl rfl) ?_
  refine gt (s_callH (Con.rekeyB 27 rfl rfl rfl rfl (c_sum_mul tw ha hd (by omega))) (.cons (.tmp rfl) (.cons (.tmp rfl) (.cons (.tmp rfl) .nil))) (by first | exact hH0 | exact hH1 rfl | exact hH2 rfl rfl) rfl rfl) ?_
  refine gt (s_callH (Con.rekeyB 27 rfl rfl rfl rfl (dot_ap ▸ c_sum_add tw (hb.mul tw rfl hc) (ha.mul tw rfl hd) (by omega))) (.cons (.tmp rfl) (.cons (.tmp rfl) (.cons (.tmp rfl) .nil))) (by first | exact hH0 | exact hH1 rfl | exact hH2 rfl rfl) rfl rfl) ?_
  refine gt (s_callH (Con.rekeyB 27 rfl rfl rfl rfl (c_sum_point _ _ _)) (.cons (.tmp rfl) (.cons (.tmp rfl) .nil)) (by first | exact hH0 | exact hH1 rfl | exact hH2 rfl rfl) rfl rfl) ?_
  refine gD ?_
  refine gE2 ?_
  rfl
theorem c_point_Add {ts : List (List Rat)} {r e : Nat} (tw : Tw ts r) {a b c d : List Rat} (ha : Nm ts.length e a) (hb : Nm ts.length e b) (hc : Nm ts.length e c) (hd : Nm ts.length e d) (he : 2 * e ≤ 1000000000) :
  FnC Tryz.prog 232 [towA ts, ptA a b, ptA c d] (.tup [ptA (sh ts.length (T.add ts.length (dec ts.length a) (dec ts.length c))) (sh ts.length (T.add ts.length (dec ts.length b) (dec ts.length d))), .v .nilIface]) := by
 refine gF0 Tryz.func232 ?_
 refine gc (c_point_checkAll (e := e) tw [(a, b), (c, d)] (by simp only [List.mem_cons, List.not_mem_nil, or_false]; rintro p (rfl | rfl); exact ⟨ha, hb⟩; exact ⟨hc, hd⟩) (by omega) (by simp)) ?_
 refine gC (fun ht16 => ?_) (fun ht16 => ?_) (st1 := (3, 0))
 ·cases ht16
 ·refine gt (s_callH (Con.rekeyB 21 rfl rfl rfl rfl (c_sum_add tw ha hc (by omega))) (.cons (.tmp rfl) (.cons (.tmp rfl) (.cons (.tmp rfl) .nil))) (by first | exact hH0 | exact hH1 rfl | exact hH2 rfl rfl) rfl rfl) ?_
  refine gt (s_callH (Con.rekeyB 21 rfl rfl rfl rfl (c_sum_add tw hb hd (by omega))) (.cons (.tmp rfl) (.cons (.tmp rfl) (.cons (.tmp rfl) .nil))) (by first | exact hH0 | exact hH1 rfl | exact hH2 rfl rfl) rfl rfl) ?_
  refine gt (s_callH (Con.rekeyB 21 rfl rfl rfl rfl (c_sum_point _ _ _)) (.cons (.tmp rfl) (.cons (.tmp rfl) .nil)) (by first | exact hH0 | exact hH1 rfl | exact hH2 rfl rfl) rfl rfl) ?_
  refine gD ?_
  refine gE2 ?_
  rfl
theorem c_point_Of {x y : Rat} (hx : Qs x) (hy : Qs y) : FnC Tryz.prog 231 [qA x, qA y] (ptA (sh 0 (x : Rat)) (sh 0 (y : Rat))) := by
 refine gF0 Tryz.func231 ?_
 refine gc (tw_Of hx) ?_
 refine gc (tw_Of hy) ?_
 refine gD ?_
 refine gE1 ?_
 first | rfl | (simp; done)
theorem c_point_At {ts : List (List Rat)} {r e : Nat} (tw : Tw ts r) {a b c d : List Rat} (ha : Nm ts.length e a) (hb : Nm ts.length e b) (hc : Nm ts.length e c) (hd : Nm ts.length e d) {x y : Rat} (hx : Qb e x) (hy : Qb e y) (he : 8 * e + 4 * kB r + 4 ≤ 1000000000) :
  FnC Tryz.prog 192 [towA ts, .agg [nA a, nA b, nA c, nA d], qA x, qA y] (.tup [ptA (sh ts.length (atX ts (dec ts.length a) (dec ts.length b) (dec ts.length c) x y)) (sh ts.length (atY ts (dec ts.length a) (dec ts.length b) (dec ts.length d) x y)), .v .nilIface]) := by
 have nx := Nm.ofQ ha.five (Cb.one hx)
 have ny := Nm.ofQ ha.five (Cb.one hy)
 have nX := turn_nmX tw ha hb nx ny
 have nY := turn_nmY tw ha hb nx ny
 have z1 : e ≤ 2 * (e + e + kB r) + 1 := by omega
 have z2 : 2 * (2 * (e + e + kB r) + 1) ≤ 1000000000 := at_size he
 have hadd := c_point_Add tw nX nY (hc.mono z1) (hd.mono z1) z2
 refine gF0 Tryz.func192 ?_
 refine gc (c_point_check (e := e) tw [a, b, c, d] (by simp only [List.mem_cons, List.not_mem_nil, or_false]; rintro x (rfl | rfl | rfl | rfl) <;> assumption) (by omega) (by simp)) ?_
 refine gC (fun ht25 => ?_) (fun ht25 => ?_) (st1 := (3, 0))
 ·cases ht25
 ·refine gc (c_point_Of (hx.qs (by omega)) (hy.qs (by omega))) ?_
  refine gc (c_point_Turn tw ha hb nx ny (by omega)) ?_
  refine gD ?_
  refine gC (fun ht41 => ?_) (fun ht41 => ?_) (st1 := (6, 0))
  ·cases ht41
  ·refine gc hadd ?_
   refine gE2 ?_
   rw [at_ap1, at_ap2]; rfl
end Go.Lw
namespace Go.Lw
open Go.Proofs
theorem c_r11_Bad (rs : List (List Rt)) (r e : Nat) (h : TR rs r) (xs : List (List Rt)) (hx : ∀ a ∈ xs, NR a e) (he : e ≤ 1000000000) (hl : xs.length ≤ 1000) : FnC Tryz.prog 37 [towR rs, .lst 1 (xs.map nR)] (i64 (chksE rs xs)) := by
  refine gF0 Tryz.func37 ?_
  refine gc (c_r04_Check rs r h) ?_
  refine gC (fun ht13 => ?_) (fun ht13 => ?_)
  · have h1 := neq_t ht13
    refine gE1 ?_
    rw [chks_chk h1]
  · have h1 := neq_f ht13
    refine gl ?_
    refine gL1 [2, 15, 16] [2] (fun (i : Nat) => [(17, some (i64 i))]) (fun _ => []) (fun i => i ≤ xs.length ∧ ∀ x ∈ xs.take i, numE rs.length x = 0) (fun i => xs.length - i) 0 ⟨Nat.zero_le _, fun x hx => by simp at hx⟩ ?_
    rintro i ⟨hi, hj⟩ K1 hK1
    refine gC (fun ht18 => ?_) (fun ht18 => ?_)
    · have hin : i < xs.length := by simpa [icmp] using ht18
      obtain ⟨a, ha⟩ := getx hin
      have hok := hx a (List.mem_of_getElem? ha)
      have hone : chksE rs [a] = numE rs.length a := chks_one h1
      refine gi (getmap ha) ?_
      refine gc (c_r04_Lift rs r h a e hok he) ?_
      refine gC (fun ht28 => ?_) (fun ht28 => ?_)
      · have h2 := neq_t ht28
        refine gE1 ?_
        rw [hone] at h2 ⊢; rw [chks_at h1 ha hj h2]
      · have h2 := neq_f ht28
        rw [hone] at h2
        refine ga (i64_add1 (by unfold maxL; omega)) ?_
        exact gK1 hK1 (i + 1) ⟨hin, fun x hx => by rw [take_succ_get ha] at hx; rcases List.mem_append.1 hx with h9 | h9; exact hj x h9; (rw [List.mem_singleton.1 h9]; exact h2)⟩
    · have hin : i = xs.length := by have : xs.length ≤ i := by simpa [icmp] using ht18
                                     omega
      subst hin
      rw [List.take_length] at hj
      refine gE1 ?_
      rw [chks_of h1 hj]; rfl
theorem c_r11_Plus {ts : List (List Rat)} {r e f : Nat} (tw : Tw ts r) {a b : List Rat} (ha : Nm ts.length e a) (hb : Nm ts.length f b) (he : e + f ≤ 1000000000) : FnC Tryz.prog 24 [towA ts, nA a, nA b] (nA (sh ts.length (T.add ts.length (dec ts.length a) (dec ts.length b)))) := by
 refine gF0 Tryz.func24 ?_
 refine gc (r4_Add tw ha hb he) ?_
 refine gE1 ?_
 first | rfl | (simp; done)
theorem c_r11_Minus {ts : List (List Rat)} {r e f : Nat} (tw : Tw ts r) {a b : List Rat} (ha : Nm ts.length e a) (hb : Nm ts.length f b) (he : e + f ≤ 1000000000) : FnC Tryz.prog 205 [towA ts, nA a, nA b] (nA (sh ts.length (T.add ts.length (dec ts.length a) (T.neg ts.length (dec ts.length b))))) := by
 refine gF0 Tryz.func205 ?_
 refine gc (r4_Sub tw ha hb he) ?_
 refine gE1 ?_
 first | rfl | (simp; done)
theorem c_r11_Times {ts : List (List Rat)} {r e f : Nat} (tw : Tw ts r) {a b : List Rat} (ha : Nm ts.length e a) (hb : Nm ts.length f b) (he : e + f ≤ 1000000000) : FnC Tryz.prog 147 [towA ts, nA a, nA b] (nA (sh ts.length (T.mul (rtsOf ts) ts.length (dec ts.length a) (dec ts.length b)))) := by
 refine gF0 Tryz.func147 ?_
 refine gc (r4_Mul tw ha hb he) ?_
 refine gE1 ?_
 first | rfl | (simp; done)
theorem c_r11_Sign {ts : List (List Rat)} {r e : Nat} (tw : Tw ts r) {a : List Rat} (ha : Nm ts.length e a) (he : e ≤ 1000000000) : FnC Tryz.prog 149 [towA ts, nA a] (i64 (T.sgn (rtsOf ts) ts.length (dec ts.length a))) := by
 refine gF0 Tryz.func149 ?_
 refine gc (r4_Sign tw ha he) ?_
 refine gE1 ?_
 first | rfl | (simp; done)
theorem c_r11_Equal {ts : List (List Rat)} {r e f : Nat} (tw : Tw ts r) {a b : List Rat} (ha : Nm ts.length e a) (hb : Nm ts.length f b) (he : e + f ≤ 900000000) : FnC Tryz.prog 40 [towA ts, nA a, nA b] (bl (eqT ts (dec ts.length a) (dec ts.length b))) := by
 refine gF0 Tryz.func40 ?_
 refine gc (r4_Cmp tw ha hb he) ?_
 refine gE1 ?_
 exact congrArg bl (sgn_dec _)
theorem c_r11_EqualPoint {ts : List (List Rat)} {r e : Nat} (tw : Tw ts r) {a b c d : List Rat} (ha : Nm ts.length e a) (hb : Nm ts.length e b) (hc : Nm ts.length e c) (hd : Nm ts.length e d) (he : 2 * e ≤ 900000000) : FnC Tryz.prog 87 [towA ts, ptA a b, ptA c d] (bl (eqT ts (dec ts.length a) (dec ts.length c) && eqT ts (dec ts.length b) (dec ts.length d))) := by
 refine gF0 Tryz.func87 ?_
 refine gc (c_r11_Equal tw ha hc (by omega)) ?_
 refine gcG (fun _ => (c_r11_Equal tw hb hd (by omega))) ?_
 refine gE1 ?_
 exact congrArg bl (and_cond _ _)
theorem c_r11_Cross {ts : List (List Rat)} {r e : Nat} (tw : Tw ts r) {a b c d : List Rat} (ha : Nm ts.length e a) (hb : Nm ts.length e b) (hc : Nm ts.length e c) (hd : Nm ts.length e d) (he : 2 * (e + e + kB r) ≤ 1000000000) : FnC Tryz.prog 150 [towA ts, ptA a b, ptA c d] (nA (sh ts.length (crossT ts (dec ts.length a) (dec ts.length b) (dec ts.length c) (dec ts.length d)))) := by
 refine gF0 Tryz.func150 ?_
 refine gc (c_r11_Times tw ha hd (by omega)) ?_
 refine gc (c_r11_Times tw hb hc (by omega)) ?_
 refine gc (cross_ap ▸ c_r11_Minus tw (ha.mul tw rfl hd) (hb.mul tw rfl hc) (by omega)) ?_
 refine gD ?_
 refine gE1 ?_
 first | rfl | (simp; done)
theorem c_r11_Sub {ts : List (List Rat)} {r e : Nat} (tw : Tw ts r) {a b c d : List Rat} (ha : Nm ts.length e a) (hb : Nm ts.length e b) (hc : Nm ts.length e c) (hd : Nm ts.length e d) (he : 2 * e ≤ 1000000000) : FnC Tryz.prog 151 [towA ts, ptA a b, ptA c d] (ptA (sh ts.length (subT ts (dec ts.length a) (dec ts.length c))) (sh ts.length (subT ts (dec ts.length b) (dec ts.length d)))) := by
 refine gF0 Tryz.func151 ?_
 refine gc (c_r11_Minus tw ha hc (by omega)) ?_
 refine gc (c_r11_Minus tw hb hd (by omega)) ?_
 refine gD ?_
 refine gE1 ?_
 first | rfl | (simp; done)
theorem c_r11_Add {ts : List (List Rat)} {r e : Nat} (tw : Tw ts r) {a b c d : List Rat} (ha : Nm ts.length e a) (hb : Nm ts.length e b) (hc : Nm ts.length e c) (hd : Nm ts.length e d) (he : 2 * e ≤ 1000000000) : FnC Tryz.prog 201 [towA ts, ptA a b, ptA c d] (ptA (sh ts.length (T.add ts.length (dec ts.length a) (dec ts.length c))) (sh ts.length (T.add ts.length (dec ts.length b) (dec ts.length d)))) := by
 refine gF0 Tryz.func201 ?_
 refine gc (c_r11_Plus tw ha hc (by omega)) ?_
 refine gc (c_r11_Plus tw hb hd (by omega)) ?_
 refine gD ?_
 refine gE1 ?_
 first | rfl | (simp; done)
theorem c_r11_Turn {ts : List (List Rat)} {r e : Nat} (tw : Tw ts r) {a b c d : List Rat} (ha : Nm ts.length e a) (hb : Nm ts.length e b) (hc : Nm ts.length e c) (hd : Nm ts.length e d) (he : 2 * (e + e + kB r) ≤ 1000000000) : FnC Tryz.prog 202 [towA ts, nA a, nA b, ptA c d] (ptA (sh ts.length (turnX ts (dec ts.length a) (dec ts.length b) (dec ts.length c) (dec ts.length d))) (sh ts.length (turnY ts (dec ts.length a) (dec ts.length b) (dec ts.length c) (dec ts.length d)))) := by
 refine gF0 Tryz.func202 ?_
 refine gc (c_r11_Times tw ha hc (by omega)) ?_
 refine gc (c_r11_Times tw hb hd (by omega)) ?_
 refine gc (cross_ap ▸ c_r11_Minus tw (ha.mul tw rfl hc) (hb.mul tw rfl hd) (by omega)) ?_
 refine gc (c_r11_Times tw hb hc (by omega)) ?_
 refine gc (c_r11_Times tw ha hd (by omega)) ?_
 refine gc (dot_ap ▸ c_r11_Plus tw (hb.mul tw rfl hc) (ha.mul tw rfl hd) (by omega)) ?_
 refine gD ?_
 refine gE1 ?_
 first | rfl | (simp; done)
theorem c_r11_Orient {ts : List (List Rat)} {r e : Nat} (tw : Tw ts r) {a b c d p q : List Rat} (ha : Nm ts.length e a) (hb : Nm ts.length e b) (hc : Nm ts.length e c) (hd : Nm ts.length e d) (hp : Nm ts.length e p) (hq : Nm ts.length e q)
  (he : 8 * e + 10 + 2 * kB r ≤ 1000000000) :
  FnC Tryz.prog 88 [towA ts, ptA a b, ptA c d, ptA p q] (i64 (T.sgn (rtsOf ts) ts.length (orientT ts (dec ts.length a) (dec ts.length b) (dec ts.length c) (dec ts.length d) (dec ts.length p) (dec ts.length q)))) := by
 have ho := orient_nm tw ha hb hc hd hp hq
 refine gF0 Tryz.func88 ?_
 refine gc (c_r11_Sub tw hc hd ha hb (by omega)) ?_
 refine gc (c_r11_Sub tw hp hq ha hb (by omega)) ?_
 refine gc (orient_ap ▸ c_r11_Cross tw (hc.sub ha) (hd.sub hb) (hp.sub ha) (hq.sub hb) (by omega)) ?_
 refine gc (c_r11_Sign tw ho (by omega)) ?_
 refine gD ?_
 refine gE1 ?_
 rw [dec_sh]
theorem c_r11_Of {x y : Rat} (hx : Qs x) (hy : Qs y) : FnC Tryz.prog 203 [qA x, qA y] (ptA (sh 0 (x : Rat)) (sh 0 (y : Rat))) := by
 refine gF0 Tryz.func203 ?_
 refine gc (r4_Of hx) ?_
 refine gc (r4_Of hy) ?_
 refine gD ?_
 refine gE1 ?_
 first | rfl | (simp; done)
theorem c_r11_At {ts : List (List Rat)} {r e : Nat} (tw : Tw ts r) {a b c d : List Rat} (ha : Nm ts.length e a) (hb : Nm ts.length e b) (hc : Nm ts.length e c) (hd : Nm ts.length e d) {x y : Rat} (hx : Qb e x) (hy : Qb e y) (he : 8 * e + 4 * kB r + 4 ≤ 1000000000) :
  FnC Tryz.prog 148 [towA ts, .agg [nA a, nA b, nA c, nA d], qA x, qA y] (ptA (sh ts.length (atX ts (dec ts.length a) (dec ts.length b) (dec ts.length c) x y)) (sh ts.length (atY ts (dec ts.length a) (dec ts.length b) (dec ts.length d) x y))) := by
 have nx := Nm.ofQ ha.five (Cb.one hx)
 have ny := Nm.ofQ ha.five (Cb.one hy)
 have nX := turn_nmX tw ha hb nx ny
 have nY := turn_nmY tw ha hb nx ny
 have z1 : e ≤ 2 * (e + e + kB r) + 1 := by omega
 have z2 : 2 * (2 * (e + e + kB r) + 1) ≤ 1000000000 := at_size he
 have hadd := c_r11_Add tw nX nY (hc.mono z1) (hd.mono z1) z2
 refine gF0 Tryz.func148 ?_
 refine gc (c_r11_Of (hx.qs (by omega)) (hy.qs (by omega))) ?_
 refine gc (c_r11_Turn tw ha hb nx ny (by omega)) ?_
 refine gc hadd ?_
 refine gD ?_
 refine gE1 ?_
 rw [at_ap1, at_ap2]; rfl
theorem c_r26_SamePlaced {ts : List (List Rat)} {r e : Nat} (tw : Tw ts r) {a b c d p q u v : List Rat} (ha : Nm ts.length e a) (hb : Nm ts.length e b) (hc : Nm ts.length e c) (hd : Nm ts.length e d) (hp : Nm ts.length e p) (hq : Nm ts.length e q) (hu : Nm ts.length e u) (hv : Nm ts.length e v) (he : 2 * e ≤ 900000000) :
  FnC Tryz.prog 17 [towA ts, .agg [nA a, nA b, nA c, nA d], .agg [nA p, nA q, nA u, nA v]] (bl (eqT ts (dec ts.length a) (dec ts.length p) && eqT ts (dec ts.length b) (dec ts.length q) && eqT ts (dec ts.length c) (dec ts.length u) && eqT ts (dec ts.length d) (dec ts.length v))) := by
 refine gF0 Tryz.func17 ?_
 refine gc (c_r11_Equal tw ha hp (by omega)) ?_
 refine gcG (fun _ => (c_r11_Equal tw hb hq (by omega))) ?_
 refine gcG (fun _ => (c_r11_Equal tw hc hu (by omega))) ?_
 refine gcG (fun _ => (c_r11_Equal tw hd hv (by omega))) ?_
 refine gE1 ?_
 exact congrArg bl (and_cond4 _ _ _ _)
theorem c_r26_Frame : FnC Tryz.prog 26 [] (.agg [nA [1], nA [], nA [], nA []]) := by
 refine gF0 Tryz.func26 ?_
 refine gc (c_r02_Of 1 (by omega)) ?_
 refine gc (r4_Of (int_qs (n := 1) (by omega))) ?_
 refine gR ?_
 exact fin_sub1 (.agg (.cons (.refl _) (.cons (.nil _ _ _) (.cons (.nil _ _ _) (.cons (.nil _ _ _) .nil)))) rfl)
end Go.Lw
namespace Go.Lw
open Go.Proofs
def u8 (n : Nat) : AV := .v (.int .u8 n)
theorem and_dec {p q : Bool} {a b : Nat} {c : Nat} (hp : p = decide (a ≤ c)) (hq : q = decide (c ≤ b)) : cond p q false = decide (a ≤ c ∧ c ≤ b) := by
 subst hp; subst hq
 by_cases h : a ≤ c
 ·simp [h]
 ·simp [h]
theorem ge_u8 (c k : Nat) : icmp .geq (c : Int) (k : Int) = decide (k ≤ c) := by simp only [icmp, decide_eq_decide]; omega
theorem le_u8 (c k : Nat) : icmp .leq (c : Int) (k : Int) = decide (c ≤ k) := by simp only [icmp, decide_eq_decide]; omega
theorem letter_1 (c : Nat) : cond (cond (icmp .geq (c : Int) 97) (icmp .leq (c : Int) 122) false) true (cond (icmp .geq (c : Int) 65) (icmp .leq (c : Int) 90) false) = letterB c := by
 have e1 : cond (icmp .geq (c : Int) 97) (icmp .leq (c : Int) 122) false = decide (97 ≤ c ∧ c ≤ 122) := and_dec (ge_u8 c 97) (le_u8 c 122)
 have e2 : cond (icmp .geq (c : Int) 65) (icmp .leq (c : Int) 90) false = decide (65 ≤ c ∧ c ≤ 90) := and_dec (ge_u8 c 65) (le_u8 c 90)
 rw [e1, e2]
 unfold letterB
 cases decide (97 ≤ c ∧ c ≤ 122) <;> rfl
theorem letter_2 (c : Nat) : cond (cond (icmp .geq (c : Int) 65) (icmp .leq (c : Int) 90) false) true (cond (icmp .geq (c : Int) 97) (icmp .leq (c : Int) 122) false) = letterB c := by
 have e1 : cond (icmp .geq (c : Int) 97) (icmp .leq (c : Int) 122) false = decide (97 ≤ c ∧ c ≤ 122) := and_dec (ge_u8 c 97) (le_u8 c 122)
 have e2 : cond (icmp .geq (c : Int) 65) (icmp .leq (c : Int) 90) false = decide (65 ≤ c ∧ c ≤ 90) := and_dec (ge_u8 c 65) (le_u8 c 90)
 rw [e1, e2]
 unfold letterB
 cases decide (97 ≤ c ∧ c ≤ 122) <;> cases decide (65 ≤ c ∧ c ≤ 90) <;> rfl
theorem digit_1 (c : Nat) : cond (icmp .geq (c : Int) 48) (icmp .leq (c : Int) 57) false = digitB c := and_dec (ge_u8 c 48) (le_u8 c 57)
theorem part_1 (c : Nat) : cond (cond (letterB c) true (digitB c)) true (icmp .eql (c : Int) 95) = partB c := by
 unfold partB
 have : icmp .eql (c : Int) 95 = decide (c = 95) := by
  rw [Bool.eq_iff_iff]; simp only [icmp, beq_iff_eq, decide_eq_true_eq]; omega
 rw [this]
 cases letterB c <;> cases digitB c <;> rfl
theorem c_token_letter (c : Nat) : FnC Tryz.prog 180 [u8 c] (bl (letterB c)) := by
 refine gF0 Tryz.func180 ?_
 refine gE1 ?_
 exact congrArg bl (letter_1 c)
theorem c_token_digit (c : Nat) : FnC Tryz.prog 218 [u8 c] (bl (digitB c)) := by
 refine gF0 Tryz.func218 ?_
 refine gE1 ?_
 exact congrArg bl (digit_1 c)
theorem c_token_part (c : Nat) : FnC Tryz.prog 181 [u8 c] (bl (partB c)) := by
 refine gF0 Tryz.func181 ?_
 refine gc (c_token_letter c) ?_
 refine gcG (fun _ => (c_token_digit c)) ?_
 refine gE1 ?_
 exact congrArg bl (part_1 c)
theorem c_r18_isLetter (c : Nat) : FnC Tryz.prog 174 [u8 c] (bl (letterB c)) := by
 refine gF0 Tryz.func174 ?_
 refine gE1 ?_
 exact congrArg bl (letter_2 c)
theorem c_r18_isDigit (c : Nat) : FnC Tryz.prog 176 [u8 c] (bl (digitB c)) := by
 refine gF0 Tryz.func176 ?_
 refine gE1 ?_
 exact congrArg bl (digit_1 c)
theorem c_token_word (s : ByteArray) (hs : s.size ≤ 281474976710656) : FnC Tryz.prog 125 [.v (.string s)] (i64 (wordL s)) := by
 refine gF0 Tryz.func125 ?_
 refine gs (s_guard rfl rfl rfl (fun h => s_idxStr (.opt rfl (o1 h)) (.const _) T9 rfl (by omega) (by have := empty_f h; omega) rfl)) ?_
 refine gcG (fun _ => (c_token_letter (byteAt s 0))) ?_
 refine gC (fun ht11 => ?_) (fun ht11 => ?_)
 ·have h0 : wordL s = 0 := word_none ht11
  refine gE1 ?_
  rw [h0]; rfl
 ·obtain ⟨h0, h1⟩ := word_some ht11
  refine gL1 [0] [] (fun (n : Nat) => [(3, some (i64 n))]) (fun _ => []) (fun n => 1 ≤ n ∧ n ≤ s.size ∧ wordN s 1 (s.size - 1) = wordN s n (s.size - n)) (fun n => s.size - n) 1 ⟨Nat.le_refl _, h0, rfl⟩ ?_
  rintro n ⟨hn1, hn, hw⟩ K1 hK1
  refine gs (s_guard rfl rfl rfl (fun h => s_idxStr (.opt rfl (o1 h)) (.opt rfl (o1 h)) T9 rfl (by omega) (by have := lss_t h; omega) rfl)) ?_
  refine gcG (fun _ => (c_token_part (byteAt s n))) ?_
  refine gC (fun ht21 => ?_) (fun ht21 => ?_)
  ·have h2 : n < s.size ∧ partB (byteAt s n) = true := cond_lss ht21
   refine ga (i64_add1 (by unfold maxL; omega)) ?_
   exact gK1 hK1 (n + 1) ⟨by omega, by omega, by rw [hw, show s.size - n = (s.size - (n + 1)) + 1 by omega]; simp only [wordN, h2.2, if_true]⟩
  ·have h2 : n < s.size → partB (byteAt s n) = false := cond_nlss ht21
   have h3 : wordL s = n := by
    unfold wordL
    rw [if_pos ⟨h0, h1⟩, hw]
    rcases Nat.lt_or_ge n s.size with h | h
    ·rw [show s.size - n = (s.size - (n + 1)) + 1 by omega]
     simp only [wordN, h2 h, Bool.false_eq_true, if_false]
    ·rw [show s.size - n = 0 by omega]; rfl
   refine gE1 ?_
   rw [h3]
theorem c_token_Name (s : ByteArray) (hs : s.size ≤ 281474976710656) : FnC Tryz.prog 65 [.v (.string s)] (bl (nameB s)) := by
 refine gF0 Tryz.func65 ?_
 refine gc (c_token_word s hs) ?_
 refine gE1 ?_
 exact congrArg bl (name_cond s)
theorem c_r18_at (s : ByteArray) (i : Nat) : FnC Tryz.prog 175 [.v (.string s), i64 i] (u8 (byteAt s i)) := by
 refine gF0 Tryz.func175 ?_
 refine gC (fun ht8 => ?_) (fun ht8 => ?_)
 ·have h0 := lss_t ht8
  refine gs (s_idxStr (.tmp rfl) (.tmp rfl) T9 rfl (by omega) (by omega) rfl) ?_
  refine gE1 ?_
  rfl
 ·have h0 := lss_f ht8
  refine gE1 ?_
  rw [byte_out (by omega)]; rfl
theorem c_r18_wordEnd (s : ByteArray) (hs : s.size ≤ 281474976710656) : FnC Tryz.prog 117 [.v (.string s), i64 0] (i64 ((if letterB (byteAt s 0) then wordN s 0 s.size else 0 : Nat))) := by
 refine gF0 Tryz.func117 ?_
 refine gc (c_r18_at s 0) ?_
 refine gc (c_r18_isLetter (byteAt s 0)) ?_
 refine gC (fun ht9 => ?_) (fun ht9 => ?_)
 ·have h0 : letterB (byteAt s 0) = false := by simpa using ht9
  refine gE1 ?_
  rw [h0]; rfl
 ·have h0 : letterB (byteAt s 0) = true := by simpa using ht9
  refine gL1 [0] [] (fun (n : Nat) => [(1, some (i64 n))]) (fun _ => []) (fun n => n ≤ s.size ∧ wordN s 0 s.size = wordN s n (s.size - n)) (fun n => s.size - n) 0 ⟨Nat.zero_le _, rfl⟩ ?_
  rintro n ⟨hn, hw⟩ K1 hK1
  refine gc (c_r18_at s n) ?_
  refine gc (c_r18_isLetter (byteAt s n)) ?_
  refine gcG (fun _ => (c_r18_at s n)) ?_
  refine gcG (fun _ => (c_r18_isDigit (byteAt s n))) ?_
  refine gcG (fun _ => (c_r18_at s n)) ?_
  refine gC (fun ht26 => ?_) (fun ht26 => ?_)
  ·have h1 : partB (byteAt s n) = true := (part_1 _).symm.trans ht26
   have h2 : n < s.size := by
    rcases Nat.lt_or_ge n s.size with h | h
    ·exact h
    ·rw [byte_out h] at h1; cases h1
   refine ga (i64_add1 (by unfold maxL; omega)) ?_
   exact gK1 hK1 (n + 1) ⟨by omega, by rw [hw, show s.size - n = (s.size - (n + 1)) + 1 by omega]; simp only [wordN, h1, if_true]⟩
  ·have h1 : partB (byteAt s n) = false := (part_1 _).symm.trans ht26
   have h2 : wordN s 0 s.size = n := by
    rw [hw]
    rcases Nat.lt_or_ge n s.size with h | h
    ·rw [show s.size - n = (s.size - (n + 1)) + 1 by omega]
     simp only [wordN, h1, Bool.false_eq_true, if_false]
    ·rw [show s.size - n = 0 by omega]; rfl
   refine gE1 ?_
   rw [h0, h2]; rfl
theorem c_r18_Name (s : ByteArray) (hs : s.size ≤ 281474976710656) : FnC Tryz.prog 58 [.v (.string s)] (bl (nameB s)) := by
 refine gF0 Tryz.func58 ?_
 refine gcG (fun _ => (c_r18_wordEnd s hs)) ?_
 refine gE1 ?_
 exact congrArg bl (name_cond2 s)
end Go.Lw
namespace Go.Lw
open Go.Proofs
theorem c_model_in (i : Int) (n : Nat) : FnC Tryz.prog 127 [i64 i, i64 n] (bl (inB i n)) := by
 refine gF0 Tryz.func127 ?_
 refine gE1 ?_
 exact congrArg bl (inB_cond i n)
theorem c_model_bodies (bs : List Bd) (hbs : ∀ b ∈ bs, b.ok) (hl : bs.length ≤ 281474976710656) : FnC Tryz.prog 66 [.lst 2 (bs.map Bd.av)] (errA (firstN bs.length (bdE bs))) := by
 refine gF0 Tryz.func66 ?_
 refine gl ?_
 refine gL1 [0, 11, 12] [] (fun (i : Nat) => [(13, some (i64 i))]) (fun _ => []) (fun i => i ≤ bs.length ∧ ∀ j, j < i → bdE bs j = 0) (fun i => bs.length - i) 0 ⟨Nat.zero_le _, fun j h => by omega⟩ ?_
 rintro i ⟨hi, hj⟩ K1 hK1
 refine gC (fun ht14 => ?_) (fun ht14 => ?_)
 ·have hin := lss_t ht14
  obtain ⟨b, hb⟩ := getx hin
  have hbd : bs.getD i default = b := getD_of hb
  have hbo := hbs b (List.mem_of_getElem? hb)
  have hbdup := dup_names Bd.name hb
  refine gi (getmap hb) ?_
  refine gc (c_token_Name b.name hbo.name) ?_
  refine gC (fun ht21 => ?_) (fun ht21 => ?_)
  ·have h1 := not_t ht21
   have e1 : bdE bs i = 5 := by unfold bdE; rw [hbd, if_pos h1]
   refine gE1 ?_
   rw [firstN_at hin hj (by rw [e1]; decide), e1]; rfl
  ·have h1 := not_f ht21
   refine gs (s_sliceLst (.tmp rfl) (.none _) (.some _ (.tmp rfl) (by omega)) T22 rfl T89 rfl (by omega) (by simp only [List.length_map]; omega) rfl) ?_
   refine ge rfl ?_
   refine gL1 [0, 3, 4, 11, 12, 13] [4] (fun (k : Nat) => [(25, some (.lst 2 ((bs.take i).map Bd.av))), (26, some (i64 i)), (27, some (i64 k))]) (fun _ => []) (fun k => k ≤ i ∧ (bs.take k).any (fun y => eqS y.name b.name) = false) (fun k => i - k) 0 ⟨Nat.zero_le _, rfl⟩ ?_ (h1 := (.cons rfl (Sub.of (cutT 2 Bd.av bs i)) (.cons rfl (Sub.int (by simp; omega)) (.k .nil))))
   rintro k ⟨hk, hd⟩ K2 hK2
   refine gC (fun ht28 => ?_) (fun ht28 => ?_)
   ·have hkn := lss_t ht28
    obtain ⟨y, hy'⟩ : ∃ y, (bs.take i)[k]? = some y := getx (by simp; omega)
    have hy := (get_take hy').1
    refine gi (getmap hy') ?_
    refine gC (fun ht35 => ?_) (fun ht35 => ?_)
    ·have h2 : eqS y.name b.name = true := ht35
     have e1 : bdE bs i = 6 := by unfold bdE; rw [hbd, if_neg (by rw [h1]; decide), if_pos (by rw [hbdup]; exact any_hit hy hkn h2)]
     refine gE1 ?_
     rw [firstN_at hin hj (by rw [e1]; decide), e1]; rfl
    ·have h2 : eqS y.name b.name = false := ht35
     refine ga (i64_add1 (by unfold maxL; omega)) ?_
     exact gK1 hK2 (k + 1) ⟨hkn, any_step hy hd h2⟩
   ·have hkn := lss_end hk ht28
    subst hkn
    have hnd : ¬ dupB (bs.map Bd.name) k = true := by rw [hbdup, hd]; decide
    refine gl ?_
    refine gC (fun ht41 => ?_) (fun ht41 => ?_)
    ·have h3 : 8 < b.pts.length := gtr_t ht41
     have e1 : bdE bs k = 4 := by unfold bdE; rw [hbd, if_neg (by rw [h1]; decide), if_neg hnd, if_pos h3]
     refine gE1 ?_
     rw [firstN_at hin hj (by rw [e1]; decide), e1]; rfl
    ·have h3 : b.pts.length ≤ 8 := gtr_f ht41
     have e1 : bdE bs k = firstN b.pts.length (mkE b.pts) := by unfold bdE; rw [hbd, if_neg (by rw [h1]; decide), if_neg hnd, if_neg (by omega)]
     refine gl ?_
     refine gL1 [0, 4, 11, 12, 13, 44, 45] [4] (fun (p : Nat) => [(46, some (i64 p))]) (fun _ => []) (fun p => p ≤ b.pts.length ∧ ∀ j, j < p → mkE b.pts j = 0) (fun p => b.pts.length - p) 0 ⟨Nat.zero_le _, fun j h => by omega⟩ ?_
     rintro p ⟨hp, hpj⟩ K3 hK3
     refine gC (fun ht47 => ?_) (fun ht47 => ?_)
     ·have hpn := lss_t ht47
      obtain ⟨m, hm⟩ := getx hpn
      have hmd : b.pts.getD p default = m := getD_of hm
      have hmm := List.mem_of_getElem? hm
      have hmdup := dup_names Mk.name hm
      have hmo := hbo.pts m hmm
      refine gi (getmap hm) ?_
      refine gc (c_token_Name m.name (hbo.names m hmm)) ?_
      refine gC (fun ht54 => ?_) (fun ht54 => ?_)
      ·have h4 := not_t ht54
       have e2 : mkE b.pts p = 5 := by unfold mkE; rw [hmd, if_pos h4]
       have e3 : bdE bs k = 5 := by rw [e1, firstN_at hpn hpj (by rw [e2]; decide), e2]
       refine gE1 ?_
       rw [firstN_at hin hj (by rw [e3]; decide), e3]; rfl
      ·have h4 := not_f ht54
       refine gs (s_sliceLst (.tmp rfl) (.none _) (.some _ (.tmp rfl) (by omega)) T87 rfl T91 rfl (by omega) (by simp only [List.length_map]; omega) rfl) ?_
       refine ge rfl ?_
       refine gL1 [0, 4, 8, 11, 12, 13, 44, 45, 46] [4, 8] (fun (q : Nat) => [(59, some (.lst 7 ((b.pts.take p).map Mk.av))), (60, some (i64 p)), (61, some (i64 q))]) (fun _ => []) (fun q => q ≤ p ∧ (b.pts.take q).any (fun y => eqS y.name m.name) = false) (fun q => p - q) 0 ⟨Nat.zero_le _, rfl⟩ ?_ (h1 := (.cons rfl (Sub.of (cutT 7 Mk.av b.pts p)) (.cons rfl (Sub.int (by simp; omega)) (.k .nil))))
       rintro q ⟨hq, hqd⟩ K4 hK4
       refine gC (fun ht62 => ?_) (fun ht62 => ?_)
       ·have hqn := lss_t ht62
        obtain ⟨y, hy'⟩ : ∃ y, (b.pts.take p)[q]? = some y := getx (by simp; omega)
        have hy := (get_take hy').1
        refine gi (getmap hy') ?_
        refine gC (fun ht69 => ?_) (fun ht69 => ?_)
        ·have h5 : eqS y.name m.name = true := ht69
         have e2 : mkE b.pts p = 6 := by unfold mkE; rw [hmd, if_neg (by rw [h4]; decide), if_pos (by rw [hmdup]; exact any_hit hy hqn h5)]
         have e3 : bdE bs k = 6 := by rw [e1, firstN_at hpn hpj (by rw [e2]; decide), e2]
         refine gE1 ?_
         rw [firstN_at hin hj (by rw [e3]; decide), e3]; rfl
        ·have h5 : eqS y.name m.name = false := ht69
         refine ga (i64_add1 (by unfold maxL; omega)) ?_
         exact gK1 hK4 (q + 1) ⟨hqn, any_step hy hqd h5⟩
       ·have hqn := lss_end hq ht62
        subst hqn
        have hmnd : ¬ dupB (b.pts.map Mk.name) q = true := by rw [hmdup, hqd]; decide
        refine gc (c_fraction_Valid m.x hmo.x) ?_
        refine gcG (fun _ => (c_fraction_Valid m.y hmo.y)) ?_
        refine gC (fun ht81 => ?_) (fun ht81 => ?_)
        ·have h6 := or_t ht81
         have e2 : mkE b.pts q = 3 := by unfold mkE; rw [hmd, if_neg (by rw [h4]; decide), if_neg hmnd, if_neg (by rintro ⟨g1, g2⟩; rcases h6 with g | g; (rw [g1] at g; cases g); (rw [g2] at g; cases g))]
         have e3 : bdE bs k = 3 := by rw [e1, firstN_at hpn hpj (by rw [e2]; decide), e2]
         refine gE1 ?_
         rw [firstN_at hin hj (by rw [e3]; decide), e3]; rfl
        ·have h6 := or_f ht81
         have e2 : mkE b.pts q = 0 := by unfold mkE; rw [hmd, if_neg (by rw [h4]; decide), if_neg hmnd, if_pos h6]
         refine ga (i64_add1 (by unfold maxL; omega)) ?_
         exact gK1 hK3 (q + 1) ⟨hpn, fun j h9 => by rcases Nat.lt_or_ge j q with g | g; exact hpj j g; (have : j = q := by omega); subst this; exact e2⟩
     ·have hpn := lss_end hp ht47
      subst hpn
      have e2 : bdE bs k = 0 := e1.trans (firstN_all hpj)
      refine ga (i64_add1 (by unfold maxL; omega)) ?_
      exact gK1 hK1 (k + 1) ⟨hin, fun j h9 => by rcases Nat.lt_or_ge j k with g | g; exact hj j g; (have : j = k := by omega); subst this; exact e2⟩
 ·have hin := lss_end hi ht14
  subst hin
  refine gE1 ?_
  rw [firstN_all hj]; rfl
end Go.Lw
namespace Go.Lw
open Go.Proofs
theorem c_model_joint (l : Li) (hl : l.ok) (j : Jt) : FnC Tryz.prog 126 [l.av, j.av] (errA (jt0 l j)) := by
 refine gF0 Tryz.func126 ?_
 refine gC (fun ht15 => ?_) (fun ht15 => ?_)
 ·have h1 := kind_t ht15
  refine gE1 ?_
  unfold jt0; rw [if_pos h1]; rfl
 ·have h1 := kind_f ht15
  refine gl ?_
  refine gc (c_model_in j.a l.bodies.length) ?_
  refine glG ?_
  refine gcG (fun _ => (c_model_in j.b l.bodies.length)) ?_
  refine gC (fun ht32 => ?_) (fun ht32 => ?_)
  ·have h2 := or_t ht32
   refine gE1 ?_
   unfold jt0; rw [if_neg h1, if_pos h2]; rfl
  ·have h2 := or_f ht32
   have h2n : ¬ (inB j.a l.bodies.length = false ∨ inB j.b l.bodies.length = false) := by rw [h2.1, h2.2]; simp
   obtain ⟨A, hA, pA, mA, zA0⟩ := bodyAt h2.1
   obtain ⟨B, hB, pB, mB, zB0⟩ := bodyAt h2.2
   refine gC (fun ht38 => ?_) (fun ht38 => ?_)
   ·have h3 := eql_t ht38
    refine gE1 ?_
    unfold jt0; rw [if_neg h1, if_neg h2n, if_pos h3]; rfl
   ·have h3 := eql_f ht38
    refine gi (getmap hB) ?_
    refine gi (getmap hA) ?_
    refine gl ?_
    refine gc (c_model_in j.point A.pts.length) ?_
    refine glG ?_
    refine gcG (fun _ => (c_model_in j.on B.pts.length)) ?_
    refine gD ?_
    refine gC (fun ht66 => ?_) (fun ht66 => ?_)
    ·have h4 := or_t ht66
     refine gE1 ?_
     unfold jt0; rw [if_neg h1, if_neg h2n, if_neg h3, pA, pB, if_pos h4]; rfl
    ·have h4 := or_f ht66
     have h4n : ¬ (inB j.point A.pts.length = false ∨ inB j.on B.pts.length = false) := by rw [h4.1, h4.2]; simp
     refine gC (fun ht70 => ?_) (fun ht70 => ?_)
     ·have h5 := eql_t ht70
      refine gC (fun ht73 => ?_) (fun ht73 => ?_)
      ·have h6 := neq_t' ht73
       refine gE1 ?_
       unfold jt0; rw [if_neg h1, if_neg h2n, if_neg h3, pA, pB, if_neg h4n, if_pos h5, if_pos h6]; rfl
      ·have h6 := neq_f' ht73
       refine gE1 ?_
       unfold jt0; rw [if_neg h1, if_neg h2n, if_neg h3, pA, pB, if_neg h4n, if_pos h5, if_neg (by rw [h6]; simp)]; rfl
     ·have h5 := eql_f ht70
      refine gl ?_
      refine gc (c_model_in j.to B.pts.length) ?_
      refine gC (fun ht80 => ?_) (fun ht80 => ?_)
      ·have h6 := not_t ht80
       refine gE1 ?_
       unfold jt0; rw [if_neg h1, if_neg h2n, if_neg h3, pA, pB, if_neg h4n, if_neg h5, if_pos h6]; rfl
      ·have h6 := not_f ht80
       obtain ⟨m1, g1, d1, mm1, z1⟩ := markAt h4.2
       obtain ⟨m2, g2, d2, mm2, z2⟩ := markAt h6
       have mo1 := (hl.bodies B mB).pts m1 mm1
       have mo2 := (hl.bodies B mB).pts m2 mm2
       refine gi (getmap g1) ?_
       refine gi (getmap g2) ?_
       refine gD ?_
       refine gc (c_fraction_Cmp m1.x m2.x mo1.x mo2.x) ?_
       refine gcG (fun _ => (c_fraction_Cmp m1.y m2.y mo1.y mo2.y)) ?_
       refine gC (fun ht105 => ?_) (fun ht105 => ?_)
       ·have h7 := both_t ht105
        refine gE1 ?_
        unfold jt0; rw [if_neg h1, if_neg h2n, if_neg h3, pA, pB, if_neg h4n, if_neg h5, if_neg (by rw [h6]; decide), d1, d2, if_pos h7]; rfl
       ·have h7 := both_f ht105
        refine gE1 ?_
        unfold jt0; rw [if_neg h1, if_neg h2n, if_neg h3, pA, pB, if_neg h4n, if_neg h5, if_neg (by rw [h6]; decide), d1, d2, if_neg h7]; rfl
theorem c_model_joints (l : Li) (hl : l.ok) : FnC Tryz.prog 67 [l.av] (errA (jtsE l)) := by
 have hlj := hl.lj
 refine gF0 Tryz.func67 ?_
 refine gl ?_
 refine gC (fun ht11 => ?_) (fun ht11 => ?_)
 ·have h0 : 16 < l.joints.length := gtr_t ht11
  refine gE1 ?_
  unfold jtsE; rw [if_pos h0]; rfl
 ·have h0 : l.joints.length ≤ 16 := gtr_f ht11
  have e0 : jtsE l = firstN l.joints.length (jtE l) := by unfold jtsE; rw [if_neg (by omega)]
  refine gl ?_
  refine gL1 [1, 14, 15] [1] (fun (i : Nat) => [(16, some (i64 i))]) (fun _ => []) (fun i => i ≤ l.joints.length ∧ ∀ j, j < i → jtE l j = 0) (fun i => l.joints.length - i) 0 ⟨Nat.zero_le _, fun j h => by omega⟩ ?_
  rintro i ⟨hi, hj⟩ K1 hK1
  refine gC (fun ht17 => ?_) (fun ht17 => ?_)
  ·have hin := lss_t ht17
   obtain ⟨b, hb⟩ := getx hin
   have hbd : l.joints.getD i default = b := getD_of hb
   have hbdup := dup_names Jt.name hb
   refine gi (getmap hb) ?_
   refine gc (c_token_Name b.name (hl.jnames b (List.mem_of_getElem? hb))) ?_
   refine gC (fun ht24 => ?_) (fun ht24 => ?_)
   ·have h1 := not_t ht24
    have e1 : jtE l i = 5 := by unfold jtE; rw [hbd, if_pos h1]
    refine gE1 ?_
    rw [e0, firstN_at hin hj (by rw [e1]; decide), e1]; rfl
   ·have h1 := not_f ht24
    refine gs (s_sliceLst (.tmp rfl) (.none _) (.some _ (.tmp rfl) (by omega)) T23 rfl T76 rfl (by omega) (by simp only [List.length_map]; omega) rfl) ?_
    refine ge rfl ?_
    refine gL1 [1, 3, 4, 14, 15, 16] [1, 4] (fun (k : Nat) => [(29, some (.lst 7 ((l.joints.take i).map Jt.av))), (30, some (i64 i)), (31, some (i64 k))]) (fun _ => []) (fun k => k ≤ i ∧ (l.joints.take k).any (fun y => eqS y.name b.name) = false) (fun k => i - k) 0 ⟨Nat.zero_le _, rfl⟩ ?_ (h1 := (.cons rfl (Sub.of (cutT 7 Jt.av l.joints i)) (.cons rfl (Sub.int (by simp; omega)) (.k .nil))))
    rintro k ⟨hk, hd⟩ K2 hK2
    refine gC (fun ht32 => ?_) (fun ht32 => ?_)
    ·have hkn := lss_t ht32
     obtain ⟨y, hy'⟩ : ∃ y, (l.joints.take i)[k]? = some y := getx (by simp; omega)
     have hy := (get_take hy').1
     refine gi (getmap hy') ?_
     refine gC (fun ht39 => ?_) (fun ht39 => ?_)
     ·have h2 : eqS y.name b.name = true := ht39
      have e1 : jtE l i = 6 := by unfold jtE; rw [hbd, if_neg (by rw [h1]; decide), if_pos (by rw [hbdup]; exact any_hit hy hkn h2)]
      refine gE1 ?_
      rw [e0, firstN_at hin hj (by rw [e1]; decide), e1]; rfl
     ·have h2 : eqS y.name b.name = false := ht39
      refine ga (i64_add1 (by unfold maxL; omega)) ?_
      exact gK1 hK2 (k + 1) ⟨hkn, any_step hy hd h2⟩
    ·have hkn := lss_end hk ht32
     subst hkn
     have hnd : ¬ dupB (l.joints.map Jt.name) k = true := by rw [hbdup, hd]; decide
     have e1 : jtE l k = jt0 l b := by unfold jtE; rw [hbd, if_neg (by rw [h1]; decide), if_neg hnd]
     refine gc (c_model_joint l hl b) ?_
     refine gC (fun ht46 => ?_) (fun ht46 => ?_)
     ·have h3 := nNil_t ht46
      refine gE1 ?_
      rw [e0, firstN_at hin hj (by rw [e1]; exact h3), e1]
     ·have h3 := nNil_f ht46
      refine ga (i64_add1 (by unfold maxL; omega)) ?_
      exact gK1 hK1 (k + 1) ⟨hin, fun j h9 => by rcases Nat.lt_or_ge j k with g | g; exact hj j g; (have : j = k := by omega); subst this; exact e1.trans h3⟩
  ·have hin := lss_end hi ht17
   subst hin
   refine gE1 ?_
   rw [e0, firstN_all hj]; rfl
theorem c_model_drivers (l : Li) (hl : l.ok) : FnC Tryz.prog 68 [l.av] (errA (drsE l)) := by
 have hld := hl.ld
 refine gF0 Tryz.func68 ?_
 refine gl ?_
 refine gC (fun ht12 => ?_) (fun ht12 => ?_)
 ·have h0 : 2 < l.drivers.length := gtr_t ht12
  refine gE1 ?_
  unfold drsE; rw [if_pos h0]; rfl
 ·have h0 : l.drivers.length ≤ 2 := gtr_f ht12
  have e0 : drsE l = firstN l.drivers.length (drE l) := by unfold drsE; rw [if_neg (by omega)]
  refine gl ?_
  refine gL1 [1, 15, 16] [1] (fun (i : Nat) => [(17, some (i64 i))]) (fun _ => []) (fun i => i ≤ l.drivers.length ∧ ∀ j, j < i → drE l j = 0) (fun i => l.drivers.length - i) 0 ⟨Nat.zero_le _, fun j h => by omega⟩ ?_
  rintro i ⟨hi, hj⟩ K1 hK1
  refine gC (fun ht18 => ?_) (fun ht18 => ?_)
  ·have hin := lss_t ht18
   obtain ⟨b, hb⟩ := getx hin
   have hbd : l.drivers.getD i default = b := getD_of hb
   have hbdup := dup_names Dr.name hb
   refine gi (getmap hb) ?_
   refine gc (c_token_Name b.name (hl.dnames b (List.mem_of_getElem? hb))) ?_
   refine gC (fun ht25 => ?_) (fun ht25 => ?_)
   ·have h1 := not_t ht25
    have e1 : drE l i = 5 := by unfold drE; rw [hbd, if_pos h1]
    refine gE1 ?_
    rw [e0, firstN_at hin hj (by rw [e1]; decide), e1]; rfl
   ·have h1 := not_f ht25
    refine gs (s_sliceLst (.tmp rfl) (.none _) (.some _ (.tmp rfl) (by omega)) T24 rfl T105 rfl (by omega) (by simp only [List.length_map]; omega) rfl) ?_
    refine ge rfl ?_
    refine gL1 [1, 3, 4, 15, 16, 17] [1, 4] (fun (k : Nat) => [(30, some (.lst 2 ((l.drivers.take i).map Dr.av))), (31, some (i64 i)), (32, some (i64 k))]) (fun _ => []) (fun k => k ≤ i ∧ (l.drivers.take k).any (fun y => eqS y.name b.name) = false) (fun k => i - k) 0 ⟨Nat.zero_le _, rfl⟩ ?_ (h1 := (.cons rfl (Sub.of (cutT 2 Dr.av l.drivers i)) (.cons rfl (Sub.int (by simp; omega)) (.k .nil))))
    rintro k ⟨hk, hd⟩ K2 hK2
    refine gC (fun ht33 => ?_) (fun ht33 => ?_)
    ·have hkn := lss_t ht33
     obtain ⟨y, hy'⟩ : ∃ y, (l.drivers.take i)[k]? = some y := getx (by simp; omega)
     have hy := (get_take hy').1
     refine gi (getmap hy') ?_
     refine gC (fun ht40 => ?_) (fun ht40 => ?_)
     ·have h2 : eqS y.name b.name = true := ht40
      have e1 : drE l i = 6 := by unfold drE; rw [hbd, if_neg (by rw [h1]; decide), if_pos (by rw [hbdup]; exact any_hit hy hkn h2)]
      refine gE1 ?_
      rw [e0, firstN_at hin hj (by rw [e1]; decide), e1]; rfl
     ·have h2 : eqS y.name b.name = false := ht40
      refine ga (i64_add1 (by unfold maxL; omega)) ?_
      exact gK1 hK2 (k + 1) ⟨hkn, any_step hy hd h2⟩
    ·have hkn := lss_end hk ht33
     subst hkn
     have hnd : ¬ dupB (l.drivers.map Dr.name) k = true := by rw [hbdup, hd]; decide
     refine gl ?_
     refine gc (c_model_in b.body l.bodies.length) ?_
     refine gC (fun ht49 => ?_) (fun ht49 => ?_)
     ·have h3 := not_t ht49
      have e1 : drE l k = 9 := by unfold drE; rw [hbd, if_neg (by rw [h1]; decide), if_neg hnd, if_pos h3]
      refine gE1 ?_
      rw [e0, firstN_at hin hj (by rw [e1]; decide), e1]; rfl
     ·have h3 := not_f ht49
      refine gC (fun ht53 => ?_) (fun ht53 => ?_)
      ·have h4 := eql_t ht53
       have e1 : drE l k = 7 := by unfold drE; rw [hbd, if_neg (by rw [h1]; decide), if_neg hnd, if_neg (by rw [h3]; decide), if_pos h4]
       refine gE1 ?_
       rw [e0, firstN_at hin hj (by rw [e1]; decide), e1]; rfl
      ·have h4 := eql_f ht53
       have e1 : drE l k = if (l.drivers.take k).any (fun d => decide (d.body = b.body)) = true then 6 else 0 := by unfold drE; rw [hbd, if_neg (by rw [h1]; decide), if_neg hnd, if_neg (by rw [h3]; decide), if_neg h4]
       refine gs (s_sliceLst (.tmp rfl) (.none _) (.some _ (.tmp rfl) (by omega)) T24 rfl T105 rfl (by omega) (by simp only [List.length_map]; omega) rfl) ?_
       refine ge rfl ?_
       refine gL1 [1, 4, 15, 16, 17] [1, 4] (fun (q : Nat) => [(58, some (.lst 2 ((l.drivers.take k).map Dr.av))), (59, some (i64 k)), (60, some (i64 q))]) (fun _ => []) (fun q => q ≤ k ∧ (l.drivers.take q).any (fun d => decide (d.body = b.body)) = false) (fun q => k - q) 0 ⟨Nat.zero_le _, rfl⟩ ?_ (h1 := (.cons rfl (Sub.of (cutT 2 Dr.av l.drivers k)) (.cons rfl (Sub.int (by simp; omega)) (.k .nil))))
       rintro q ⟨hq, hqd⟩ K3 hK3
       refine gC (fun ht61 => ?_) (fun ht61 => ?_)
       ·have hqn := lss_t ht61
        obtain ⟨y, hy'⟩ : ∃ y, (l.drivers.take k)[q]? = some y := getx (by simp; omega)
        have hy := (get_take hy').1
        refine gi (getmap hy') ?_
        refine gC (fun ht68 => ?_) (fun ht68 => ?_)
        ·have h5 : decide (y.body = b.body) = true := decide_eq_true (eql_t ht68)
         have e2 : drE l k = 6 := by rw [e1, if_pos (any_hit hy hqn h5)]
         refine gE1 ?_
         rw [e0, firstN_at hin hj (by rw [e2]; decide), e2]; rfl
        ·have h5 : decide (y.body = b.body) = false := decide_eq_false (eql_f ht68)
         refine ga (i64_add1 (by unfold maxL; omega)) ?_
         exact gK1 hK3 (q + 1) ⟨hqn, any_step hy hqd h5⟩
       ·have hqn := lss_end hq ht61
        subst hqn
        have e2 : drE l q = 0 := by rw [e1, hqd]; rfl
        refine ga (i64_add1 (by unfold maxL; omega)) ?_
        exact gK1 hK1 (q + 1) ⟨hin, fun j h9 => by rcases Nat.lt_or_ge j q with g | g; exact hj j g; (have : j = q := by omega); subst this; exact e2⟩
  ·have hin := lss_end hi ht18
   subst hin
   refine gE1 ?_
   rw [e0, firstN_all hj]; rfl
theorem c_model_Check (l : Li) (hl : l.ok) : FnC Tryz.prog 33 [l.av] (errA (liE l)) := by
 have hlb := hl.lb
 refine gF0 Tryz.func33 ?_
 refine gc (c_token_Name l.name hl.name) ?_
 refine gC (fun ht8 => ?_) (fun ht8 => ?_)
 ·have h1 := not_t ht8
  refine gE1 ?_
  unfold liE; rw [if_pos h1]; rfl
 ·have h1 := not_f ht8
  refine gl ?_
  refine gC (fun ht13 => ?_) (fun ht13 => ?_)
  ·have h2 := eql0_t ht13
   refine gE1 ?_
   unfold liE; rw [if_neg (by rw [h1]; decide), if_pos h2]; rfl
  ·have h2 := eql0_f ht13
   refine gl ?_
   refine gC (fun ht18 => ?_) (fun ht18 => ?_)
   ·have h3 : 8 < l.bodies.length := gtr_t ht18
    refine gE1 ?_
    unfold liE; rw [if_neg (by rw [h1]; decide), if_neg h2, if_pos h3]; rfl
   ·have h3 : l.bodies.length ≤ 8 := gtr_f ht18
    have e0 : liE l = if bdsE l ≠ 0 then bdsE l else if jtsE l ≠ 0 then jtsE l else drsE l := by unfold liE; rw [if_neg (by rw [h1]; decide), if_neg h2, if_neg (by omega)]
    refine gc (c_model_bodies l.bodies hl.bodies hlb) ?_
    refine gC (fun ht24 => ?_) (fun ht24 => ?_)
    ·have h4 : bdsE l ≠ 0 := nNil_t ht24
     refine gE1 ?_
     rw [e0, if_pos h4]; rfl
    ·have h4 : bdsE l = 0 := nNil_f ht24
     refine gc (c_model_joints l hl) ?_
     refine gC (fun ht29 => ?_) (fun ht29 => ?_)
     ·have h5 := nNil_t ht29
      refine gE1 ?_
      rw [e0, if_neg (by rw [h4]; simp), if_pos h5]
     ·have h5 := nNil_f ht29
      refine gc (c_model_drivers l hl) ?_
      refine gE1 ?_
      rw [e0, if_neg (by rw [h4]; simp), if_neg (by rw [h5]; simp)]
end Go.Lw
namespace Go.Lw
open Go.Proofs
theorem c_r19_index (i : Int) (n : Nat) : FnC Tryz.prog 119 [i64 i, i64 n] (bl (inB i n)) := by
 refine gF0 Tryz.func119 ?_
 refine gE1 ?_
 exact congrArg bl (inB_cond i n)
theorem c_r19_same (p q : Mk) (hp : p.ok) (hq : q.ok) : FnC Tryz.prog 120 [p.av, q.av] (bl (decide (p.x.q = q.x.q ∧ p.y.q = q.y.q))) := by
 refine gF0 Tryz.func120 ?_
 refine gc (c_r02_Cmp p.x q.x hp.x hq.x ((hp.qx.sub hq.qx).qs (by omega))) ?_
 refine gcG (fun _ => (c_r02_Cmp p.y q.y hp.y hq.y ((hp.qy.sub hq.qy).qs (by omega)))) ?_
 refine gE1 ?_
 exact congrArg bl both_dec
theorem c_r19_points (b : Bd) (hbo : b.ok) : FnC Tryz.prog 118 [b.av] (i64 (if 8 < b.pts.length then 4 else firstN b.pts.length (mkE b.pts) : Nat)) := by
 have hll := hbo.ll
 refine gF0 Tryz.func118 ?_
 refine gl ?_
 refine gC (fun ht9 => ?_) (fun ht9 => ?_)
 ·have h0 : 8 < b.pts.length := gtr_t ht9
  refine gE1 ?_
  rw [if_pos h0]; rfl
 ·have h0 : b.pts.length ≤ 8 := gtr_f ht9
  have e0 : (if 8 < b.pts.length then 4 else firstN b.pts.length (mkE b.pts) : Nat) = firstN b.pts.length (mkE b.pts) := if_neg (by omega)
  refine gL1 [1] [1] (fun (p : Nat) => [(3, some (i64 p))]) (fun _ => []) (fun p => p ≤ b.pts.length ∧ ∀ j, j < p → mkE b.pts j = 0) (fun p => b.pts.length - p) 0 ⟨Nat.zero_le _, fun j h => by omega⟩ ?_
  rintro p ⟨hp, hpj⟩ K1 hK1
  refine gl ?_
  refine gC (fun ht14 => ?_) (fun ht14 => ?_)
  ·have hpn := lss_t ht14
   obtain ⟨m, hm⟩ := getx hpn
   have hmd : b.pts.getD p default = m := getD_of hm
   have hmm := List.mem_of_getElem? hm
   have hmdup := dup_names Mk.name hm
   have hmo := hbo.pts m hmm
   refine gi (getmap hm) ?_
   refine gc (c_r18_Name m.name (hbo.names m hmm)) ?_
   refine gC (fun ht25 => ?_) (fun ht25 => ?_)
   ·have h4 := not_t ht25
    have e2 : mkE b.pts p = 5 := by unfold mkE; rw [hmd, if_pos h4]
    refine gE1 ?_
    rw [e0, firstN_at hpn hpj (by rw [e2]; decide), e2]; rfl
   ·have h4 := not_f ht25
    refine gL1 [1, 3, 4] [1, 4] (fun (q : Nat) => [(5, some (i64 q))]) (fun _ => []) (fun q => q ≤ p ∧ (b.pts.take q).any (fun y => eqS y.name m.name) = false) (fun q => p - q) 0 ⟨Nat.zero_le _, rfl⟩ ?_
    rintro q ⟨hq, hqd⟩ K2 hK2
    refine gC (fun ht28 => ?_) (fun ht28 => ?_)
    ·have hqn := lss_t ht28
     obtain ⟨y, hy⟩ : ∃ y, b.pts[q]? = some y := getx (by omega)
     refine gi (getmap hy) ?_
     refine gD ?_
     refine gC (fun ht39 => ?_) (fun ht39 => ?_)
     ·have h5 : eqS y.name m.name = true := ht39
      have e2 : mkE b.pts p = 6 := by unfold mkE; rw [hmd, if_neg (by rw [h4]; decide), if_pos (by rw [hmdup]; exact any_hit hy hqn h5)]
      refine gE1 ?_
      rw [e0, firstN_at hpn hpj (by rw [e2]; decide), e2]; rfl
     ·have h5 : eqS y.name m.name = false := ht39
      refine ga (i64_add1 (by unfold maxL; omega)) ?_
      exact gK1 hK2 (q + 1) ⟨hqn, any_step hy hqd h5⟩
    ·have hqn := lss_end hq ht28
     subst hqn
     have hmnd : ¬ dupB (b.pts.map Mk.name) q = true := by rw [hmdup, hqd]; decide
     refine gc (c_r02_Valid m.x hmo.x) ?_
     refine gcG (fun _ => (c_r02_Valid m.y hmo.y)) ?_
     refine gC (fun ht49 => ?_) (fun ht49 => ?_)
     ·have h6 := or_t ht49
      have e2 : mkE b.pts q = 3 := by unfold mkE; rw [hmd, if_neg (by rw [h4]; decide), if_neg hmnd, if_neg (by rintro ⟨g1, g2⟩; rcases h6 with g | g; (rw [g1] at g; cases g); (rw [g2] at g; cases g))]
      refine gE1 ?_
      rw [e0, firstN_at hpn hpj (by rw [e2]; decide), e2]; rfl
     ·have h6 := or_f ht49
      have e2 : mkE b.pts q = 0 := by unfold mkE; rw [hmd, if_neg (by rw [h4]; decide), if_neg hmnd, if_pos h6]
      refine ga (i64_add1 (by unfold maxL; omega)) ?_
      exact gK1 hK1 (q + 1) ⟨hpn, fun j h9 => by rcases Nat.lt_or_ge j q with g | g; exact hpj j g; (have : j = q := by omega); subst this; exact e2⟩
  ·have hpn := lss_end hp ht14
   subst hpn
   refine gE1 ?_
   rw [e0, firstN_all hpj]; rfl
theorem c_r19_bodies (l : Li) (hl : l.ok) : FnC Tryz.prog 59 [l.av] (i64 (bdsE l)) := by
 have hlb := hl.lb
 have e0 : bdsE l = firstN l.bodies.length (bdE l.bodies) := rfl
 refine gF0 Tryz.func59 ?_
 refine gL1 [1] [1] (fun (i : Nat) => [(3, some (i64 i))]) (fun _ => []) (fun i => i ≤ l.bodies.length ∧ ∀ j, j < i → bdE l.bodies j = 0) (fun i => l.bodies.length - i) 0 ⟨Nat.zero_le _, fun j h => by omega⟩ ?_
 rintro i ⟨hi, hj⟩ K1 hK1
 refine gl ?_
 refine gC (fun ht10 => ?_) (fun ht10 => ?_)
 ·have hin := lss_t ht10
  obtain ⟨b, hb⟩ := getx hin
  have hbd : l.bodies.getD i default = b := getD_of hb
  have hbo := hl.bodies b (List.mem_of_getElem? hb)
  have hbdup := dup_names Bd.name hb
  refine gi (getmap hb) ?_
  refine gc (c_r18_Name b.name hbo.name) ?_
  refine gC (fun ht20 => ?_) (fun ht20 => ?_)
  ·have h1 := not_t ht20
   have e1 : bdE l.bodies i = 5 := by unfold bdE; rw [hbd, if_pos h1]
   refine gE1 ?_
   rw [e0, firstN_at hin hj (by rw [e1]; decide), e1]; rfl
  ·have h1 := not_f ht20
   refine gL1 [1, 3] [1] (fun (k : Nat) => [(4, some (i64 k))]) (fun _ => []) (fun k => k ≤ i ∧ (l.bodies.take k).any (fun y => eqS y.name b.name) = false) (fun k => i - k) 0 ⟨Nat.zero_le _, rfl⟩ ?_
   rintro k ⟨hk, hd⟩ K2 hK2
   refine gC (fun ht23 => ?_) (fun ht23 => ?_)
   ·have hkn := lss_t ht23
    obtain ⟨y, hy⟩ : ∃ y, l.bodies[k]? = some y := getx (by omega)
    refine gi (getmap hy) ?_
    refine gi (getmap hb) ?_
    refine gD ?_
    refine gC (fun ht38 => ?_) (fun ht38 => ?_)
    ·have h2 : eqS y.name b.name = true := ht38
     have e1 : bdE l.bodies i = 6 := by unfold bdE; rw [hbd, if_neg (by rw [h1]; decide), if_pos (by rw [hbdup]; exact any_hit hy hkn h2)]
     refine gE1 ?_
     rw [e0, firstN_at hin hj (by rw [e1]; decide), e1]; rfl
    ·have h2 : eqS y.name b.name = false := ht38
     refine ga (i64_add1 (by unfold maxL; omega)) ?_
     exact gK1 hK2 (k + 1) ⟨hkn, any_step hy hd h2⟩
   ·have hkn := lss_end hk ht23
    subst hkn
    have hnd : ¬ dupB (l.bodies.map Bd.name) k = true := by rw [hbdup, hd]; decide
    have e1 : bdE l.bodies k = if 8 < b.pts.length then 4 else firstN b.pts.length (mkE b.pts) := by unfold bdE; rw [hbd, if_neg (by rw [h1]; decide), if_neg hnd]
    refine gi (getmap hb) ?_
    refine gc (c_r19_points b hbo) ?_
    refine gC (fun ht46 => ?_) (fun ht46 => ?_)
    ·have h3 := neq_t ht46
     refine gE1 ?_
     rw [e0, firstN_at hin hj (by rw [e1]; exact h3), e1]
    ·have h3 := neq_f ht46
     refine ga (i64_add1 (by unfold maxL; omega)) ?_
     exact gK1 hK1 (k + 1) ⟨hin, fun j h9 => by rcases Nat.lt_or_ge j k with g | g; exact hj j g; (have : j = k := by omega); subst this; exact e1.trans h3⟩
 ·have hin := lss_end hi ht10
  subst hin
  refine gE1 ?_
  rw [e0, firstN_all hj]; rfl
theorem c_r19_joint (l : Li) (hl : l.ok) (i : Nat) (hi : i < l.joints.length) (h16 : l.joints.length ≤ 16) : FnC Tryz.prog 60 [l.av, i64 i] (i64 (jtE l i)) := by
 obtain ⟨j, hjj⟩ := getx hi
 have hbd : l.joints.getD i default = j := getD_of hjj
 have hbdup := dup_names Jt.name hjj
 refine gF0 Tryz.func60 ?_
 refine gi (getmap hjj) ?_
 refine gc (c_r18_Name j.name (hl.jnames j (List.mem_of_getElem? hjj))) ?_
 refine gC (fun ht17 => ?_) (fun ht17 => ?_)
 ·have h0 := not_t ht17
  refine gE1 ?_
  unfold jtE; rw [hbd, if_pos h0]; rfl
 ·have h0 := not_f ht17
  refine gL1 [1, 2, 5] [2, 5] (fun (k : Nat) => [(6, some (i64 k))]) (fun _ => []) (fun k => k ≤ i ∧ (l.joints.take k).any (fun y => eqS y.name j.name) = false) (fun k => i - k) 0 ⟨Nat.zero_le _, rfl⟩ ?_
  rintro k ⟨hk, hd⟩ K1 hK1
  refine gC (fun ht20 => ?_) (fun ht20 => ?_)
  ·have hkn := lss_t ht20
   obtain ⟨y, hy⟩ : ∃ y, l.joints[k]? = some y := getx (by omega)
   refine gi (getmap hy) ?_
   refine gD ?_
   refine gC (fun ht31 => ?_) (fun ht31 => ?_)
   ·have h2 : eqS y.name j.name = true := ht31
    refine gE1 ?_
    unfold jtE; rw [hbd, if_neg (by rw [h0]; decide), if_pos (by rw [hbdup]; exact any_hit hy hkn h2)]; rfl
   ·have h2 : eqS y.name j.name = false := ht31
    refine ga (i64_add1 (by unfold maxL; omega)) ?_
    exact gK1 hK1 (k + 1) ⟨hkn, any_step hy hd h2⟩
  ·have hkn := lss_end hk ht20
   subst hkn
   have hnd : ¬ dupB (l.joints.map Jt.name) k = true := by rw [hbdup, hd]; decide
   have e1 : jtE l k = jt0 l j := by unfold jtE; rw [hbd, if_neg (by rw [h0]; decide), if_neg hnd]
   refine gC (fun ht39 => ?_) (fun ht39 => ?_)
   ·have h1 := kind_t ht39
    refine gE1 ?_
    rw [e1]; unfold jt0; rw [if_pos h1]; rfl
   ·have h1 := kind_f ht39
    refine gl ?_
    refine gc (c_r19_index j.a l.bodies.length) ?_
    refine glG ?_
    refine gcG (fun _ => (c_r19_index j.b l.bodies.length)) ?_
    refine gC (fun ht55 => ?_) (fun ht55 => ?_)
    ·have h2 := or_t ht55
     refine gE1 ?_
     rw [e1]; unfold jt0; rw [if_neg h1, if_pos h2]; rfl
    ·have h2 := or_f ht55
     have h2n : ¬ (inB j.a l.bodies.length = false ∨ inB j.b l.bodies.length = false) := by rw [h2.1, h2.2]; simp
     obtain ⟨A, hA, pA, mA, zA0⟩ := bodyAt h2.1
     obtain ⟨B, hB, pB, mB, zB0⟩ := bodyAt h2.2
     refine gC (fun ht60 => ?_) (fun ht60 => ?_)
     ·have h3 := eql_t ht60
      refine gE1 ?_
      rw [e1]; unfold jt0; rw [if_neg h1, if_neg h2n, if_pos h3]; rfl
     ·have h3 := eql_f ht60
      refine gi (getmap hA) ?_
      refine gi (getmap hB) ?_
      refine gD ?_
      refine gl ?_
      refine gc (c_r19_index j.point A.pts.length) ?_
      refine glG ?_
      refine gcG (fun _ => (c_r19_index j.on B.pts.length)) ?_
      refine gC (fun ht88 => ?_) (fun ht88 => ?_)
      ·have h4 := or_t ht88
       refine gE1 ?_
       rw [e1]; unfold jt0; rw [if_neg h1, if_neg h2n, if_neg h3, pA, pB, if_pos h4]; rfl
      ·have h4 := or_f ht88
       have h4n : ¬ (inB j.point A.pts.length = false ∨ inB j.on B.pts.length = false) := by rw [h4.1, h4.2]; simp
       refine gC (fun ht91 => ?_) (fun ht91 => ?_)
       ·have h5 := eql_t ht91
        refine gC (fun ht94 => ?_) (fun ht94 => ?_)
        ·have h6 := neq_t' ht94
         refine gE1 ?_
         rw [e1]; unfold jt0; rw [if_neg h1, if_neg h2n, if_neg h3, pA, pB, if_neg h4n, if_pos h5, if_pos h6]; rfl
        ·have h6 := neq_f' ht94
         refine gE1 ?_
         rw [e1]; unfold jt0; rw [if_neg h1, if_neg h2n, if_neg h3, pA, pB, if_neg h4n, if_pos h5, if_neg (by rw [h6]; simp)]; rfl
       ·have h5 := eql_f ht91
        refine gl ?_
        refine gc (c_r19_index j.to B.pts.length) ?_
        refine gC (fun ht100 => ?_) (fun ht100 => ?_)
        ·have h6 := not_t ht100
         refine gE1 ?_
         rw [e1]; unfold jt0; rw [if_neg h1, if_neg h2n, if_neg h3, pA, pB, if_neg h4n, if_neg h5, if_pos h6]; rfl
        ·have h6 := not_f ht100
         obtain ⟨m1, g1, d1, mm1, z1⟩ := markAt h4.2
         obtain ⟨m2, g2, d2, mm2, z2⟩ := markAt h6
         have mo1 := (hl.bodies B mB).pts m1 mm1
         have mo2 := (hl.bodies B mB).pts m2 mm2
         refine gi (getmap g1) ?_
         refine gi (getmap g2) ?_
         refine gc (c_r19_same m1 m2 mo1 mo2) ?_
         refine gD ?_
         refine gC (fun ht111 => ?_) (fun ht111 => ?_)
         ·have h7 := of_decide_eq_true ht111
          refine gE1 ?_
          rw [e1]; unfold jt0; rw [if_neg h1, if_neg h2n, if_neg h3, pA, pB, if_neg h4n, if_neg h5, if_neg (by rw [h6]; decide), d1, d2, if_pos h7]; rfl
         ·have h7 := of_decide_eq_false ht111
          refine gE1 ?_
          rw [e1]; unfold jt0; rw [if_neg h1, if_neg h2n, if_neg h3, pA, pB, if_neg h4n, if_neg h5, if_neg (by rw [h6]; decide), d1, d2, if_neg h7]; rfl
theorem c_r19_driver (l : Li) (hl : l.ok) (i : Nat) (hi : i < l.drivers.length) (h2l : l.drivers.length ≤ 2) : FnC Tryz.prog 61 [l.av, i64 i] (i64 (drE l i)) := by
 obtain ⟨b, hb⟩ := getx hi
 have hbd : l.drivers.getD i default = b := getD_of hb
 have hbdup := dup_names Dr.name hb
 refine gF0 Tryz.func61 ?_
 refine gi (getmap hb) ?_
 refine gc (c_r18_Name b.name (hl.dnames b (List.mem_of_getElem? hb))) ?_
 refine gC (fun ht16 => ?_) (fun ht16 => ?_)
 ·have h1 := not_t ht16
  refine gE1 ?_
  unfold drE; rw [hbd, if_pos h1]; rfl
 ·have h1 := not_f ht16
  refine gL1 [1, 2, 5] [2, 5] (fun (k : Nat) => [(6, some (i64 k))]) (fun _ => []) (fun k => k ≤ i ∧ (l.drivers.take k).any (fun y => eqS y.name b.name) = false) (fun k => i - k) 0 ⟨Nat.zero_le _, rfl⟩ ?_
  rintro k ⟨hk, hd⟩ K1 hK1
  refine gC (fun ht19 => ?_) (fun ht19 => ?_)
  ·have hkn := lss_t ht19
   obtain ⟨y, hy⟩ : ∃ y, l.drivers[k]? = some y := getx (by omega)
   refine gi (getmap hy) ?_
   refine gD ?_
   refine gC (fun ht30 => ?_) (fun ht30 => ?_)
   ·have h2 : eqS y.name b.name = true := ht30
    refine gE1 ?_
    unfold drE; rw [hbd, if_neg (by rw [h1]; decide), if_pos (by rw [hbdup]; exact any_hit hy hkn h2)]; rfl
   ·have h2 : eqS y.name b.name = false := ht30
    refine ga (i64_add1 (by unfold maxL; omega)) ?_
    exact gK1 hK1 (k + 1) ⟨hkn, any_step hy hd h2⟩
  ·have hkn := lss_end hk ht19
   subst hkn
   have hnd : ¬ dupB (l.drivers.map Dr.name) k = true := by rw [hbdup, hd]; decide
   refine gl ?_
   refine gc (c_r19_index b.body l.bodies.length) ?_
   refine gC (fun ht37 => ?_) (fun ht37 => ?_)
   ·have h3 := not_t ht37
    refine gE1 ?_
    unfold drE; rw [hbd, if_neg (by rw [h1]; decide), if_neg hnd, if_pos h3]; rfl
   ·have h3 := not_f ht37
    refine gC (fun ht40 => ?_) (fun ht40 => ?_)
    ·have h4 := eql_t ht40
     refine gE1 ?_
     unfold drE; rw [hbd, if_neg (by rw [h1]; decide), if_neg hnd, if_neg (by rw [h3]; decide), if_pos h4]; rfl
    ·have h4 := eql_f ht40
     have e1 : drE l k = if (l.drivers.take k).any (fun d => decide (d.body = b.body)) = true then 6 else 0 := by unfold drE; rw [hbd, if_neg (by rw [h1]; decide), if_neg hnd, if_neg (by rw [h3]; decide), if_neg h4]
     refine gL1 [1, 2, 5] [2, 5] (fun (q : Nat) => [(7, some (i64 q))]) (fun _ => []) (fun q => q ≤ k ∧ (l.drivers.take q).any (fun d => decide (d.body = b.body)) = false) (fun q => k - q) 0 ⟨Nat.zero_le _, rfl⟩ ?_
     rintro q ⟨hq, hqd⟩ K2 hK2
     refine gC (fun ht43 => ?_) (fun ht43 => ?_)
     ·have hqn := lss_t ht43
      obtain ⟨y, hy⟩ : ∃ y, l.drivers[q]? = some y := getx (by omega)
      refine gi (getmap hy) ?_
      refine gD ?_
      refine gC (fun ht54 => ?_) (fun ht54 => ?_)
      ·have h5 : decide (y.body = b.body) = true := decide_eq_true (eql_t ht54)
       refine gE1 ?_
       rw [e1, if_pos (any_hit hy hqn h5)]; rfl
      ·have h5 : decide (y.body = b.body) = false := decide_eq_false (eql_f ht54)
       refine ga (i64_add1 (by unfold maxL; omega)) ?_
       exact gK1 hK2 (q + 1) ⟨hqn, any_step hy hqd h5⟩
     ·have hqn := lss_end hq ht43
      subst hqn
      refine gE1 ?_
      rw [e1, hqd]; rfl
theorem c_r19_Check (l : Li) (hl : l.ok) : FnC Tryz.prog 29 [l.av] (i64 (liE l)) := by
 have hlb := hl.lb
 refine gF0 Tryz.func29 ?_
 refine gc (c_r18_Name l.name hl.name) ?_
 refine gC (fun ht11 => ?_) (fun ht11 => ?_)
 ·have h1 := not_t ht11
  refine gE1 ?_
  unfold liE; rw [if_pos h1]; rfl
 ·have h1 := not_f ht11
  refine gl ?_
  refine gC (fun ht15 => ?_) (fun ht15 => ?_)
  ·have h2 := eql0_t ht15
   refine gE1 ?_
   unfold liE; rw [if_neg (by rw [h1]; decide), if_pos h2]; rfl
  ·have h2 := eql0_f ht15
   refine gl ?_
   refine gC (fun ht19 => ?_) (fun ht19 => ?_)
   ·have h3 : 8 < l.bodies.length := gtr_t ht19
    refine gE1 ?_
    unfold liE; rw [if_neg (by rw [h1]; decide), if_neg h2, if_pos h3]; rfl
   ·have h3 : l.bodies.length ≤ 8 := gtr_f ht19
    have e0 : liE l = if bdsE l ≠ 0 then bdsE l else if jtsE l ≠ 0 then jtsE l else drsE l := by unfold liE; rw [if_neg (by rw [h1]; decide), if_neg h2, if_neg (by omega)]
    refine gc (c_r19_bodies l hl) ?_
    refine gC (fun ht23 => ?_) (fun ht23 => ?_)
    ·have h4 : bdsE l ≠ 0 := neq_t ht23
     refine gE1 ?_
     rw [e0, if_pos h4]
    ·have h4 : bdsE l = 0 := neq_f ht23
     refine gl ?_
     refine gC (fun ht28 => ?_) (fun ht28 => ?_)
     ·have h5 : 16 < l.joints.length := gtr_t ht28
      have ej : jtsE l = 4 := by unfold jtsE; rw [if_pos h5]
      refine gE1 ?_
      rw [e0, if_neg (by rw [h4]; simp), if_pos (by rw [ej]; decide), ej]; rfl
     ·have h5 : l.joints.length ≤ 16 := gtr_f ht28
      have ej : jtsE l = firstN l.joints.length (jtE l) := by unfold jtsE; rw [if_neg (by omega)]
      refine gL1 [1] [1] (fun (i : Nat) => [(4, some (i64 i))]) (fun _ => []) (fun i => i ≤ l.joints.length ∧ ∀ j, j < i → jtE l j = 0) (fun i => l.joints.length - i) 0 ⟨Nat.zero_le _, fun j h => by omega⟩ ?_
      rintro i ⟨hi, hj⟩ K1 hK1
      refine gl ?_
      refine gC (fun ht33 => ?_) (fun ht33 => ?_)
      ·have hin := lss_t ht33
       refine gc (c_r19_joint l hl i hin h5) ?_
       refine gC (fun ht40 => ?_) (fun ht40 => ?_)
       ·have h6 := neq_t ht40
        refine gE1 ?_
        rw [e0, if_neg (by rw [h4]; simp), if_pos (by rw [ej, firstN_at hin hj h6]; exact h6), ej, firstN_at hin hj h6]
       ·have h6 := neq_f ht40
        refine ga (i64_add1 (by unfold maxL; omega)) ?_
        exact gK1 hK1 (i + 1) ⟨hin, fun j h9 => by rcases Nat.lt_or_ge j i with g | g; exact hj j g; (have : j = i := by omega); subst this; exact h6⟩
      ·have hin := lss_end hi ht33
       subst hin
       have ejz : jtsE l = 0 := ej.trans (firstN_all hj)
       have e0' : liE l = drsE l := by rw [e0, if_neg (by rw [h4]; simp), if_neg (by rw [ejz]; simp)]
       refine gl ?_
       refine gC (fun ht45 => ?_) (fun ht45 => ?_)
       ·have h6 : 2 < l.drivers.length := gtr_t ht45
        refine gE1 ?_
        rw [e0']; unfold drsE; rw [if_pos h6]; rfl
       ·have h6 : l.drivers.length ≤ 2 := gtr_f ht45
        have ed : drsE l = firstN l.drivers.length (drE l) := by unfold drsE; rw [if_neg (by omega)]
        refine gL1 [1] [1] (fun (k : Nat) => [(6, some (i64 k))]) (fun _ => []) (fun k => k ≤ l.drivers.length ∧ ∀ j, j < k → drE l j = 0) (fun k => l.drivers.length - k) 0 ⟨Nat.zero_le _, fun j h => by omega⟩ ?_
        rintro k ⟨hk, hkj⟩ K2 hK2
        refine gl ?_
        refine gC (fun ht50 => ?_) (fun ht50 => ?_)
        ·have hkn := lss_t ht50
         refine gc (c_r19_driver l hl k hkn h6) ?_
         refine gC (fun ht57 => ?_) (fun ht57 => ?_)
         ·have h7 := neq_t ht57
          refine gE1 ?_
          rw [e0', ed, firstN_at hkn hkj h7]
         ·have h7 := neq_f ht57
          refine ga (i64_add1 (by unfold maxL; omega)) ?_
          exact gK1 hK2 (k + 1) ⟨hkn, fun j h9 => by rcases Nat.lt_or_ge j k with g | g; exact hkj j g; (have : j = k := by omega); subst this; exact h7⟩
        ·have hkn := lss_end hk ht50
         subst hkn
         refine gE1 ?_
         rw [e0', ed, firstN_all hkj]; rfl
end Go.Lw
namespace Go.Lw
open Go.Proofs
theorem c_l11_brief (rs xs : List (List Rt)) (w m : Nat) (hrs : RsOk rs) (hxs : RsOk xs) (hrl : rs.length ≤ 100) (hxl : xs.length ≤ 100) : FnC Tryz.prog 51 [towR rs, i64 w, i64 m, .lst 1 (xs.map nR)] (bl (briefB w m (rs ++ xs))) := by
 obtain ⟨l, hl⟩ : ∃ l, l = rs ++ xs := ⟨_, rfl⟩
 have hlo : RsOk l := by rw [hl]; exact hrs.app hxs
 have hll : l.length ≤ 200 := by rw [hl, List.length_append]; omega
 have hml : rs.map nR ++ xs.map nR = l.map nR := by rw [hl, List.map_append]
 rw [← hl]
 refine gF0 Tryz.func51 ?_
 refine gs (s_buildMs0 T28 rfl T60 rfl rfl rfl) ?_
 refine gs (s_append (.tmp rfl) rfl rfl (.tmp rfl) T28 rfl T60 rfl rfl (by simp only [List.length_map]; omega) rfl rfl) ?_
 refine gs (s_appendF (.tmp rfl) rfl (by simp) (.tmp rfl) T28 rfl T60 rfl rfl (by simp only [List.length_map]; omega) rfl rfl) ?_
 refine ge rfl ?_
 refine gL1 [1, 2] [] (fun (i : Nat) => [(18, some (.lst 1 (l.map nR))), (19, some (i64 l.length)), (20, some (i64 i))]) (fun _ => []) (fun i => i ≤ l.length ∧ (l.take i).all (briefX w m) = true) (fun i => l.length - i) 0 ⟨Nat.zero_le _, rfl⟩ ?_ (h1 := (.cons rfl (Sub.of (congrArg (AV.lst 1) hml)) (.cons rfl (Sub.int (by rw [List.nil_append, hml, List.length_map])) (.k .nil))))
 rintro i ⟨hi, hj⟩ K1 hK1
 refine gC (fun ht21 => ?_) (fun ht21 => ?_)
 ·have hin := lss_t ht21
  obtain ⟨x, hx⟩ := getx hin
  have hxo := hlo x (List.mem_of_getElem? hx)
  have hxl := hxo.2
  refine gi (getmap hx) ?_
  refine gl ?_
  refine gC (fun ht27 => ?_) (fun ht27 => ?_)
  ·have h1 := gtr_t ht27
   refine gE1 ?_
   rw [briefB, all_miss hx (by unfold briefX; rw [decide_eq_false (by omega)]; rfl)]; rfl
  ·have h1 : x.length ≤ m := gtr_f ht27
   refine gl ?_
   refine gL1 [1, 2, 18, 19, 20, 28, 29] [] (fun (k : Nat) => [(30, some (i64 k))]) (fun _ => []) (fun k => k ≤ x.length ∧ (x.take k).all (fun r => decide (r.num.length ≤ w ∧ r.den.length ≤ w)) = true) (fun k => x.length - k) 0 ⟨Nat.zero_le _, rfl⟩ ?_
   rintro k ⟨hk, hkj⟩ K2 hK2
   refine gC (fun ht31 => ?_) (fun ht31 => ?_)
   ·have hkn := lss_t ht31
    obtain ⟨r, hr⟩ := getx hkn
    refine gi (getmap hr) ?_
    refine gl ?_
    refine glG ?_
    refine gC (fun ht45 => ?_) (fun ht45 => ?_)
    ·have h2 : ¬ (r.num.length ≤ w ∧ r.den.length ≤ w) := orGt_t ht45
     refine gE1 ?_
     rw [briefB, all_miss hx (by unfold briefX; rw [all_miss hr (decide_eq_false h2), Bool.and_false])]; rfl
    ·have h2 : r.num.length ≤ w ∧ r.den.length ≤ w := orGt_f ht45
     refine ga (i64_add1 (by unfold maxL; omega)) ?_
     exact gK1 hK2 (k + 1) ⟨hkn, all_step hkj hr (decide_eq_true h2)⟩
   ·have hkn := lss_end hk ht31
    refine ga (i64_add1 (by unfold maxL; omega)) ?_
    exact gK1 hK1 (i + 1) ⟨hin, all_step hj hx (by unfold briefX; rw [decide_eq_true h1, all_end hkn hkj]; rfl)⟩
 ·have hin := lss_end hi ht21
  refine gE1 ?_
  rw [briefB, all_end hin hj]; rfl
theorem c_l11_Light (rs xs : List (List Rt)) (hrs : RsOk rs) (hxs : RsOk xs) (hrl : rs.length ≤ 281474976710656) (hxl : xs.length ≤ 100) : FnC Tryz.prog 20 [towR rs, .lst 1 (xs.map nR)] (bl (lightB rs xs)) := by
 refine gF0 Tryz.func20 ?_
 refine gl ?_
 refine gC (fun ht9 => ?_) (fun ht9 => ?_)
 ·have h1 : rs.length ≤ 1 ∨ (5 < rs.length ∧ rs.length ≤ 8) := few_t ht9
  refine gc (c_l11_brief rs xs 3 40 hrs hxs (by omega) hxl) ?_
  refine gE1 ?_
  unfold lightB; rw [if_pos h1]
 ·have h1 : ¬ (rs.length ≤ 1 ∨ (5 < rs.length ∧ rs.length ≤ 8)) := few_f ht9
  refine gC (fun ht23 => ?_) (fun ht23 => ?_)
  ·have h2 : rs.length = 2 := by have := eql_t ht23; omega
   refine gc (c_l11_brief rs xs 1 40 hrs hxs (by omega) hxl) ?_
   refine gE1 ?_
   unfold lightB; rw [if_neg h1, if_pos h2]
  ·have h2 : ¬ rs.length = 2 := by have := eql_f ht23; omega
   refine gC (fun ht29 => ?_) (fun ht29 => ?_)
   ·have h3 : rs.length = 3 := by have := eql_t ht29; omega
    refine gc (c_l11_brief rs xs 1 4 hrs hxs (by omega) hxl) ?_
    refine gE1 ?_
    unfold lightB; rw [if_neg h1, if_neg h2, if_pos h3]
   ·have h3 : ¬ rs.length = 3 := by have := eql_f ht29; omega
    refine gE1 ?_
    unfold lightB; rw [if_neg h1, if_neg h2, if_neg h3]; rfl
theorem c_l25_Light (l : Li) (hl : l.okw) : FnC Tryz.prog 28 [l.av] (bl (liB l)) := by
 have hbl := hl.lb
 refine gF0 Tryz.func28 ?_
 refine gl ?_
 refine gL1 [1, 8, 9] [1] (fun (i : Nat) => [(10, some (i64 i))]) (fun _ => []) (fun i => i ≤ l.bodies.length ∧ (l.bodies.take i).all bdB = true) (fun i => l.bodies.length - i) 0 ⟨Nat.zero_le _, rfl⟩ ?_
 rintro i ⟨hi, hj⟩ K1 hK1
 refine gC (fun ht11 => ?_) (fun ht11 => ?_)
 ·have hin := lss_t ht11
  obtain ⟨b, hb⟩ := getx hin
  refine gi (getmap hb) ?_
  refine gl ?_
  refine gC (fun ht17 => ?_) (fun ht17 => ?_)
  ·have h1 : 30 < b.pts.length := gtr_t ht17
   refine gE1 ?_
   unfold liB; rw [all_miss hb (by unfold bdB; rw [decide_eq_false (by omega)]; rfl)]; rfl
  ·have h1 : b.pts.length ≤ 30 := gtr_f ht17
   refine gl ?_
   refine gL1 [1, 8, 9, 10, 19, 20] [1] (fun (k : Nat) => [(21, some (i64 k))]) (fun _ => []) (fun k => k ≤ b.pts.length ∧ (b.pts.take k).all mkB = true) (fun k => b.pts.length - k) 0 ⟨Nat.zero_le _, rfl⟩ ?_
   rintro k ⟨hk, hkj⟩ K2 hK2
   refine gC (fun ht22 => ?_) (fun ht22 => ?_)
   ·have hkn := lss_t ht22
    obtain ⟨p, hp⟩ := getx hkn
    refine gi (getmap hp) ?_
    refine gl ?_
    refine glG ?_
    refine glG ?_
    refine glG ?_
    refine gC (fun ht50 => ?_) (fun ht50 => ?_)
    ·have h2 : mkB p = false := four_t ht50
     refine gE1 ?_
     unfold liB; rw [all_miss hb (by unfold bdB; rw [all_miss hp h2, Bool.and_false])]; rfl
    ·have h2 : mkB p = true := four_f ht50
     refine ga (i64_add1 (by unfold maxL; omega)) ?_
     exact gK1 hK2 (k + 1) ⟨hkn, all_step hkj hp h2⟩
   ·have hkn := lss_end hk ht22
    refine ga (i64_add1 (by unfold maxL; omega)) ?_
    exact gK1 hK1 (i + 1) ⟨hin, all_step hj hb (by unfold bdB; rw [decide_eq_true h1, all_end hkn hkj]; rfl)⟩
 ·have hin := lss_end hi ht11
  refine gl ?_
  refine glG ?_
  refine glG ?_
  refine gE1 ?_
  exact congrArg bl (liB_end (all_end hin hj))
theorem c_l26_Light (l : Li) (ps : List Pse) (hl : l.okw) (hps : ∀ p ∈ ps, p.wok) (hpl : ps.length ≤ 281474976710656) : FnC Tryz.prog 13 [drawnA l ps] (bl (drB l ps)) := by
 refine gF0 Tryz.func13 ?_
 refine gl ?_
 refine gL1 [1, 6, 7] [1] (fun (i : Nat) => [(8, some (i64 i))]) (fun _ => []) (fun i => i ≤ ps.length ∧ (ps.take i).all psB = true) (fun i => ps.length - i) 0 ⟨Nat.zero_le _, rfl⟩ ?_
 rintro i ⟨hi, hj⟩ K1 hK1
 refine gC (fun ht9 => ?_) (fun ht9 => ?_)
 ·have hin := lss_t ht9
  obtain ⟨p, hp⟩ := getx hin
  have hpo := hps p (List.mem_of_getElem? hp)
  refine gi (getmap hp) ?_
  refine gc (Con.subA (.cons (Sub.agg (.cons (Sub.nil 1 none 0) .nil) rfl) (.cons (.refl _) .nil)) (c_l11_Light [] [[p.turn.t, p.at_.x], [p.at_.y]] rs_nil hpo.rs (by show 0 ≤ _; omega) (by show 2 ≤ 100; omega))) ?_
  refine gC (fun ht26 => ?_) (fun ht26 => ?_)
  ·have h1 := not_t ht26
   refine gE1 ?_
   unfold drB; rw [all_miss hp h1]; rfl
  ·have h1 := not_f ht26
   refine ga (i64_add1 (by unfold maxL; omega)) ?_
   exact gK1 hK1 (i + 1) ⟨hin, all_step hj hp h1⟩
 ·have hin := lss_end hi ht9
  refine gl ?_
  refine gcG (fun _ => (c_l25_Light l hl)) ?_
  refine gE1 ?_
  exact congrArg bl (drB_end (all_end hin hj))
end Go.Lw
namespace Go.Lw
theorem pok_b {p : Pse} : cond (cond (!(isNil (errV p.turn.err))) true (!p.at_.x.valid)) true (!p.at_.y.valid) = !p.ok := by
  unfold Pse.ok
  rw [isNil_err]
  cases decide (p.turn.err = 0) <;> cases p.at_.x.valid <;> cases p.at_.y.valid <;> rfl
theorem pok_t {p : Pse} (h : cond (cond (!(isNil (errV p.turn.err))) true (!p.at_.x.valid)) true (!p.at_.y.valid) = true) : p.ok = false := by
  rw [pok_b] at h; exact not_t h
theorem pok_f {p : Pse} (h : cond (cond (!(isNil (errV p.turn.err))) true (!p.at_.x.valid)) true (!p.at_.y.valid) = false) : p.ok = true := by
  rw [pok_b] at h; exact not_f h
theorem pok_parts {p : Pse} (h : p.ok = true) : p.turn.err = 0 ∧ p.at_.x.valid = true ∧ p.at_.y.valid = true := by
  unfold Pse.ok at h
  simp only [Bool.and_eq_true, decide_eq_true_eq] at h
  exact ⟨h.1.1, h.1.2, h.2⟩
/-- A placed body with canonical numbers. -/
structure Pq where
  c : List Rat
  s : List Rat
  x : List Rat
  y : List Rat
def Pq.av (p : Pq) : AV := .agg [nA p.c, nA p.s, nA p.x, nA p.y]
structure Pq.ok (n e : Nat) (p : Pq) : Prop where
  c : Nm n e p.c
  s : Nm n e p.s
  x : Nm n e p.x
  y : Nm n e p.y
def posed (p : Pse) : Pq := ⟨sh 0 (cosQ p.turn.half p.turn.t.q : Rat), sh 0 (sinQ p.turn.half p.turn.t.q : Rat), sh 0 (p.at_.x.q : Rat), sh 0 (p.at_.y.q : Rat)⟩
def ofE (ps : List Pse) : Nat := if ps.all Pse.ok = true then 0 else 2
def ofL (ps : List Pse) : List Pq := if ps.all Pse.ok = true then ps.map posed else []
def asA (bs : List Pq) : AV := .agg [.lst 1 [], .lst 4 (bs.map Pq.av), .lst 1 []]
theorem ofE_ok {ps : List Pse} (h : ofE ps = 0) : ps.all Pse.ok = true := by
  unfold ofE at h
  split at h
  · assumption
  · cases h
theorem ofE_at {ps : List Pse} (h : ps.all Pse.ok = true) : ofE ps = 0 := by unfold ofE; rw [if_pos h]
theorem ofL_at {ps : List Pse} (h : ps.all Pse.ok = true) : ofL ps = ps.map posed := by unfold ofL; rw [if_pos h]
theorem ofE_bad {ps : List Pse} (h : ps.all Pse.ok = false) : ofE ps = 2 := by unfold ofE; rw [if_neg (by rw [h]; simp)]
theorem ofL_bad {ps : List Pse} (h : ps.all Pse.ok = false) : ofL ps = [] := by unfold ofL; rw [if_neg (by rw [h]; simp)]
/-- The zero assembly. -/
theorem sub_as0 : Sub (.agg [.v (.slice none 0 0), .v (.slice none 0 0), .v (.slice none 0 0)]) (asA []) := .agg (.cons (.nil _ _ _) (.cons (.nil _ _ _) (.cons (.nil _ _ _) .nil))) rfl
theorem sub_as {bs : List Pq} : Sub (.agg [.v (.slice none 0 0), .lst 4 (bs.map Pq.av), .v (.slice none 0 0)]) (asA bs) := .agg (.cons (.nil _ _ _) (.cons (.refl _) (.cons (.nil _ _ _) .nil))) rfl
theorem qb_cos {half : Bool} {t : Rat} {e : Nat} (h : Qb e t) : Qb (4 * e + 6) (cosQ half t) := by
  unfold cosQ
  split
  · exact Qb.one.neg.mono (by omega)
  · exact ((Qb.one.sub (h.mul h)).div (Qb.one.add (h.mul h))).mono (by omega)
theorem qb_sin {half : Bool} {t : Rat} {e : Nat} (h : Qb e t) : Qb (4 * e + 6) (sinQ half t) := by
  unfold sinQ
  split
  · exact Qb.zero.mono (by omega)
  · exact ((h.add h).div (Qb.one.add (h.mul h))).mono (by omega)
theorem nm_q {n e : Nat} {q : Rat} (hn : n ≤ 5) (h : Qb e q) : Nm n (e + e) (sh 0 (q : Rat)) := by
  have h1 : Nl n (sh 0 (q : Rat)) := by
    have : Nl 0 (sh 0 (q : Rat)) := sh_nl 0 _
    rcases this with h | ⟨j, hj, h⟩
    · exact .inl h
    · exact .inr ⟨j, by omega, h⟩
  refine ⟨hn, h1, ?_⟩
  have hm : ∀ p ∈ sh 0 (q : Rat), Qb e p := by
    intro p hp
    have : p = q := by
      unfold sh at hp
      split at hp
      · cases hp
      · exact List.mem_singleton.1 hp
    rw [this]; exact h
  obtain ⟨D, N, h3, h4, h5⟩ := cd_list hm
  have h6 : (sh 0 (q : Rat)).length ≤ 1 := by
    rcases (sh_nl 0 (q : Rat)) with h | ⟨j, hj, h⟩
    · rw [h]; simp
    · have : j = 0 := by omega
      subst this; rw [h]; simp
  have h7 : e * (sh 0 (q : Rat)).length ≤ e * 1 := Nat.mul_le_mul_left _ h6
  exact ⟨D, N, h3, Nat.le_trans h4 (pow_le2 (by omega)), Nat.le_trans h5 (pow_le2 (by omega))⟩
theorem posed_ok {n : Nat} {p : Pse} (hn : n ≤ 5) (h : p.lok) : (posed p).ok n 1000 :=
  ⟨(nm_q hn (qb_cos h.t)).mono (by omega), (nm_q hn (qb_sin h.t)).mono (by omega), (nm_q hn h.x).mono (by omega), (nm_q hn h.y).mono (by omega)⟩
/-! ### Matches -/
def sameP (ts : List (List Rat)) (b : Pl) (w : Pq) : Bool :=
  eqT ts (dec ts.length (lq b.c)) (dec ts.length w.c) && eqT ts (dec ts.length (lq b.s)) (dec ts.length w.s) && eqT ts (dec ts.length (lq b.x)) (dec ts.length w.x) && eqT ts (dec ts.length (lq b.y)) (dec ts.length w.y)
/-- The error of Matches. -/
def mE (a : As) (ps : List Pse) : Nat :=
  if chkE a.rs ≠ 0 then chkE a.rs else if ofE ps ≠ 0 then ofE ps else if a.bs.length ≠ ps.length then 10 else firstE (a.bs.map (fun b => chksE a.rs b.l))
def mB (a : As) (ps : List Pse) : Bool := decide (mE a ps = 0) && (a.bs.zip ps).all (fun z => sameP (llq a.rs) z.1 (posed z.2))
theorem firstE_at {α : Type} {l : List α} {f : α → Nat} {i : Nat} {x : α} (hx : l[i]? = some x) (hb : ∀ y ∈ l.take i, f y = 0) (hn : f x ≠ 0) : firstE (l.map f) = f x := by
  have e : l = l.take i ++ l.drop i := (List.take_append_drop i l).symm
  have hi := (List.getElem?_eq_some_iff.1 hx).1
  have e2 : l.drop i = x :: l.drop (i + 1) := by
    rw [List.drop_eq_getElem_cons hi, (List.getElem?_eq_some_iff.1 hx).2]
  rw [e, List.map_append, firstE_app _ _ (firstE_of (fun v hv => by
    obtain ⟨y, hy, rfl⟩ := List.mem_map.1 hv
    exact hb y hy)), e2]
  show (if f x ≠ 0 then f x else _) = _
  rw [if_pos hn]
theorem mE_chk {a : As} {ps : List Pse} (h : chkE a.rs ≠ 0) : mE a ps = chkE a.rs := by unfold mE; rw [if_pos h]
theorem mE_of {a : As} {ps : List Pse} (h : chkE a.rs = 0) (h1 : ofE ps ≠ 0) : mE a ps = ofE ps := by unfold mE; rw [if_neg (by rw [h]; simp), if_pos h1]
theorem mE_len {a : As} {ps : List Pse} (h : chkE a.rs = 0) (h1 : ofE ps = 0) (h2 : a.bs.length ≠ ps.length) : mE a ps = 10 := by
  unfold mE; rw [if_neg (by rw [h]; simp), if_neg (by rw [h1]; simp), if_pos h2]
theorem mE_num {a : As} {ps : List Pse} (h : chkE a.rs = 0) (h1 : ofE ps = 0) (h2 : a.bs.length = ps.length) : mE a ps = firstE (a.bs.map (fun b => chksE a.rs b.l)) := by
  unfold mE; rw [if_neg (by rw [h]; simp), if_neg (by rw [h1]; simp), if_neg (by rw [h2]; simp)]
theorem mB_err {a : As} {ps : List Pse} (h : mE a ps ≠ 0) : mB a ps = false := by unfold mB; rw [decide_eq_false h]; rfl
theorem mB_eq {a : As} {ps : List Pse} (h : mE a ps = 0) : mB a ps = (a.bs.zip ps).all (fun z => sameP (llq a.rs) z.1 (posed z.2)) := by unfold mB; rw [decide_eq_true h]; rfl
/-- The numbers of a placed body that was looked through. -/
theorem pl_canon {rs : List (List Rt)} {b : Pl} (h : chksE rs b.l = 0) (hb : ∀ x ∈ b.l, NR x 4000) (h5 : rs.length ≤ 5) :
    b.av = Pq.av ⟨lq b.c, lq b.s, lq b.x, lq b.y⟩ ∧ Pq.ok rs.length 4000 ⟨lq b.c, lq b.s, lq b.x, lq b.y⟩ := by
  have h1 := (chks_ok h).2
  have g : ∀ x ∈ b.l, nR x = nA (lq x) ∧ Nm rs.length 4000 (lq x) := fun x hx => by
    obtain ⟨e1, e2⟩ := (hb x hx).num (h1 x hx)
    exact ⟨e1, h5, e2, (hb x hx).cb⟩
  have c := g b.c (by simp [Pl.l])
  have s := g b.s (by simp [Pl.l])
  have x := g b.x (by simp [Pl.l])
  have y := g b.y (by simp [Pl.l])
  exact ⟨by unfold Pl.av Pq.av; rw [c.1, s.1, x.1, y.1], c.2, s.2, x.2, y.2⟩
/-- The four numbers of a body beside those that should be. -/
def prs (b : Pl) (w : Pq) : List (List Rat × List Rat) := [(lq b.c, w.c), (lq b.s, w.s), (lq b.x, w.x), (lq b.y, w.y)]
theorem prs_at {b : Pl} {w : Pq} {k : Nat} (hk : k < 4) :
    ∃ z, (prs b w)[k]? = some z ∧ (([nA (lq b.c), nA w.c, nA (lq b.s), nA w.s, nA (lq b.x), nA w.x, nA (lq b.y), nA w.y] : List AV).drop (k * 2)).take 2 = [nA z.1, nA z.2] := by
  match k, hk with
  | 0, _ => exact ⟨_, rfl, rfl⟩
  | 1, _ => exact ⟨_, rfl, rfl⟩
  | 2, _ => exact ⟨_, rfl, rfl⟩
  | 3, _ => exact ⟨_, rfl, rfl⟩
def eqP (ts : List (List Rat)) (z : List Rat × List Rat) : Bool := eqT ts (dec ts.length z.1) (dec ts.length z.2)
theorem prs_all {ts : List (List Rat)} {b : Pl} {w : Pq} : (prs b w).all (eqP ts) = sameP ts b w := by
  unfold prs sameP eqP
  simp only [List.all_cons, List.all_nil, Bool.and_true, Bool.and_assoc]
theorem prs_nm {n : Nat} {b : Pl} {w : Pq} (hb : Pq.ok n 4000 ⟨lq b.c, lq b.s, lq b.x, lq b.y⟩) (hw : w.ok n 1000) : ∀ z ∈ prs b w, Nm n 4000 z.1 ∧ Nm n 1000 z.2 := by
  intro z hz
  simp only [prs, List.mem_cons, List.not_mem_nil, or_false] at hz
  rcases hz with rfl | rfl | rfl | rfl
  · exact ⟨hb.c, hw.c⟩
  · exact ⟨hb.s, hw.s⟩
  · exact ⟨hb.x, hw.x⟩
  · exact ⟨hb.y, hw.y⟩
theorem get_zip {α β : Type} {l : List α} {l' : List β} {i : Nat} {x : α} {y : β} (hx : l[i]? = some x) (hy : l'[i]? = some y) : (l.zip l')[i]? = some (x, y) := by
  rw [List.zip, List.getElem?_zipWith, hx, hy]
end Go.Lw
namespace Go.Lw
open Go.Proofs
theorem c_certify_check (ps : List Pse) (hps : ∀ p ∈ ps, p.rok) (hpl : ps.length ≤ 281474976710656) : FnC Tryz.prog 43 [.lst 10 (ps.map Pse.av)] (errA (ofE ps)) := by
 refine gF0 Tryz.func43 ?_
 refine gl ?_
 refine gL1 [5, 6] [] (fun (i : Nat) => [(7, some (i64 i))]) (fun _ => []) (fun i => i ≤ ps.length ∧ (ps.take i).all Pse.ok = true) (fun i => ps.length - i) 0 ⟨Nat.zero_le _, rfl⟩ ?_
 rintro i ⟨hi, hj⟩ K1 hK1
 refine gC (fun ht8 => ?_) (fun ht8 => ?_)
 ·have hin := lss_t ht8
  obtain ⟨p, hp⟩ := getx hin
  have hpo := hps p (List.mem_of_getElem? hp)
  refine gi (getmap hp) ?_
  refine gc (c_turn_Check p.turn hpo.t) ?_
  refine gcG (fun _ => (c_fraction_Valid p.at_.x hpo.x)) ?_
  refine gcG (fun _ => (c_fraction_Valid p.at_.y hpo.y)) ?_
  refine gC (fun ht28 => ?_) (fun ht28 => ?_)
  ·have h1 : p.ok = false := pok_t ht28
   refine gE1 ?_
   rw [ofE_bad (all_miss hp h1)]; rfl
  ·have h1 : p.ok = true := pok_f ht28
   refine ga (i64_add1 (by unfold maxL; omega)) ?_
   exact gK1 hK1 (i + 1) ⟨hin, all_step hj hp h1⟩
 ·have hin := lss_end hi ht8
  refine gE1 ?_
  rw [ofE_at (all_end hin hj)]; rfl
theorem c_certify_placed (p : Pse) (hp : p.lok) (ho : p.ok = true) : FnC Tryz.prog 44 [p.av] (.tup [(posed p).av, .v .nilIface]) := by
 have he := (pok_parts ho).1
 have hc := c_turn_Cos p.turn hp.ok.t hp.t (by omega)
 rw [if_pos he, he] at hc
 have hs := c_turn_Sin p.turn hp.ok.t hp.t (by omega)
 rw [if_pos he, he] at hs
 refine gF0 Tryz.func44 ?_
 refine gc hc ?_
 refine gC (fun ht14 => ?_) (fun ht14 => ?_) (st1 := (3, 0))
 ·cases ht14
 ·refine gc hs ?_
  refine gC (fun ht24 => ?_) (fun ht24 => ?_) (st1 := (6, 0))
  ·cases ht24
  ·refine gc (tw_Of ((qb_cos hp.t).qs (by omega))) ?_
   refine gc (tw_Of ((qb_sin hp.t).qs (by omega))) ?_
   refine gc (c_tower_Of p.at_.x hp.ok.x (hp.x.qs (by omega))) ?_
   refine gc (c_tower_Of p.at_.y hp.ok.y (hp.y.qs (by omega))) ?_
   refine gD ?_
   refine gE2 ?_
   rfl
theorem c_certify_Of (ps : List Pse) (hps : ∀ p ∈ ps, p.lok) (hpl : ps.length ≤ 20) : FnC Tryz.prog 14 [.lst 10 (ps.map Pse.av)] (.tup [asA (ofL ps), errA (ofE ps)]) := by
 refine gF0 Tryz.func14 ?_
 refine gc (c_certify_check ps (fun p hp => (hps p hp).ok) (by omega)) ?_
 refine gC (fun ht13 => ?_) (fun ht13 => ?_)
 ·have h1 := nNil_t ht13
  have h2 : ps.all Pse.ok = false := Bool.eq_false_iff.2 (fun h => h1 (ofE_at h))
  refine gR ?_
  exact fin_sub (by rw [ofL_bad h2]; exact Sub.tup (.cons sub_as0 (.cons (.refl _) .nil)))
 ·have h1 := nNil_f ht13
  have h2 := ofE_ok h1
  rw [List.all_eq_true] at h2
  refine gl ?_
  refine gW (Wk.virt 900 4 rfl) ?_
  refine gL1 [2, 5, 16, 17] [2] (fun (i : Nat) => [(18, some (i64 i))]) (fun i => [(5, some (.box [.v (.slice none 0 0), .ms 900 4 0 i, .v (.slice none 0 0)])), (900, some (.row 4 (((ps.take i).map posed).map Pq.av)))]) (fun i => i ≤ ps.length) (fun i => ps.length - i) 0 (Nat.zero_le _) ?_ (h2 := (.cons rfl (BlkSub.boxL (.cons (.refl _) (.cons (.nilMs _ _ _) (.cons (.refl _) .nil))) rfl) (.cons rfl (.refl _) .nil)))
  rintro i hi K1 hK1
  refine gC (fun ht19 => ?_) (fun ht19 => ?_) (st2 := (13, 0))
  ·have hin := lss_t ht19
   obtain ⟨p, hp⟩ := getx hin
   have hpm := List.mem_of_getElem? hp
   refine gi (getmap hp) ?_
   refine gc (c_certify_placed p (hps p hpm) (h2 p hpm)) ?_
   refine gC (fun ht28 => ?_) (fun ht28 => ?_) (st1 := (10, 0))
   ·cases ht28
   ·refine gs (s_append (.tmp rfl) rfl (by rw [List.length_map, List.length_map, List.length_take]; omega) (.tmp rfl) T31 rfl T62 rfl rfl (by dsimp only; simp only [List.length_cons, List.length_nil]; omega) rfl rfl) ?_ (12, 0)
    refine gW (Wk.of (sl := [(2, some (.ptr 2 0)), (5, some (.ptr 5 0)), (16, some (.lst 10 (ps.map Pse.av))), (17, some (i64 ps.length)), (18, some (i64 i))]) (hp := [(2, some (.box [.v (.slice none 0 0), .v (.slice none 0 0), .v (.slice none 0 0)])), (5, some (.box [.v (.slice none 0 0), .ms 35 4 0 (i + 1), .v (.slice none 0 0)])), (35, some (.row 4 (((ps.take (i + 1)).map posed).map Pq.av)))]) (by repeat (first | exact SlW.nil | refine SlW.k ?_)) (.cons rfl (.refl _) (.cons rfl (.refl _) (.cons rfl (BlkSub.of (by rw [take_succ_get hp, List.map_append, List.map_append]; rfl)) .nil)))) ?_ (12, 0)
    refine gW (Wk.rekey (k := 35) (d := 900) rfl rfl) ?_
    refine ga (i64_add1 (by unfold maxL; omega)) ?_
    exact gK1 hK1 (i + 1) hin
  ·have hin := lss_end hi ht19
   subst hin
   refine gW ((Wk.freeze (k := 900) rfl).trans <| Wk.of (sl := [(2, some (.ptr 2 0)), (5, some (.ptr 5 0))]) (hp := [(2, some (.box [.v (.slice none 0 0), .v (.slice none 0 0), .v (.slice none 0 0)])), (5, some (.box [.v (.slice none 0 0), .lst 4 ((ps.map posed).map Pq.av), .v (.slice none 0 0)]))]) (by repeat (first | exact SlW.nil | refine SlW.k ?_)) (.cons rfl (.refl _) (.cons rfl (BlkSub.boxL (.cons (.refl _) (.cons (Sub.of (by rw [fz_all (by rw [List.length_map, List.length_map, List.length_take]; omega), List.take_length])) (.cons (.refl _) .nil))) rfl) .nil))) ?_
   refine gR ?_
   exact fin_sub (by rw [ofL_at (List.all_eq_true.2 h2), h1]; exact Sub.tup (.cons sub_as (.cons (.refl _) .nil)))
end Go.Lw
namespace Go.Lw
open Go.Proofs
theorem eqp_t {z : Int} (h : cond (!(isNil .nilIface)) true (icmp .neq z 0) = true) : decide (z = 0) = false := decide_eq_false (neq_t' h)
theorem eqp_f {z : Int} (h : cond (!(isNil .nilIface)) true (icmp .neq z 0) = false) : decide (z = 0) = true := decide_eq_true (neq_f' h)
theorem c_certify_Matches (a : As) (ha : AL a) (ps : List Pse) (hps : ∀ p ∈ ps, p.lok) (hpl : ps.length ≤ 20) : FnC Tryz.prog 15 [a.av, .lst 10 (ps.map Pse.av)] (.tup [bl (mB a ps), errA (mE a ps)]) := by
 have hbl := ha.bl
 refine gF0 Tryz.func15 ?_
 refine gc (c_tower_Check a.rs 40000 ha.tr) ?_
 refine gC (fun ht26 => ?_) (fun ht26 => ?_)
 ·have h1 := nNil_t ht26
  refine gE2 ?_
  rw [mB_err (by rw [mE_chk h1]; exact h1), mE_chk h1]; rfl
 ·have h1 := nNil_f ht26
  obtain ⟨tw, hta⟩ := chk_tw ha.tr h1
  have h5 : a.rs.length ≤ 5 := by have := tw.five; rwa [List.length_map] at this
  refine gc (c_certify_Of ps hps hpl) ?_
  refine gC (fun ht34 => ?_) (fun ht34 => ?_)
  ·have h2 := nNil_t ht34
   refine gE2 ?_
   rw [mB_err (by rw [mE_of h1 h2]; exact h2), mE_of h1 h2]; rfl
  ·have h2 := nNil_f ht34
   have hol := ofL_at (ofE_ok h2)
   refine gl ?_
   refine gl ?_
   refine gC (fun ht41 => ?_) (fun ht41 => ?_)
   ·have h3 : a.bs.length ≠ ps.length := by have := neq_t' ht41; omega
    refine gE2 ?_
    rw [mB_err (by rw [mE_len h1 h2 h3]; decide), mE_len h1 h2 h3]; rfl
   ·have h3 : a.bs.length = ps.length := by have := neq_f' ht41; omega
    refine gl ?_
    refine gL1 [2, 7, 44, 45] [2, 7] (fun (i : Nat) => [(46, some (i64 i))]) (fun _ => []) (fun i => i ≤ a.bs.length ∧ ∀ b ∈ a.bs.take i, chksE a.rs b.l = 0) (fun i => a.bs.length - i) 0 ⟨Nat.zero_le _, fun b hb => by simp at hb⟩ ?_
    rintro i ⟨hi, hj⟩ K1 hK1
    refine gC (fun ht47 => ?_) (fun ht47 => ?_)
    ·have hin := lss_t ht47
     obtain ⟨b, hb⟩ := getx hin
     have hbn := ha.nr b (List.mem_of_getElem? hb)
     refine gi (getmap hb) ?_
     refine ge rfl ?_
     refine gL1 [2, 7, 44, 45, 46, 58, 59] [2, 7] (fun (k : Nat) => [(60, some (i64 k))]) (fun _ => []) (fun k => k ≤ 4 ∧ ∀ x ∈ b.l.take k, numE a.rs.length x = 0) (fun k => 4 - k) 0 ⟨Nat.zero_le _, fun x hx => by simp at hx⟩ ?_
     rintro k ⟨hk, hkj⟩ K2 hK2
     refine gC (fun ht61 => ?_) (fun ht61 => ?_)
     ·have hkn : k < 4 := lss_t (b := 4) ht61
      obtain ⟨x, hx⟩ : ∃ x, b.l[k]? = some x := getx (l := b.l) hkn
      have hxn := hbn x (List.mem_of_getElem? hx)
      have hone : chksE a.rs [x] = numE a.rs.length x := chks_one h1
      refine gi (getmap hx) ?_
      refine gc (c_tower_Neg a.rs 40000 ha.tr x 4000 hxn (by omega)) ?_
      refine gC (fun ht72 => ?_) (fun ht72 => ?_)
      ·have h4 := nNil_t ht72
       rw [hone] at h4
       have h6 : mE a ps = numE a.rs.length x := by rw [mE_num h1 h2 h3, firstE_at hb hj (by rw [chks_at h1 hx hkj h4]; exact h4), chks_at h1 hx hkj h4]
       refine gE2 ?_
       rw [mB_err (by rw [h6]; exact h4), h6, hone]; rfl
      ·have h4 := nNil_f ht72
       rw [hone] at h4
       refine ga (i64_add1 (by unfold maxL; omega)) ?_
       exact gK1 hK2 (k + 1) ⟨hkn, fun y hy => by rw [take_succ_get hx] at hy; rcases List.mem_append.1 hy with h9 | h9; exact hkj y h9; (rw [List.mem_singleton.1 h9]; exact h4)⟩
     ·have hkn : k = 4 := lss_end (b := 4) hk ht61
      subst hkn
      have h4 : chksE a.rs b.l = 0 := chks_of h1 hkj
      refine ga (i64_add1 (by unfold maxL; omega)) ?_
      exact gK1 hK1 (i + 1) ⟨hin, fun y hy => by rw [take_succ_get hb] at hy; rcases List.mem_append.1 hy with h9 | h9; exact hj y h9; (rw [List.mem_singleton.1 h9]; exact h4)⟩
    ·have hin := lss_end hi ht47
     subst hin
     rw [List.take_length] at hj
     have h6 : mE a ps = 0 := by rw [mE_num h1 h2 h3]; exact firstE_of (fun e he => by obtain ⟨b, hb, rfl⟩ := List.mem_map.1 he; exact hj b hb)
     have h7 := mB_eq h6
     have hts : (llq a.rs).length = a.rs.length := List.length_map _
     refine gl ?_
     refine gL1 [2, 7, 77, 78] [2, 7] (fun (i : Nat) => [(79, some (i64 i))]) (fun _ => []) (fun i => i ≤ a.bs.length ∧ ((a.bs.zip ps).take i).all (fun z => sameP (llq a.rs) z.1 (posed z.2)) = true) (fun i => a.bs.length - i) 0 ⟨Nat.zero_le _, rfl⟩ ?_
     rintro i ⟨hi, hja⟩ K3 hK3
     refine gC (fun ht80 => ?_) (fun ht80 => ?_)
     ·have hin := lss_t ht80
      obtain ⟨b, hb⟩ := getx hin
      obtain ⟨p, hp⟩ : ∃ p, ps[i]? = some p := getx (by omega)
      have hz := get_zip hb hp
      obtain ⟨hba, hbo⟩ := pl_canon (hj b (List.mem_of_getElem? hb)) (ha.nr b (List.mem_of_getElem? hb)) h5
      have hpo := posed_ok h5 (hps p (List.mem_of_getElem? hp))
      have hgb : (a.bs.map Pl.av)[i]? = some (Pq.av ⟨lq b.c, lq b.s, lq b.x, lq b.y⟩) := by rw [getmap hb, hba]
      have hgp : ((ofL ps).map Pq.av)[i]? = some (posed p).av := by rw [hol]; exact getmap (show (ps.map posed)[i]? = some (posed p) by rw [List.getElem?_map, hp]; rfl)
      have hzn := prs_nm hbo hpo
      refine gi hgb ?_
      refine gi hgp ?_
      refine gs (s_buildA (.cons (.tmp rfl) (.cons (.tmp rfl) (.cons (.tmp rfl) (.cons (.tmp rfl) .nil)))) T116 rfl T115 rfl rfl rfl) ?_
      refine gL1 [2, 7, 77, 78, 79, 109] [2, 7] (fun (k : Nat) => [(110, some (i64 k))]) (fun _ => []) (fun k => k ≤ 4 ∧ ((prs b (posed p)).take k).all (eqP (llq a.rs)) = true) (fun k => 4 - k) 0 ⟨Nat.zero_le _, rfl⟩ ?_
      rintro k ⟨hk, hka⟩ K4 hK4
      refine gC (fun ht111 => ?_) (fun ht111 => ?_)
      ·have hkn : k < 4 := lss_t (b := 4) ht111
       obtain ⟨z, hz1, hz2⟩ := prs_at (b := b) (w := posed p) hkn
       obtain ⟨hn1, hn2⟩ := hzn z (List.mem_of_getElem? hz1)
       rw [← hts] at hn1 hn2
       have hcmp := tw_Cmp tw hn1 hn2 (by omega)
       rw [← hta] at hcmp
       refine gs (s_indexA (.tmp rfl) (.tmp rfl) T116 rfl T115 rfl rfl hkn hz2 rfl) ?_
       refine gc hcmp ?_
       refine gC (fun ht128 => ?_) (fun ht128 => ?_)
       ·have h8 : eqP (llq a.rs) z = false := eqp_t ht128
        refine gE2 ?_
        rw [h6, h7, all_miss hz (by rw [← prs_all]; exact all_miss hz1 h8)]; rfl
       ·have h8 : eqP (llq a.rs) z = true := eqp_f ht128
        refine ga (i64_add1 (by unfold maxL; omega)) ?_
        exact gK1 hK4 (k + 1) ⟨hkn, all_step hka hz1 h8⟩
      ·have hkn : k = 4 := lss_end (b := 4) hk ht111
       subst hkn
       have h8 : sameP (llq a.rs) b (posed p) = true := by rw [← prs_all]; exact hka
       refine ga (i64_add1 (by unfold maxL; omega)) ?_
       exact gK1 hK3 (i + 1) ⟨hin, all_step hja hz h8⟩
     ·have hin := lss_end hi ht80
      refine gE2 ?_
      rw [h6, h7, all_end (by rw [hin, List.length_zip, h3, Nat.min_self]) hja]; rfl
end Go.Lw
namespace Go.Lw
instance : Inhabited Tn := ⟨⟨⟨false, [], []⟩, false⟩⟩
/-! ### The first that fails -/
def firstB (n : Nat) (ok : Nat → Bool) : Option Nat := (List.range n).find? (fun i => !ok i)
theorem firstB_at {n i : Nat} {ok : Nat → Bool} (hi : i < n) (h : ∀ j, j < i → ok j = true) (he : ok i = false) : firstB n ok = some i := by
  unfold firstB
  rw [List.find?_range_eq_some]
  exact ⟨by rw [he]; rfl, by simpa using hi, fun j hj => by rw [h j hj]; rfl⟩
theorem firstB_all {n : Nat} {ok : Nat → Bool} (h : ∀ j, j < n → ok j = true) : firstB n ok = none := by
  unfold firstB
  rw [List.find?_range_eq_none]
  exact fun j hj => by rw [h j hj]; rfl
theorem firstB_none {n : Nat} {ok : Nat → Bool} (h : firstB n ok = none) : ∀ j, j < n → ok j = true := by
  unfold firstB at h
  rw [List.find?_range_eq_none] at h
  intro j hj
  have := h j hj
  simpa using this
def ixI : Option Nat → Int
  | none => -1
  | some i => i
theorem ix_t {o : Option Nat} (h : icmp .geq (ixI o) 0 = true) : ∃ i, o = some i := by
  cases o with
  | none => cases h
  | some i => exact ⟨i, rfl⟩
theorem ix_f {o : Option Nat} (h : icmp .geq (ixI o) 0 = false) : o = none := by
  cases o with
  | none => rfl
  | some i =>
    have h1 : ¬ ((i : Int) ≥ 0) := of_decide_eq_false h
    omega
/-! ### Faults -/
def frameQ : Pq := ⟨[1], [], [], []⟩
abbrev decL (ts : List (List Rat)) (x : List Rt) : T ts.length := dec ts.length (lq x)
def unitB (ts : List (List Rat)) (b : Pl) : Bool := eqT ts (dotT ts (decL ts b.c) (decL ts b.s) (decL ts b.c) (decL ts b.s)) (dec ts.length [1])
def bodyB (rs : List (List Rt)) (i : Nat) (b : Pl) : Bool := decide (chksE rs b.l = 0) && (unitB (llq rs) b && (decide (0 < i) || sameP (llq rs) b frameQ))
def atP (ts : List (List Rat)) (b : Pl) (m : Mk) : T ts.length × T ts.length := (atX ts (decL ts b.c) (decL ts b.s) (decL ts b.x) m.x.q m.y.q, atY ts (decL ts b.c) (decL ts b.s) (decL ts b.y) m.x.q m.y.q)
def ptAt (l : Li) (a : As) (body pt : Int) : T (llq a.rs).length × T (llq a.rs).length := atP (llq a.rs) (a.bs.getD body.toNat default) ((ptsAt l body).getD pt.toNat default)
def jointB (l : Li) (a : As) (j : Jt) : Bool :=
  if j.kind = 0 then eqT (llq a.rs) (ptAt l a j.a j.point).1 (ptAt l a j.b j.on).1 && eqT (llq a.rs) (ptAt l a j.a j.point).2 (ptAt l a j.b j.on).2
  else decide (T.sgn (rtsOf (llq a.rs)) (llq a.rs).length (orientT (llq a.rs) (ptAt l a j.b j.on).1 (ptAt l a j.b j.on).2 (ptAt l a j.b j.to).1 (ptAt l a j.b j.to).2 (ptAt l a j.a j.point).1 (ptAt l a j.a j.point).2) = 0)
def turnB (ts : List (List Rat)) (b : Pl) (x : Tn) : Bool :=
  eqT ts (decL ts b.c) (dec ts.length (sh 0 (cosQ x.half x.t.q : Rat))) && eqT ts (decL ts b.s) (dec ts.length (sh 0 (sinQ x.half x.t.q : Rat)))
def driverB (l : Li) (xs : List Tn) (a : As) (i : Nat) : Bool := turnB (llq a.rs) (a.bs.getD (l.drivers.getD i default).body.toNat default) (xs.getD i default)
def flt (l : Li) (xs : List Tn) (a : As) : Nat × Nat :=
  if chkE a.rs ≠ 0 ∨ a.bs.length ≠ l.bodies.length then (1, 0)
  else match firstB a.bs.length (fun i => bodyB a.rs i (a.bs.getD i default)) with
    | some i => (2, i)
    | none => match firstB l.joints.length (fun i => jointB l a (l.joints.getD i default)) with
      | some i => (3, i)
      | none => match firstB l.drivers.length (driverB l xs a) with
        | some i => (4, i)
        | none => (0, 0)
def fltA (p : Nat × Nat) : AV := .agg [i64 p.1, i64 p.2]
theorem flt_1 {l : Li} {xs : List Tn} {a : As} (h : chkE a.rs ≠ 0 ∨ a.bs.length ≠ l.bodies.length) : flt l xs a = (1, 0) := by unfold flt; rw [if_pos h]
theorem flt_2 {l : Li} {xs : List Tn} {a : As} (h : ¬ (chkE a.rs ≠ 0 ∨ a.bs.length ≠ l.bodies.length)) {i : Nat} (h1 : firstB a.bs.length (fun i => bodyB a.rs i (a.bs.getD i default)) = some i) : flt l xs a = (2, i) := by
  unfold flt; rw [if_neg h, h1]
theorem flt_3 {l : Li} {xs : List Tn} {a : As} (h : ¬ (chkE a.rs ≠ 0 ∨ a.bs.length ≠ l.bodies.length)) {i : Nat} (h1 : firstB a.bs.length (fun i => bodyB a.rs i (a.bs.getD i default)) = none)
    (h2 : firstB l.joints.length (fun i => jointB l a (l.joints.getD i default)) = some i) : flt l xs a = (3, i) := by
  unfold flt; rw [if_neg h, h1]; show (match firstB _ _ with | some i => _ | none => _) = _; rw [h2]
theorem flt_4 {l : Li} {xs : List Tn} {a : As} (h : ¬ (chkE a.rs ≠ 0 ∨ a.bs.length ≠ l.bodies.length)) {i : Nat} (h1 : firstB a.bs.length (fun i => bodyB a.rs i (a.bs.getD i default)) = none)
    (h2 : firstB l.joints.length (fun i => jointB l a (l.joints.getD i default)) = none) (h3 : firstB l.drivers.length (driverB l xs a) = some i) : flt l xs a = (4, i) := by
  unfold flt; rw [if_neg h, h1]; show (match firstB _ _ with | some i => _ | none => _) = _; rw [h2]; show (match firstB _ _ with | some i => _ | none => _) = _; rw [h3]
theorem flt_0 {l : Li} {xs : List Tn} {a : As} (h : ¬ (chkE a.rs ≠ 0 ∨ a.bs.length ≠ l.bodies.length)) (h1 : firstB a.bs.length (fun i => bodyB a.rs i (a.bs.getD i default)) = none)
    (h2 : firstB l.joints.length (fun i => jointB l a (l.joints.getD i default)) = none) (h3 : firstB l.drivers.length (driverB l xs a) = none) : flt l xs a = (0, 0) := by
  unfold flt; rw [if_neg h, h1]; show (match firstB _ _ with | some i => _ | none => _) = _; rw [h2]; show (match firstB _ _ with | some i => _ | none => _) = _; rw [h3]
/-! ### Accepted linkages -/
theorem li_parts {l : Li} (h : liE l = 0) : bdsE l = 0 ∧ jtsE l = 0 ∧ drsE l = 0 ∧ l.bodies.length ≤ 8 ∧ l.bodies.length ≠ 0 := by
  unfold liE at h
  split at h
  · cases h
  · split at h
    · cases h
    · split at h
      · cases h
      · split at h
        · rename_i h1; exact absurd h h1
        · rename_i g1 _ h1
          split at h
          · rename_i h2; exact absurd h h2
          · rename_i h2; exact ⟨Decidable.not_not.1 h1, Decidable.not_not.1 h2, h, by omega, by omega⟩
theorem jt_at {l : Li} (h : liE l = 0) {i : Nat} {j : Jt} (hj : l.joints[i]? = some j) : jt0 l j = 0 := by
  have h1 := (li_parts h).2.1
  unfold jtsE at h1
  split at h1
  · cases h1
  · have h2 := firstN_zero h1 i (List.getElem?_eq_some_iff.1 hj).1
    unfold jtE at h2
    rw [getD_of hj] at h2
    split at h2
    · cases h2
    · split at h2
      · cases h2
      · exact h2
theorem jt_in {l : Li} (h : liE l = 0) {i : Nat} {j : Jt} (hj : l.joints[i]? = some j) :
    inB j.a l.bodies.length = true ∧ inB j.b l.bodies.length = true ∧ inB j.point (ptsAt l j.a).length = true ∧ inB j.on (ptsAt l j.b).length = true ∧ (j.kind ≠ 0 → inB j.to (ptsAt l j.b).length = true) := by
  have h1 := jt_at h hj
  unfold jt0 at h1
  split at h1
  · cases h1
  · split at h1
    · cases h1
    · rename_i h2
      split at h1
      · cases h1
      · split at h1
        · cases h1
        · rename_i h3
          have a1 : inB j.a l.bodies.length = true := by cases h : inB j.a l.bodies.length <;> simp_all
          have a2 : inB j.b l.bodies.length = true := by cases h : inB j.b l.bodies.length <;> simp_all
          have a3 : inB j.point (ptsAt l j.a).length = true := by cases h : inB j.point (ptsAt l j.a).length <;> simp_all
          have a4 : inB j.on (ptsAt l j.b).length = true := by cases h : inB j.on (ptsAt l j.b).length <;> simp_all
          refine ⟨a1, a2, a3, a4, fun hk => ?_⟩
          rw [if_neg hk] at h1
          split at h1
          · cases h1
          · rename_i h4; cases h : inB j.to (ptsAt l j.b).length <;> simp_all
theorem dr_in {l : Li} (h : liE l = 0) {i : Nat} {d : Dr} (hd : l.drivers[i]? = some d) : inB d.body l.bodies.length = true := by
  have h1 := (li_parts h).2.2.1
  unfold drsE at h1
  split at h1
  · cases h1
  · have h2 := firstN_zero h1 i (List.getElem?_eq_some_iff.1 hd).1
    unfold drE at h2
    rw [getD_of hd] at h2
    split at h2
    · cases h2
    · split at h2
      · cases h2
      · split at h2
        · cases h2
        · rename_i h3; cases h : inB d.body l.bodies.length <;> simp_all
theorem mk_valid {l : Li} (h : liE l = 0) {n k : Nat} {b : Bd} {m : Mk} (hb : l.bodies[n]? = some b) (hm : b.pts[k]? = some m) : m.x.valid = true ∧ m.y.valid = true := by
  have h2 := firstN_zero (li_parts h).1 n (List.getElem?_eq_some_iff.1 hb).1
  unfold bdE at h2
  rw [getD_of hb] at h2
  split at h2
  · cases h2
  · split at h2
    · cases h2
    · split at h2
      · cases h2
      · have h3 := firstN_zero h2 k (List.getElem?_eq_some_iff.1 hm).1
        unfold mkE at h3
        rw [getD_of hm] at h3
        split at h3
        · cases h3
        · split at h3
          · cases h3
          · split at h3
            · assumption
            · cases h3
/-- An accepted linkage, and an assembly whose numbers are accepted. -/
structure Good (l : Li) (a : As) : Prop where
  lo : l.ok
  li : liE l = 0
  al : AL a
  ck : chkE a.rs = 0
  cb : ∀ b ∈ a.bs, chksE a.rs b.l = 0
  ln : a.bs.length = l.bodies.length
theorem Good.tw {l : Li} {a : As} (h : Good l a) : Tw (llq a.rs) 40000 ∧ towR a.rs = towA (llq a.rs) ∧ a.rs.length ≤ 5 ∧ (llq a.rs).length = a.rs.length := by
  obtain ⟨tw, hta⟩ := chk_tw h.al.tr h.ck
  have h5 : a.rs.length ≤ 5 := by have := tw.five; rwa [List.length_map] at this
  exact ⟨tw, hta, h5, List.length_map _⟩
theorem Good.pl {l : Li} {a : As} (h : Good l a) {n : Nat} {b : Pl} (hb : a.bs[n]? = some b) :
    b.av = Pq.av ⟨lq b.c, lq b.s, lq b.x, lq b.y⟩ ∧ Pq.ok (llq a.rs).length 4000 ⟨lq b.c, lq b.s, lq b.x, lq b.y⟩ := by
  have h1 := pl_canon (h.cb b (List.mem_of_getElem? hb)) (h.al.nr b (List.mem_of_getElem? hb)) h.tw.2.2.1
  rw [h.tw.2.2.2]
  exact h1
/-- A point of a body that there is. -/
structure AtP (l : Li) (a : As) (body pt : Int) (n k : Nat) (bd : Bd) (m : Mk) (b : Pl) : Prop where
  hn : body = n
  hk : pt = k
  gbd : l.bodies[n]? = some bd
  gm : bd.pts[k]? = some m
  gb : a.bs[n]? = some b
  eq : ptAt l a body pt = atP (llq a.rs) b m
  mx : m.x.av = qA m.x.q
  my : m.y.av = qA m.y.q
  qx : Qb 4000 m.x.q
  qy : Qb 4000 m.y.q
theorem Good.at {l : Li} {a : As} (h : Good l a) {body pt : Int} (h1 : inB body l.bodies.length = true) (h2 : inB pt (ptsAt l body).length = true) : ∃ n k bd m b, AtP l a body pt n k bd m b := by
  obtain ⟨bd, g1, g2, g3, g4⟩ := bodyAt h1
  rw [g2] at h2
  obtain ⟨m, g5, g6, g7, g8⟩ := markAt h2
  obtain ⟨b, hb⟩ := getx (l := a.bs) (i := body.toNat) (by rw [h.ln]; exact (List.getElem?_eq_some_iff.1 g1).1)
  have hv := mk_valid h.li g1 g5
  have ho := (h.lo.bodies bd g3).pts m g7
  exact ⟨body.toNat, pt.toNat, bd, m, b, by omega, by omega, g1, g5, hb, by unfold ptAt; rw [getD_of hb, g2, g6],
    by rw [show qA m.x.q = (rt m.x.q).av from rfl, ← Rt.eq_rt ho.x hv.1], by rw [show qA m.y.q = (rt m.y.q).av from rfl, ← Rt.eq_rt ho.y hv.2], ho.qx.mono (by omega), ho.qy.mono (by omega)⟩
theorem kb4 : kB 40000 = 1240062 := rfl
theorem at_nm {ts : List (List Rat)} {r : Nat} (tw : Tw ts r) {b : Pl} {m : Mk} (hb : Pq.ok ts.length 4000 ⟨lq b.c, lq b.s, lq b.x, lq b.y⟩) (hx : Qb 4000 m.x.q) (hy : Qb 4000 m.y.q) :
    Nm ts.length (4 * (4000 + 4000 + kB r) + 10000) (sh ts.length (atP ts b m).1) ∧ Nm ts.length (4 * (4000 + 4000 + kB r) + 10000) (sh ts.length (atP ts b m).2) := by
  have nx := Nm.ofQ tw.five (Cb.one hx)
  have ny := Nm.ofQ tw.five (Cb.one hy)
  have nX := turn_nmX tw hb.c hb.s nx ny
  have nY := turn_nmY tw hb.c hb.s nx ny
  have h1 := nX.add hb.x
  rw [at_ap1] at h1
  have h2 := nY.add hb.y
  rw [at_ap2] at h2
  exact ⟨h1.mono (by omega), h2.mono (by omega)⟩
/-! ### Errors of linkage and turns -/
def badE (l : Li) (xs : List Tn) : Nat := if liE l ≠ 0 then liE l else if xs.length ≠ l.drivers.length then 10 else firstE (xs.map Tn.err)
theorem badE_li {l : Li} {xs : List Tn} (h : liE l ≠ 0) : badE l xs = liE l := by unfold badE; rw [if_pos h]
theorem badE_len {l : Li} {xs : List Tn} (h : liE l = 0) (h1 : xs.length ≠ l.drivers.length) : badE l xs = 10 := by unfold badE; rw [if_neg (by rw [h]; simp), if_pos h1]
theorem badE_x {l : Li} {xs : List Tn} (h : liE l = 0) (h1 : xs.length = l.drivers.length) {i : Nat} {x : Tn} (hx : xs[i]? = some x) (hb : ∀ y ∈ xs.take i, y.err = 0) (hn : x.err ≠ 0) : badE l xs = x.err := by
  unfold badE; rw [if_neg (by rw [h]; simp), if_neg (by rw [h1]; simp), firstE_at hx hb hn]
theorem badE_0 {l : Li} {xs : List Tn} (h : liE l = 0) (h1 : xs.length = l.drivers.length) (hb : ∀ y ∈ xs, y.err = 0) : badE l xs = 0 := by
  unfold badE; rw [if_neg (by rw [h]; simp), if_neg (by rw [h1]; simp)]
  exact firstE_of (fun e he => by obtain ⟨x, hx, rfl⟩ := List.mem_map.1 he; exact hb x hx)
theorem frame_ok {n : Nat} (hn : n ≤ 5) : frameQ.ok n 4000 := by
  have h1 : Nm n 4000 ([1] : List Rat) := by
    have := nm_q (q := 1) hn Qb.one
    have e : sh 0 (1 : Rat) = ([1] : List Rat) := rfl
    rw [e] at this
    exact this.mono (by omega)
  have h0 : Nm n 4000 ([] : List Rat) := ⟨hn, .inl rfl, Cb.nil.mono (by omega)⟩
  exact ⟨h1, h0, h0, h0⟩
theorem fl1_t {rs : List (List Rt)} {n m : Nat} (h : cond (icmp .neq ((chksE rs [] : Nat) : Int) 0) true (icmp .neq (n : Int) (m : Int)) = true) : chkE rs ≠ 0 ∨ n ≠ m := by
  cases h1 : icmp .neq ((chksE rs [] : Nat) : Int) 0
  · rw [h1] at h; have := neq_t' h; exact .inr (by omega)
  · exact .inl (fun h2 => neq_t h1 (chks_of h2 (fun x hx => by cases hx)))
theorem good_of {l : Li} {a : As} (hl : l.ok) (hli : liE l = 0) (ha : AL a) (hc : chkE a.rs = 0) (hln : a.bs.length = l.bodies.length) (hj : ∀ j, j < a.bs.length → bodyB a.rs j (a.bs.getD j default) = true) : Good l a := by
  refine ⟨hl, hli, ha, hc, fun b hb => ?_, hln⟩
  obtain ⟨i, hi, rfl⟩ := List.mem_iff_getElem.1 hb
  have h := hj i hi
  rw [getD_of (List.getElem?_eq_getElem hi)] at h
  unfold bodyB at h
  rw [Bool.and_eq_true, decide_eq_true_eq] at h
  exact h.1
/-- A driver, its body and turn. -/
structure DrP (l : Li) (xs : List Tn) (a : As) (i : Nat) (d : Dr) (n : Nat) (b : Pl) (x : Tn) : Prop where
  hn : d.body = n
  gb : a.bs[n]? = some b
  gx : xs[i]? = some x
  ec : nR b.c = nA (lq b.c)
  es : nR b.s = nA (lq b.s)
  av : b.av = Pq.av ⟨lq b.c, lq b.s, lq b.x, lq b.y⟩
  po : Pq.ok (llq a.rs).length 4000 ⟨lq b.c, lq b.s, lq b.x, lq b.y⟩
  eq : driverB l xs a i = turnB (llq a.rs) b x
theorem Good.dr {l : Li} {a : As} (h : Good l a) {xs : List Tn} (hx : ∀ x ∈ xs, x.t.ok ∧ x.err = 0 ∧ Qb 1000 x.t.q) (hxl : xs.length = l.drivers.length) {i : Nat} {d : Dr} (hd : l.drivers[i]? = some d) : ∃ n b x, DrP l xs a i d n b x := by
  have h1 := inB_t (dr_in h.li hd)
  obtain ⟨b, hb⟩ := getx (l := a.bs) (i := d.body.toNat) (by rw [h.ln]; omega)
  obtain ⟨x, hxx⟩ := getx (l := xs) (i := i) (by rw [hxl]; exact (List.getElem?_eq_some_iff.1 hd).1)
  obtain ⟨g1, g2⟩ := h.pl hb
  have g3 := (chks_ok (h.cb b (List.mem_of_getElem? hb))).2
  have g4 := h.al.nr b (List.mem_of_getElem? hb)
  exact ⟨d.body.toNat, b, x, by omega, hb, hxx, ((g4 b.c (by simp [Pl.l])).num (g3 b.c (by simp [Pl.l]))).1, ((g4 b.s (by simp [Pl.l])).num (g3 b.s (by simp [Pl.l]))).1, g1, g2,
    by unfold driverB; rw [getD_of hd, getD_of hb, getD_of hxx]⟩
theorem fl2_t {e n m : Nat} (h : cond (!(isNil (errV e))) true (icmp .neq (n : Int) (m : Int)) = true) : e ≠ 0 ∨ n ≠ m := by
  cases h1 : isNil (errV e)
  · exact .inl (isNil_f h1)
  · rw [h1] at h; have := neq_t' h; exact .inr (by omega)
theorem fl2_f {e n m : Nat} (h : cond (!(isNil (errV e))) true (icmp .neq (n : Int) (m : Int)) = false) : ¬ (e ≠ 0 ∨ n ≠ m) := by
  cases h1 : isNil (errV e)
  · rw [h1] at h; cases h
  · rw [h1] at h; have h2 := neq_f' h; have h3 := isNil_t h1; omega
/-- Only the fault of kind 0 is none. -/
theorem flt_k0 (l : Li) (xs : List Tn) (a : As) : (flt l xs a).1 = 0 → (flt l xs a).2 = 0 := by
  unfold flt
  split
  · intro h; cases h
  · split
    · intro h; cases h
    · split
      · intro h; cases h
      · split
        · intro h; cases h
        · intro _; rfl
theorem ver_cond {l : Li} {xs : List Tn} {a : As} : (((flt l xs a).1 : Int) == 0 && ((flt l xs a).2 : Int) == 0) = (decide ((0 : Nat) = 0) && decide ((flt l xs a).1 = 0)) := by
  have h := flt_k0 l xs a
  rw [Bool.eq_iff_iff]
  simp only [Bool.and_eq_true, beq_iff_eq, decide_eq_true_eq]
  constructor
  · rintro ⟨g1, g2⟩; exact ⟨trivial, by omega⟩
  · rintro ⟨_, g⟩; have := h g; exact ⟨by omega, by omega⟩
end Go.Lw
namespace Go.Lw
open Go.Proofs
theorem c_certify_equalC {ts : List (List Rat)} {r e f : Nat} (tw : Tw ts r) {x : List Rat} (hx : Nm ts.length e x) {v : Rat} (hv : Qb f v) (he : e + 2 * f ≤ 900000000) :
  FnC Tryz.prog 136 [towA ts, nA x, qA v] (bl (eqT ts (dec ts.length x) (dec ts.length (sh 0 (v : Rat))))) := by
 refine gF0 Tryz.func136 ?_
 refine gc (tw_Of (hv.qs (by omega))) ?_
 refine gc (tw_Cmp tw hx (nm_q tw.five hv) (by omega)) ?_
 refine gD ?_
 refine gE1 ?_
 exact congrArg bl (sgn_dec _)
theorem c_certify_equalE {rs : List (List Rt)} {r e f : Nat} (h0 : TR rs r) (h1 : chkE rs = 0) {x : List Rt} (hx : NR x e) (hn : numE rs.length x ≠ 0) {v : Rat} (hv : Qb f v) (he : e + 2 * f ≤ 900000000) :
  FnC Tryz.prog 136 [towR rs, nR x, qA v] (bl false) := by
 have hf := (nm_q (n := 0) (by omega) hv).rt (by omega)
 have hc := c_tower_Cmp rs r h0 x ((sh 0 (v : Rat)).map rt) e (f + f) hx hf (by omega)
 rw [nR_rt] at hc
 have h2 : chksE rs [x, (sh 0 (v : Rat)).map rt] ≠ 0 := fun h => hn ((chks_ok h).2 x (by simp))
 refine gF0 Tryz.func136 ?_
 refine gc (tw_Of (hv.qs (by omega))) ?_
 refine gc hc ?_
 refine gD ?_
 refine gE1 ?_
 rw [isNil_err, decide_eq_false h2]; rfl
/-- A number and a rational one. -/
def eqR (rs : List (List Rt)) (x : List Rt) (v : Rat) : Bool := decide (numE rs.length x = 0) && eqT (llq rs) (decL (llq rs) x) (dec (llq rs).length (sh 0 (v : Rat)))
theorem c_certify_equal {rs : List (List Rt)} {r e f : Nat} (h0 : TR rs r) (h1 : chkE rs = 0) {x : List Rt} (hx : NR x e) {v : Rat} (hv : Qb f v) (he : e + 2 * f ≤ 900000000) :
  FnC Tryz.prog 136 [towR rs, nR x, qA v] (bl (eqR rs x v)) := by
 unfold eqR
 by_cases hn : numE rs.length x = 0
 ·rw [decide_eq_true hn, Bool.true_and]
  obtain ⟨tw, hta⟩ := chk_tw h0 h1
  obtain ⟨e1, e2⟩ := hx.num hn
  have hl : (llq rs).length = rs.length := List.length_map _
  rw [hta, e1]
  exact c_certify_equalC tw ⟨tw.five, by rw [hl]; exact e2, hx.cb⟩ hv he
 ·rw [decide_eq_false hn, Bool.false_and]
  exact c_certify_equalE h0 h1 hx hn hv he
def stillB (rs : List (List Rt)) (b : Pl) : Bool := eqR rs b.c 1 && eqR rs b.s 0 && eqR rs b.x 0 && eqR rs b.y 0
theorem c_certify_still {rs : List (List Rt)} {r : Nat} (h0 : TR rs r) (h1 : chkE rs = 0) {b : Pl} (hb : ∀ x ∈ b.l, NR x 4000) : FnC Tryz.prog 74 [towR rs, b.av] (bl (stillB rs b)) := by
 have hq : ∀ x ∈ b.l, FnC Tryz.prog 136 [towR rs, nR x, .agg [.v (.bool false), .v (.slice none 0 0), .v (.slice none 0 0)]] (bl (eqR rs x 0)) := fun x hx =>
  Con.subA (.cons (.refl _) (.cons (.refl _) (.cons sub_q0 .nil))) (c_certify_equal h0 h1 (hb x hx) Qb.zero (by omega))
 refine gF0 Tryz.func74 ?_
 refine gc (c_fraction_Of 1 (by omega)) ?_
 refine gc (show FnC Tryz.prog 136 [towR rs, nR b.c, qA ((1 : Int) : Rat)] (bl (eqR rs b.c 1)) from c_certify_equal h0 h1 (hb b.c (by simp [Pl.l])) Qb.one (by omega)) ?_
 refine gcG (fun _ => (hq b.s (by simp [Pl.l]))) ?_
 refine gcG (fun _ => (hq b.x (by simp [Pl.l]))) ?_
 refine gcG (fun _ => (hq b.y (by simp [Pl.l]))) ?_
 refine gD ?_
 refine gE1 ?_
 exact congrArg bl (and_cond4 _ _ _ _)
theorem c_certify_unit {rs : List (List Rt)} (h0 : TR rs 40000) (h1 : chkE rs = 0) {b : Pl} (hb : ∀ x ∈ b.l, NR x 4000) : FnC Tryz.prog 73 [towR rs, b.av] (bl (decide (chksE rs b.l = 0) && unitB (llq rs) b)) := by
 have kb := kb4
 obtain ⟨tw, hta⟩ := chk_tw h0 h1
 have h5 : rs.length ≤ 5 := by have := tw.five; rwa [List.length_map] at this
 have hll : (llq rs).length = rs.length := List.length_map _
 refine gF0 Tryz.func73 ?_
 refine ge rfl ?_
 refine gL1 [2, 3, 18, 19] [2, 3] (fun (k : Nat) => [(20, some (i64 k))]) (fun _ => []) (fun k => k ≤ 4 ∧ ∀ x ∈ b.l.take k, numE rs.length x = 0) (fun k => 4 - k) 0 ⟨Nat.zero_le _, fun x hx => by simp at hx⟩ ?_
 rintro k ⟨hk, hkj⟩ K1 hK1
 refine gC (fun ht21 => ?_) (fun ht21 => ?_) (st2 := (7, 0))
 ·have hkn : k < 4 := lss_t (b := 4) ht21
  obtain ⟨x, hx⟩ : ∃ x, b.l[k]? = some x := getx (l := b.l) hkn
  have hxn := hb x (List.mem_of_getElem? hx)
  have hone : chksE rs [x] = numE rs.length x := chks_one h1
  refine gi (getmap hx) ?_
  refine gc (c_tower_Valid rs 40000 h0 x 4000 hxn) ?_
  refine gC (fun ht27 => ?_) (fun ht27 => ?_)
  ·have h4 := of_decide_eq_false (not_t ht27)
   rw [hone] at h4
   refine gE1 ?_
   rw [chks_at h1 hx hkj h4, decide_eq_false h4]; rfl
  ·have h4 := of_decide_eq_true (not_f ht27)
   rw [hone] at h4
   refine ga (i64_add1 (by unfold maxL; omega)) ?_
   exact gK1 hK1 (k + 1) ⟨hkn, fun y hy => by rw [take_succ_get hx] at hy; rcases List.mem_append.1 hy with h9 | h9; exact hkj y h9; (rw [List.mem_singleton.1 h9]; exact h4)⟩
 ·have hkn : k = 4 := lss_end (b := 4) hk ht21
  subst hkn
  have h4 : chksE rs b.l = 0 := chks_of h1 hkj
  obtain ⟨hba, hbo⟩ := pl_canon h4 hb h5
  rw [← hll] at hbo
  have hdn := dot_nm tw hbo.c hbo.s hbo.c hbo.s
  have hdot := c_point_Dot tw hbo.c hbo.s hbo.c hbo.s (by omega)
  have heq := c_certify_equalC tw hdn Qb.one (by omega)
  rw [dec_sh] at heq
  refine gW (Wk.of (sl := [(2, some (.ptr 2 0)), (3, some (.ptr 3 0))]) (hp := [(2, some (.box (towA (llq rs)).cells)), (3, some (.box (Pq.av ⟨lq b.c, lq b.s, lq b.x, lq b.y⟩).cells))]) (by repeat (first | exact SlW.nil | refine SlW.k ?_)) (.cons rfl (BlkSub.of (congrArg (fun v => Blk.box (AV.cells v)) hta)) (.cons rfl (BlkSub.of (congrArg (fun v => Blk.box (AV.cells v)) hba)) .nil))) ?_
  refine gc hdot ?_
  refine gcG (fun _ => (c_fraction_Of 1 (by omega))) ?_
  refine gcG (fun _ => heq) ?_
  refine gD ?_
  refine gE1 ?_
  rw [h4]; rfl
theorem c_certify_turned {ts : List (List Rat)} (tw : Tw ts 40000) {b : Pl} (hb : Pq.ok ts.length 4000 ⟨lq b.c, lq b.s, lq b.x, lq b.y⟩) {x : Tn} (hx : x.t.ok) (he : x.err = 0) (hq : Qb 1000 x.t.q) :
  FnC Tryz.prog 80 [towA ts, Pq.av ⟨lq b.c, lq b.s, lq b.x, lq b.y⟩, x.av] (bl (turnB ts b x)) := by
 have hc := c_turn_Cos x hx hq (by omega)
 rw [if_pos he, he] at hc
 have hs := c_turn_Sin x hx hq (by omega)
 rw [if_pos he, he] at hs
 refine gF0 Tryz.func80 ?_
 refine gc hc ?_
 refine gC (fun ht16 => ?_) (fun ht16 => ?_) (st1 := (3, 0))
 ·cases ht16
 ·refine gc hs ?_
  refine gcG (fun _ => (c_certify_equalC tw hb.c (qb_cos hq) (by omega))) ?_
  refine gcG (fun _ => (c_certify_equalC tw hb.s (qb_sin hq) (by omega))) ?_
  refine gE1 ?_
  exact congrArg bl (and_cond _ _)
theorem c_certify_at {l : Li} {a : As} (hg : Good l a) {body pt : Int} (h1 : inB body l.bodies.length = true) (h2 : inB pt (ptsAt l body).length = true) :
  FnC Tryz.prog 138 [l.av, a.av, i64 body, i64 pt] (.tup [ptA (sh (llq a.rs).length (ptAt l a body pt).1) (sh (llq a.rs).length (ptAt l a body pt).2), .v .nilIface]) := by
 obtain ⟨n, k, bd, m, b, hp⟩ := hg.at h1 h2
 obtain ⟨tw, hta, h5, hll⟩ := hg.tw
 have kb := kb4
 obtain ⟨hba, hbo⟩ := hg.pl hp.gb
 have hlb := hg.lo.lb
 have hn := hp.hn
 have hk := hp.hk
 rw [hp.eq]
 subst hn
 subst hk
 have hat : FnC Tryz.prog 192 [towR a.rs, b.av, m.x.av, m.y.av] (.tup [ptA (sh (llq a.rs).length (atP (llq a.rs) b m).1) (sh (llq a.rs).length (atP (llq a.rs) b m).2), .v .nilIface]) := by
  rw [hta, hba, hp.mx, hp.my]
  exact c_point_At tw hbo.c hbo.s hbo.x hbo.y hp.qx hp.qy (by omega)
 refine gF0 Tryz.func138 ?_
 refine gi (getmap hp.gbd) ?_
 refine gi (getmap hp.gm) ?_
 refine gi (getmap hp.gb) ?_
 refine gc hat ?_
 refine gD ?_
 refine gE2 ?_
 first | rfl | (simp; done)
theorem at_nms {l : Li} {a : As} (hg : Good l a) {body pt : Int} (h1 : inB body l.bodies.length = true) (h2 : inB pt (ptsAt l body).length = true) :
  Nm (llq a.rs).length 6000000 (sh (llq a.rs).length (ptAt l a body pt).1) ∧ Nm (llq a.rs).length 6000000 (sh (llq a.rs).length (ptAt l a body pt).2) := by
 obtain ⟨n, k, bd, m, b, hp⟩ := hg.at h1 h2
 obtain ⟨tw, hta, h5, hll⟩ := hg.tw
 have kb := kb4
 rw [hp.eq]
 have h := at_nm tw (hg.pl hp.gb).2 hp.qx hp.qy
 exact ⟨h.1.mono (by omega), h.2.mono (by omega)⟩
theorem c_certify_holds {l : Li} {a : As} (hg : Good l a) {i : Nat} {j : Jt} (hj : l.joints[i]? = some j) : FnC Tryz.prog 77 [l.av, a.av, j.av] (bl (jointB l a j)) := by
 obtain ⟨tw, hta, h5, hll⟩ := hg.tw
 have kb := kb4
 obtain ⟨i1, i2, i3, i4, i5⟩ := jt_in hg.li hj
 have np := at_nms hg i1 i3
 have nq := at_nms hg i2 i4
 have hsame := c_point_Same tw np.1 np.2 nq.1 nq.2 (by omega)
 simp only [dec_sh] at hsame
 rw [← hta] at hsame
 refine gF0 Tryz.func77 ?_
 refine gc (c_certify_at hg i1 i3) ?_
 refine gC (fun ht25 => ?_) (fun ht25 => ?_) (st1 := (3, 0))
 ·cases ht25
 ·refine gc (c_certify_at hg i2 i4) ?_
  refine gC (fun ht37 => ?_) (fun ht37 => ?_) (st1 := (6, 0))
  ·cases ht37
  ·refine gC (fun ht40 => ?_) (fun ht40 => ?_)
   ·have hk : j.kind = 0 := eql_t ht40
    refine gc hsame ?_
    refine gE1 ?_
    unfold jointB; rw [if_pos hk]; exact congrArg bl (Bool.decide_and _ _)
   ·have hk : j.kind ≠ 0 := eql_f ht40
    have nr := at_nms hg i2 (i5 hk)
    have hor := c_point_Orient tw nq.1 nq.2 nr.1 nr.2 np.1 np.2 (by omega)
    simp only [dec_sh] at hor
    rw [← hta] at hor
    refine gc (c_certify_at hg i2 (i5 hk)) ?_
    refine gC (fun ht65 => ?_) (fun ht65 => ?_) (st1 := (12, 0))
    ·cases ht65
    ·refine gc hor ?_
     refine gE1 ?_
     unfold jointB; rw [if_neg hk]; exact congrArg bl (sgn_dec _)
end Go.Lw
namespace Go.Lw
open Go.Proofs
end Go.Lw
namespace Go.Lw
structure Gr where
  kind : Int
  bodies : List Int
  joints : List Int
  driver : Int
instance : Inhabited Gr := ⟨⟨0, [], [], 0⟩⟩
def Gr.av (g : Gr) : AV := .agg [i64 g.kind, .lst 1 (g.bodies.map i64), .lst 1 (g.joints.map i64), i64 g.driver]
/-- Whether a body is marked. -/
def kn (k : List Bool) (i : Int) : Bool := k.getD i.toNat false
def onlyK (n : Nat) (b : Int) : List Bool := (List.replicate n false).set b.toNat true
def drivenB (l : Li) (b : Int) : Bool := l.drivers.any (fun d => decide (d.body = b))
def freeB (l : Li) (known : List Bool) (b : Int) : Bool := !kn known b && !drivenB l b
def jHit (kind body : Int) (oth : List Bool) (j : Jt) : Bool := decide (j.kind = kind) && (decide (j.a = body) && kn oth j.b || decide (j.b = body) && kn oth j.a)
def jointI (l : Li) (kind body : Int) (oth : List Bool) : Int := ixI (firstB l.joints.length (fun i => !jHit kind body oth (l.joints.getD i default)))
def drHit (l : Li) (known : List Bool) (i : Nat) : Bool := !kn known (l.drivers.getD i default).body && decide (0 ≤ jointI l 0 (l.drivers.getD i default).body known)
def driverG (l : Li) (known : List Bool) : Option Gr :=
  (firstB l.drivers.length (fun i => !drHit l known i)).map fun i => ⟨0, [(l.drivers.getD i default).body], [jointI l 0 (l.drivers.getD i default).body known], i⟩
def prHit (l : Li) (known : List Bool) (i k : Nat) : Bool :=
  (freeB l known i && freeB l known k) && (decide (0 ≤ jointI l 0 i known) && decide (0 ≤ jointI l 0 k known) && decide (0 ≤ jointI l 0 i (onlyK l.bodies.length k)))
/-- The first partner behind a body. -/
def prAt (l : Li) (known : List Bool) (i : Nat) : Option Nat := (firstB (l.bodies.length - (i + 1)) (fun k => !prHit l known i (i + 1 + k))).map (· + (i + 1))
def prG (l : Li) (known : List Bool) (i k : Nat) : Gr := ⟨1, [i, k], [jointI l 0 i known, jointI l 0 k known, jointI l 0 i (onlyK l.bodies.length k)], 0⟩
def pairG (l : Li) (known : List Bool) : Option Gr :=
  (firstB l.bodies.length (fun i => (prAt l known i).isNone)).map fun i => match prAt l known i with
    | some k => prG l known i k
    | none => default
def sgHit (l : Li) (known : List Bool) (i : Nat) : Bool := freeB l known i && (decide (0 ≤ jointI l 0 i known) && decide (0 ≤ jointI l 1 i known))
def sgG (l : Li) (known : List Bool) (i : Nat) : Gr :=
  ⟨if (l.joints.getD (jointI l 1 i known).toNat default).a = i then 2 else 3, [i], [jointI l 0 i known, jointI l 1 i known], 0⟩
def singleG (l : Li) (known : List Bool) : Option Gr := (firstB l.bodies.length (fun i => !sgHit l known i)).map (sgG l known)
def nextG (l : Li) (known : List Bool) : Option Gr := (driverG l known).or ((pairG l known).or (singleG l known))
def markAll (known : List Bool) (bs : List Int) : List Bool := bs.foldl (fun k b => k.set b.toNat true) known
def findFrom (l : Li) : Nat → List Bool → List Gr → List Bool × List Gr
  | 0, known, out => (known, out)
  | n + 1, known, out => match nextG l known with
    | none => (known, out)
    | some g => findFrom l n (markAll known g.bodies) (out ++ [g])
def findG (l : Li) : List Gr := (findFrom l l.bodies.length (onlyK l.bodies.length 0) []).2
def restK (l : Li) : List Bool := (findG l).foldl (fun k g => markAll k g.bodies) (onlyK l.bodies.length 0)
def restJ (l : Li) : List Bool := (findG l).foldl (fun k g => markAll k g.joints) (List.replicate l.joints.length false)
def unmarked (k : List Bool) : List Int := ((List.range k.length).filter (fun i => !k.getD i false)).map (fun i : Nat => ((i : Nat) : Int))
def splitE (l : Li) : Nat := if (unmarked (restK l)).length + (unmarked (restJ l)).length = 0 then 0 else 7
def splitG (l : Li) : List Gr := if splitE l = 0 then findG l else []
theorem jhit_cond {kind body : Int} {oth : List Bool} {j : Jt} {va vb : Bool} (ea : kn oth j.a = va) (eb : kn oth j.b = vb) :
    cond (icmp .eql j.kind kind) (cond (cond (icmp .eql j.a body) vb false) true (cond (icmp .eql j.b body) va false)) false = jHit kind body oth j := by
  unfold jHit
  rw [int_eqb, int_eqb, int_eqb, ea, eb, and_cond, and_cond, and_cond, or_cond]
/-! ### Sizes -/
theorem len_only (n : Nat) (b : Int) : (onlyK n b).length = n := by unfold onlyK; simp
theorem len_mark : ∀ (bs : List Int) (k : List Bool), (markAll k bs).length = k.length
  | [], k => rfl
  | b :: bs, k => by
    show (markAll (k.set b.toNat true) bs).length = _
    rw [len_mark bs]; simp
theorem firstB_some {n i : Nat} {ok : Nat → Bool} (h : firstB n ok = some i) : i < n ∧ ok i = false := by
  unfold firstB at h
  rw [List.find?_range_eq_some] at h
  exact ⟨by simpa using h.2.1, by simpa using h.1⟩
theorem jointI_lt {l : Li} {kind body : Int} {oth : List Bool} : -1 ≤ jointI l kind body oth ∧ jointI l kind body oth < l.joints.length := by
  unfold jointI
  cases h : firstB l.joints.length (fun i => !jHit kind body oth (l.joints.getD i default)) with
  | none => exact ⟨by decide, by show (-1 : Int) < _; omega⟩
  | some i => have := (firstB_some h).1; exact ⟨by show (-1 : Int) ≤ (i : Int); omega, by show (i : Int) < _; omega⟩
/-- The bodies and joints of a group that is found are there. -/
structure GrOk (l : Li) (g : Gr) : Prop where
  b : ∀ x ∈ g.bodies, 0 ≤ x ∧ x < l.bodies.length
  j : ∀ x ∈ g.joints, 0 ≤ x ∧ x < l.joints.length
  lb : g.bodies.length ≤ 2
  lj : g.joints.length ≤ 3
theorem driverG_ok {l : Li} (hl : liE l = 0) {known : List Bool} {g : Gr} (h : driverG l known = some g) : GrOk l g := by
  unfold driverG at h
  rw [Option.map_eq_some_iff] at h
  obtain ⟨i, hi, rfl⟩ := h
  obtain ⟨h1, h2⟩ := firstB_some hi
  obtain ⟨d, hd⟩ := getx h1
  have h3 := inB_t (dr_in hl hd)
  unfold drHit at h2
  simp only [Bool.not_eq_false', Bool.and_eq_true, decide_eq_true_eq] at h2
  rw [getD_of hd] at h2 ⊢
  have h4 := jointI_lt (l := l) (kind := 0) (body := d.body) (oth := known)
  refine ⟨fun x hx => ?_, fun x hx => ?_, by simp, by simp⟩
  · rw [List.mem_singleton.1 hx]; exact h3
  · rw [List.mem_singleton.1 hx]; exact ⟨h2.2, h4.2⟩
theorem pairG_ok {l : Li} {known : List Bool} {g : Gr} (h : pairG l known = some g) : GrOk l g := by
  unfold pairG at h
  rw [Option.map_eq_some_iff] at h
  obtain ⟨i, hi, h⟩ := h
  obtain ⟨h1, h2⟩ := firstB_some hi
  split at h
  · rename_i k hk
    subst h
    unfold prAt at hk
    rw [Option.map_eq_some_iff] at hk
    obtain ⟨k', hk', rfl⟩ := hk
    obtain ⟨h3, h4⟩ := firstB_some hk'
    rw [show i + 1 + k' = k' + (i + 1) by omega] at h4
    unfold prHit at h4
    simp only [Bool.not_eq_false', Bool.and_eq_true, decide_eq_true_eq] at h4
    obtain ⟨_, ⟨j1, j2⟩, j3⟩ := h4
    refine ⟨fun x hx => ?_, fun x hx => ?_, by simp [prG], by simp [prG]⟩
    · simp only [prG, List.mem_cons, List.not_mem_nil, or_false] at hx
      rcases hx with rfl | rfl <;> constructor <;> omega
    · simp only [prG, List.mem_cons, List.not_mem_nil, or_false] at hx
      rcases hx with rfl | rfl | rfl
      · exact ⟨j1, jointI_lt.2⟩
      · exact ⟨j2, jointI_lt.2⟩
      · exact ⟨j3, jointI_lt.2⟩
  · rename_i hk; rw [hk] at h2; cases h2
theorem singleG_ok {l : Li} {known : List Bool} {g : Gr} (h : singleG l known = some g) : GrOk l g := by
  unfold singleG at h
  rw [Option.map_eq_some_iff] at h
  obtain ⟨i, hi, rfl⟩ := h
  obtain ⟨h1, h2⟩ := firstB_some hi
  unfold sgHit at h2
  simp only [Bool.not_eq_false', Bool.and_eq_true, decide_eq_true_eq] at h2
  obtain ⟨_, j1, j2⟩ := h2
  refine ⟨fun x hx => ?_, fun x hx => ?_, by simp [sgG], by simp [sgG]⟩
  · simp only [sgG, List.mem_cons, List.not_mem_nil, or_false] at hx
    subst hx; constructor <;> omega
  · simp only [sgG, List.mem_cons, List.not_mem_nil, or_false] at hx
    rcases hx with rfl | rfl
    · exact ⟨j1, jointI_lt.2⟩
    · exact ⟨j2, jointI_lt.2⟩
theorem nextG_ok {l : Li} (hl : liE l = 0) {known : List Bool} {g : Gr} (h : nextG l known = some g) : GrOk l g := by
  unfold nextG at h
  cases h1 : driverG l known with
  | some g' => rw [h1] at h; cases h; exact driverG_ok hl h1
  | none =>
    rw [h1] at h
    cases h2 : pairG l known with
    | some g' => rw [h2] at h; cases h; exact pairG_ok h2
    | none => rw [h2] at h; exact singleG_ok h
theorem findFrom_ok {l : Li} (hl : liE l = 0) : ∀ (n : Nat) (known : List Bool) (out : List Gr), (∀ g ∈ out, GrOk l g) → (∀ g ∈ (findFrom l n known out).2, GrOk l g) ∧ (findFrom l n known out).2.length ≤ out.length + n
  | 0, known, out, h => ⟨h, by simp [findFrom]⟩
  | n + 1, known, out, h => by
    unfold findFrom
    cases hg : nextG l known with
    | none => exact ⟨h, by simp⟩
    | some g =>
      have h1 := findFrom_ok hl n (markAll known g.bodies) (out ++ [g]) (fun x hx => by
        rcases List.mem_append.1 hx with hx | hx
        · exact h x hx
        · rw [List.mem_singleton.1 hx]; exact nextG_ok hl hg)
      refine ⟨h1.1, ?_⟩
      have := h1.2
      rw [List.length_append] at this
      show (findFrom l n (markAll known g.bodies) (out ++ [g])).2.length ≤ _
      simp only [List.length_cons, List.length_nil] at this
      omega
theorem findG_ok {l : Li} (hl : liE l = 0) : (∀ g ∈ findG l, GrOk l g) ∧ (findG l).length ≤ 8 := by
  have h := findFrom_ok hl l.bodies.length (onlyK l.bodies.length 0) [] (fun g hg => by cases hg)
  have h8 := (li_parts hl).2.2.2.1
  exact ⟨h.1, by have := h.2; simp only [List.length_nil] at this; unfold findG; omega⟩
end Go.Lw
namespace Go.Lw
open Go.Proofs
theorem c_r25_onlyO (d : Nat) (hd : Nat.blt d 1000 = true) (l : Li) (hl : l.bodies.length ≤ 1000) (b : Nat) (hb : b < l.bodies.length) :
  Con Tryz.prog 121 [l.av, i64 b] [] (.ms d 1 0 l.bodies.length) [(d, some (.row 1 ((onlyK l.bodies.length b).map bl)))] := by
 refine gF Tryz.func121 (fun k z h => by cases h) ?_
 refine gl ?_
 refine gs (s_make (.tmp rfl) T180 rfl T4 rfl rfl (by omega) (by dsimp only; omega) rfl) ?_
 refine gs (s_idxMs (.tmp rfl) (.tmp rfl) T180 rfl T4 rfl (by omega) (by omega) rfl) ?_
 refine gs (s_stElem (.tmp rfl) rfl (by rw [List.getElem?_replicate, if_pos (by simp; omega)]) rfl (.const _) rfl rfl T4 rfl rfl) ?_ (3, 0)
 refine gW (Wk.of (sl := [(5, some (.ms 9 1 0 l.bodies.length))]) (hp := [(9, some (.row 1 ((onlyK l.bodies.length b).map bl)))]) (.cons rfl (Sub.of (by rw [Int.toNat_natCast])) .nil) (.cons rfl (BlkSub.of (by unfold onlyK; simp only [List.map_set, List.map_replicate, Nat.zero_add, Int.toNat_natCast]; rfl)) .nil)) ?_ (3, 0)
 refine gW (Wk.rekey (k := 9) (d := 900) rfl rfl) ?_
 refine gR ?_
 exact Fin.own1 rfl hd rfl
theorem c_r25_only (l : Li) (hl : l.bodies.length ≤ 1000) (b : Nat) (hb : b < l.bodies.length) : FnC Tryz.prog 121 [l.av, i64 b] (.lst 1 ((onlyK l.bodies.length b).map bl)) := by
 have h := Con.freeze (by rw [List.length_map, len_only]; omega) (c_r25_onlyO 0 rfl l hl b hb)
 rw [List.drop_zero, List.take_of_length_le (by rw [List.length_map, len_only]; exact Nat.le_refl _)] at h
 exact h
theorem c_r25_driven (l : Li) (hl : l.ok) (b : Int) : FnC Tryz.prog 217 [l.av, i64 b] (bl (drivenB l b)) := by
 have hld := hl.ld
 refine gF0 Tryz.func217 ?_
 refine gl ?_
 refine gL1 [1, 8, 9] [] (fun (i : Nat) => [(10, some (i64 i))]) (fun _ => []) (fun i => i ≤ l.drivers.length ∧ (l.drivers.take i).any (fun d => decide (d.body = b)) = false) (fun i => l.drivers.length - i) 0 ⟨Nat.zero_le _, rfl⟩ ?_
 rintro i ⟨hi, hj⟩ K1 hK1
 refine gC (fun ht11 => ?_) (fun ht11 => ?_)
 ·have hin := lss_t ht11
  obtain ⟨d, hd⟩ := getx hin
  refine gi (getmap hd) ?_
  refine gC (fun ht17 => ?_) (fun ht17 => ?_)
  ·have h1 : d.body = b := eql_t ht17
   refine gE1 ?_
   unfold drivenB; rw [List.any_eq_true.2 ⟨d, List.mem_of_getElem? hd, decide_eq_true h1⟩]; rfl
  ·have h1 : d.body ≠ b := eql_f ht17
   refine ga (i64_add1 (by unfold maxL; omega)) ?_
   exact gK1 hK1 (i + 1) ⟨hin, any_step hd hj (decide_eq_false h1)⟩
 ·have hin := lss_end hi ht11
  subst hin
  rw [List.take_length] at hj
  refine gE1 ?_
  unfold drivenB; rw [hj]; rfl
theorem c_r25_joint (l : Li) (hl : l.ok) (hli : liE l = 0) (kind body : Int) (oth : List Bool) (ho : oth.length = l.bodies.length) : FnC Tryz.prog 178 [l.av, i64 kind, i64 body, .lst 1 (oth.map bl)] (i64 (jointI l kind body oth)) := by
 have hlj := hl.lj
 refine gF0 Tryz.func178 ?_
 refine gl ?_
 refine gL1 [1, 2, 3, 12, 13] [] (fun (i : Nat) => [(14, some (i64 i))]) (fun _ => []) (fun i => i ≤ l.joints.length ∧ ∀ j, j < i → (!jHit kind body oth (l.joints.getD j default)) = true) (fun i => l.joints.length - i) 0 ⟨Nat.zero_le _, fun j h => by omega⟩ ?_
 rintro i ⟨hi, hj⟩ K1 hK1
 refine gC (fun ht15 => ?_) (fun ht15 => ?_)
 ·have hin := lss_t ht15
  obtain ⟨j, hjt⟩ := getx hin
  have hjd : l.joints.getD i default = j := getD_of hjt
  obtain ⟨i1, i2, _⟩ := jt_in hli hjt
  have b1 := inB_t i1
  have b2 := inB_t i2
  obtain ⟨va, hva⟩ : ∃ v, oth[j.a.toNat]? = some v := getx (by omega)
  obtain ⟨vb, hvb⟩ : ∃ v, oth[j.b.toNat]? = some v := getx (by omega)
  have ea : kn oth j.a = va := getD_of hva
  have eb : kn oth j.b = vb := getD_of hvb
  refine gi (getmap hjt) ?_
  refine giG (fun _ => (getzx (n := j.b.toNat) (by omega) hvb)) ?_
  refine giG (fun _ => (getzx (n := j.a.toNat) (by omega) hva)) ?_
  refine gC (fun ht48 => ?_) (fun ht48 => ?_)
  ·have h2 : jHit kind body oth j = true := by rw [← jhit_cond (va := va) (vb := vb) ea eb]; exact ht48
   refine gE1 ?_
   unfold jointI; rw [firstB_at hin hj (by rw [hjd, h2]; rfl)]; rfl
  ·have h2 : jHit kind body oth j = false := by rw [← jhit_cond (va := va) (vb := vb) ea eb]; exact ht48
   refine ga (i64_add1 (by unfold maxL; omega)) ?_
   exact gK1 hK1 (i + 1) ⟨hin, fun k h9 => by rcases Nat.lt_or_ge k i with g | g; exact hj k g; (have : k = i := by omega); subst this; rw [hjd, h2]; rfl⟩
 ·have hin := lss_end hi ht15
  subst hin
  refine gE1 ?_
  unfold jointI; rw [firstB_all hj]; rfl
theorem c_r25_free (l : Li) (hl : l.ok) (known : List Bool) (b : Nat) (hb : b < known.length) : FnC Tryz.prog 179 [l.av, .lst 1 (known.map bl), i64 b] (bl (freeB l known b)) := by
 obtain ⟨v, hv⟩ := getx hb
 have ev : kn known (b : Int) = v := getD_of (by rw [Int.toNat_natCast]; exact hv)
 refine gF0 Tryz.func179 ?_
 refine gi (getmap hv) ?_
 refine gcG (fun _ => (c_r25_driven l hl b)) ?_
 refine gE1 ?_
 unfold freeB; rw [ev]; exact congrArg bl (and_cond _ _)
end Go.Lw
namespace Go.Lw
open Go.Proofs
theorem sub_gr0 : Sub (.agg [.v (.int .i64 0), .v (.slice none 0 0), .v (.slice none 0 0), .v (.int .i64 0)]) (Gr.av default) := .agg (.cons (.refl _) (.cons (.nil _ _ _) (.cons (.nil _ _ _) (.cons (.refl _) .nil)))) rfl
theorem geq_t {z : Int} (h : icmp .geq z 0 = true) : 0 ≤ z := of_decide_eq_true h
theorem geq_f {z : Int} (h : icmp .geq z 0 = false) : ¬ 0 ≤ z := of_decide_eq_false h
theorem three_b {a b c : Int} : cond (cond (icmp .geq a 0) (icmp .geq b 0) false) (icmp .geq c 0) false = (decide (0 ≤ a) && decide (0 ≤ b) && decide (0 ≤ c)) := by
 have e : ∀ z : Int, icmp .geq z 0 = decide (0 ≤ z) := fun z => rfl
 rw [e, e, e, and_cond, and_cond]
theorem two_b {a b : Int} : cond (icmp .lss a 0) true (icmp .lss b 0) = !(decide (0 ≤ a) && decide (0 ≤ b)) := by
 have e : ∀ z : Int, icmp .lss z 0 = !decide (0 ≤ z) := fun z => by rw [← decide_not]; exact decide_eq_decide.2 (by omega)
 rw [e, e, or_cond, Bool.not_and]
theorem two_t {a b : Int} (h : cond (icmp .lss a 0) true (icmp .lss b 0) = true) : (decide (0 ≤ a) && decide (0 ≤ b)) = false := by rw [two_b] at h; exact not_t h
theorem two_f {a b : Int} (h : cond (icmp .lss a 0) true (icmp .lss b 0) = false) : 0 ≤ a ∧ 0 ≤ b := by
 rw [two_b] at h
 have := not_f h
 simpa using this
theorem borJ {l : Li} {known : List Bool} (hl : l.ok) (hli : liE l = 0) (kind body : Int) (hk : known.length = l.bodies.length) :
  Con Tryz.prog 178 [l.av, i64 kind, i64 body, .ms 1000 1 0 known.length] [(1000, some (.row 1 (known.map bl)))] (i64 (jointI l kind body known)) [(1000, some (.row 1 (known.map bl)))] := by
 refine Con.borrow (args := [l.av, i64 kind, i64 body, .lst 1 (known.map bl)]) 1000 1 (known.map bl) rfl rfl rfl ?_ rfl (fun k' x h => by cases h) (c_r25_joint l hl hli kind body known hk)
 intro j x' hj
 match j, hj with
 | 0, hj => cases hj; exact .inl rfl
 | 1, hj => cases hj; exact .inl rfl
 | 2, hj => cases hj; exact .inl rfl
 | 3, hj => cases hj; exact .inr ⟨0, known.length, rfl, by simp, by rw [List.drop_zero, List.take_of_length_le (by simp)]; rfl⟩
theorem borF {l : Li} {known : List Bool} (hl : l.ok) (b : Nat) (hb : b < known.length) :
  Con Tryz.prog 179 [l.av, .ms 1000 1 0 known.length, i64 b] [(1000, some (.row 1 (known.map bl)))] (bl (freeB l known b)) [(1000, some (.row 1 (known.map bl)))] := by
 refine Con.borrow (args := [l.av, .lst 1 (known.map bl), i64 b]) 1000 1 (known.map bl) rfl rfl rfl ?_ rfl (fun k' x h => by cases h) (c_r25_free l hl known b hb)
 intro j x' hj
 match j, hj with
 | 0, hj => cases hj; exact .inl rfl
 | 1, hj => cases hj; exact .inr ⟨0, known.length, rfl, by simp, by rw [List.drop_zero, List.take_of_length_le (by simp)]; rfl⟩
 | 2, hj => cases hj; exact .inl rfl
theorem c_r25_driver (l : Li) (hl : l.ok) (hli : liE l = 0) (known : List Bool) (hk : known.length = l.bodies.length) : Con Tryz.prog 122 [l.av, .ms 1000 1 0 known.length] [(1000, some (.row 1 (known.map bl)))] (.tup [((driverG l known).getD default).av, bl (driverG l known).isSome]) [(1000, some (.row 1 (known.map bl)))] := by
 have hld := hl.ld
 refine gF Tryz.func122 (fun k z h => lk1000 h) ?_
 refine gl ?_
 refine gL1 [2, 4, 10, 11] [2, 4, 1000] (fun (i : Nat) => [(1, some (.ms 1000 1 0 known.length)), (12, some (i64 i))]) (fun _ => []) (fun i => i ≤ l.drivers.length ∧ ∀ j, j < i → (!drHit l known j) = true) (fun i => l.drivers.length - i) 0 ⟨Nat.zero_le _, fun j h => by omega⟩ ?_
 rintro i ⟨hi, hj⟩ K1 hK1
 refine gC (fun ht13 => ?_) (fun ht13 => ?_)
 ·have hin := lss_t ht13
  obtain ⟨d, hd⟩ := getx hin
  have hdd : l.drivers.getD i default = d := getD_of hd
  have hb := inB_t (dr_in hli hd)
  obtain ⟨v, hv⟩ : ∃ v, known[d.body.toNat]? = some v := getx (by omega)
  have ev : kn known d.body = v := getD_of hv
  refine gi (getmap hd) ?_
  refine gs (s_idxMs (.tmp rfl) (.tmp rfl) T180 rfl T4 rfl (by omega) (by omega) rfl) ?_
  refine gs (s_loadEptr (.tmp rfl) rfl (by rw [Nat.zero_add, List.getElem?_map, hv]; rfl) T4 rfl rfl rfl) ?_
  refine gC (fun ht21 => ?_) (fun ht21 => ?_)
  ·have h2 : drHit l known i = false := by unfold drHit; rw [hdd, ev, ht21]; rfl
   refine ga (i64_add1 (by unfold maxL; omega)) ?_
   exact gK1 hK1 (i + 1) ⟨hin, fun k h9 => by rcases Nat.lt_or_ge k i with g | g; exact hj k g; (have : k = i := by omega); subst this; rw [h2]; rfl⟩
  ·have hv0 : v = false := ht21
   refine gt (s_callR (borJ hl hli 0 d.body hk) (.cons (.tmp rfl) (.cons (.const _) (.cons (.tmp rfl) (.cons (.tmp rfl) .nil)))) rfl rfl rfl) ?_
   refine gC (fun ht28 => ?_) (fun ht28 => ?_)
   ·have h2 : drHit l known i = true := by unfold drHit; rw [hdd, ev, hv0, decide_eq_true (geq_t ht28)]; rfl
    have hg : driverG l known = some ⟨0, [d.body], [jointI l 0 d.body known], i⟩ := by unfold driverG; rw [firstB_at hin hj (by rw [h2]; rfl), ← hdd]; rfl
    refine gR ?_
    rw [hg]
    exact Fin.keep (keep1 rfl)
   ·have h2 : drHit l known i = false := by unfold drHit; rw [hdd, decide_eq_false (geq_f ht28), Bool.and_false]
    refine ga (i64_add1 (by unfold maxL; omega)) ?_
    exact gK1 hK1 (i + 1) ⟨hin, fun k h9 => by rcases Nat.lt_or_ge k i with g | g; exact hj k g; (have : k = i := by omega); subst this; rw [h2]; rfl⟩
 ·have hin := lss_end hi ht13
  subst hin
  have hg : driverG l known = none := by unfold driverG; rw [firstB_all hj]; rfl
  refine gR ?_
  exact Fin.sub (Fin.keep (keep1 rfl)) (by rw [hg]; exact Sub.tup (.cons sub_gr0 (.cons (.refl _) .nil)))
theorem c_r25_pair (l : Li) (hl : l.ok) (hli : liE l = 0) (known : List Bool) (hk : known.length = l.bodies.length) : Con Tryz.prog 123 [l.av, .ms 1000 1 0 known.length] [(1000, some (.row 1 (known.map bl)))] (.tup [((pairG l known).getD default).av, bl (pairG l known).isSome]) [(1000, some (.row 1 (known.map bl)))] := by
 have h8 := (li_parts hli).2.2.2.1
 refine gF Tryz.func123 (fun k z h => lk1000 h) ?_
 refine gl ?_
 refine gL1 [2, 4, 12, 13] [2, 4, 1000] (fun (i : Nat) => [(1, some (.ms 1000 1 0 known.length)), (14, some (i64 i))]) (fun _ => []) (fun i => i ≤ l.bodies.length ∧ ∀ j, j < i → (prAt l known j).isNone = true) (fun i => l.bodies.length - i) 0 ⟨Nat.zero_le _, fun j h => by omega⟩ ?_
 rintro i ⟨hi, hj⟩ K1 hK1
 refine gC (fun ht15 => ?_) (fun ht15 => ?_)
 ·have hin := lss_t ht15
  refine ga (i64_add1 (by unfold maxL; omega)) ?_
  refine gL1 [2, 4, 6, 12, 13, 14] [2, 4, 1000] (fun (k : Nat) => [(1, some (.ms 1000 1 0 known.length)), (7, some (i64 (i + 1 + k : Nat)))]) (fun _ => []) (fun k => i + 1 + k ≤ l.bodies.length ∧ ∀ j, j < k → (!prHit l known i (i + 1 + j)) = true) (fun k => l.bodies.length - k) 0 ⟨by omega, fun j h => by omega⟩ ?_
  rintro k ⟨hkl, hkj⟩ K2 hK2
  refine gl ?_
  refine gC (fun ht23 => ?_) (fun ht23 => ?_)
  ·have hkn : i + 1 + k < l.bodies.length := lss_t ht23
   refine gt (s_callR (borF hl i (by omega)) (.cons (.tmp rfl) (.cons (.tmp rfl) (.cons (.tmp rfl) .nil))) rfl rfl rfl) ?_
   refine gu (s_guard rfl rfl rfl (fun h => s_callR (borF hl (i + 1 + k) (by omega)) (.cons (.opt rfl (o1 h)) (.cons (.opt rfl (o1 h)) (.cons (.opt rfl (o1 h)) .nil))) rfl rfl rfl)) ?_
   refine gC (fun ht37 => ?_) (fun ht37 => ?_)
   ·have h2 : prHit l known i (i + 1 + k) = false := by unfold prHit; rw [show (freeB l known i && freeB l known ((i + 1 + k : Nat) : Int)) = false from by rcases or_t ht37 with g | g; (rw [g]; rfl); (rw [g, Bool.and_false])]; rfl
    refine ga (i64_add1 (by unfold maxL; omega)) ?_
    exact gK1 hK2 (k + 1) ⟨by omega, fun j h9 => by rcases Nat.lt_or_ge j k with g | g; exact hkj j g; (have : j = k := by omega); subst this; rw [h2]; rfl⟩
   ·have hff := or_f ht37
    refine gt (s_callR (borJ hl hli 0 i hk) (.cons (.tmp rfl) (.cons (.const _) (.cons (.tmp rfl) (.cons (.tmp rfl) .nil)))) rfl rfl rfl) ?_
    refine gt (s_callR (borJ hl hli 0 (i + 1 + k : Nat) hk) (.cons (.tmp rfl) (.cons (.const _) (.cons (.tmp rfl) (.cons (.tmp rfl) .nil)))) rfl rfl rfl) ?_
    refine gc (c_r25_only l (by omega) (i + 1 + k) hkn) ?_
    refine gc (c_r25_joint l hl hli 0 i (onlyK l.bodies.length ((i + 1 + k : Nat) : Int)) (len_only _ _)) ?_
    refine gD ?_
    refine gC (fun ht61 => ?_) (fun ht61 => ?_)
    ·have h2 : prHit l known i (i + 1 + k) = true := by unfold prHit; rw [hff.1, hff.2]; exact (three_b.symm.trans ht61)
     have hat : prAt l known i = some (i + 1 + k) := by unfold prAt; rw [firstB_at (by omega) hkj (by rw [h2]; rfl), Option.map_some]; congr 1; omega
     have hg : pairG l known = some (prG l known i (i + 1 + k)) := by unfold pairG; rw [firstB_at hin hj (by rw [hat]; rfl), Option.map_some, hat]
     refine gR ?_
     rw [hg]
     exact Fin.keep (keep1 rfl)
    ·have h2 : prHit l known i (i + 1 + k) = false := by unfold prHit; rw [show (decide (0 ≤ jointI l 0 i known) && decide (0 ≤ jointI l 0 ((i + 1 + k : Nat) : Int) known) && decide (0 ≤ jointI l 0 i (onlyK l.bodies.length ((i + 1 + k : Nat) : Int)))) = false from three_b.symm.trans ht61, Bool.and_false]
     refine ga (i64_add1 (by unfold maxL; omega)) ?_
     exact gK1 hK2 (k + 1) ⟨by omega, fun j h9 => by rcases Nat.lt_or_ge j k with g | g; exact hkj j g; (have : j = k := by omega); subst this; rw [h2]; rfl⟩
  ·have hkn : ¬ i + 1 + k < l.bodies.length := fun h => by have h1 := lss_f ht23; omega
   have hat : prAt l known i = none := by unfold prAt; rw [show l.bodies.length - (i + 1) = k by omega, firstB_all hkj]; rfl
   refine ga (i64_add1 (by unfold maxL; omega)) ?_
   exact gK1 hK1 (i + 1) ⟨hin, fun j h9 => by rcases Nat.lt_or_ge j i with g | g; exact hj j g; (have : j = i := by omega); subst this; rw [hat]; rfl⟩
 ·have hin := lss_end hi ht15
  have hg : pairG l known = none := by unfold pairG; rw [← hin, firstB_all hj]; rfl
  refine gR ?_
  exact Fin.sub (Fin.keep (keep1 rfl)) (by rw [hg]; exact Sub.tup (.cons sub_gr0 (.cons (.refl _) .nil)))
theorem c_r25_single (l : Li) (hl : l.ok) (hli : liE l = 0) (known : List Bool) (hk : known.length = l.bodies.length) : Con Tryz.prog 124 [l.av, .ms 1000 1 0 known.length] [(1000, some (.row 1 (known.map bl)))] (.tup [((singleG l known).getD default).av, bl (singleG l known).isSome]) [(1000, some (.row 1 (known.map bl)))] := by
 have h8 := (li_parts hli).2.2.2.1
 refine gF Tryz.func124 (fun k z h => lk1000 h) ?_
 refine gl ?_
 refine gL1 [2, 4, 11, 12] [2, 4, 1000] (fun (i : Nat) => [(1, some (.ms 1000 1 0 known.length)), (13, some (i64 i))]) (fun _ => []) (fun i => i ≤ l.bodies.length ∧ ∀ j, j < i → (!sgHit l known j) = true) (fun i => l.bodies.length - i) 0 ⟨Nat.zero_le _, fun j h => by omega⟩ ?_
 rintro i ⟨hi, hj⟩ K1 hK1
 refine gC (fun ht14 => ?_) (fun ht14 => ?_)
 ·have hin := lss_t ht14
  refine gt (s_callR (borF hl i (by omega)) (.cons (.tmp rfl) (.cons (.tmp rfl) (.cons (.tmp rfl) .nil))) rfl rfl rfl) ?_
  refine gC (fun ht20 => ?_) (fun ht20 => ?_)
  ·have h2 : sgHit l known i = false := by unfold sgHit; rw [not_t ht20]; rfl
   refine ga (i64_add1 (by unfold maxL; omega)) ?_
   exact gK1 hK1 (i + 1) ⟨hin, fun k h9 => by rcases Nat.lt_or_ge k i with g | g; exact hj k g; (have : k = i := by omega); subst this; rw [h2]; rfl⟩
  ·have hf := not_f ht20
   refine gt (s_callR (borJ hl hli 0 i hk) (.cons (.tmp rfl) (.cons (.const _) (.cons (.tmp rfl) (.cons (.tmp rfl) .nil)))) rfl rfl rfl) ?_
   refine gt (s_callR (borJ hl hli 1 i hk) (.cons (.tmp rfl) (.cons (.const _) (.cons (.tmp rfl) (.cons (.tmp rfl) .nil)))) rfl rfl rfl) ?_
   refine gD ?_
   refine gC (fun ht34 => ?_) (fun ht34 => ?_)
   ·have h2 : sgHit l known i = false := by unfold sgHit; rw [two_t ht34, Bool.and_false]
    refine ga (i64_add1 (by unfold maxL; omega)) ?_
    exact gK1 hK1 (i + 1) ⟨hin, fun k h9 => by rcases Nat.lt_or_ge k i with g | g; exact hj k g; (have : k = i := by omega); subst this; rw [h2]; rfl⟩
   ·obtain ⟨p0, s0⟩ := two_f ht34
    have s1 := (jointI_lt (l := l) (kind := 1) (body := i) (oth := known)).2
    have h2 : sgHit l known i = true := by unfold sgHit; rw [hf, decide_eq_true p0, decide_eq_true s0]; rfl
    obtain ⟨j, hjt⟩ : ∃ j, l.joints[(jointI l 1 i known).toNat]? = some j := getx (by omega)
    have hjd : l.joints.getD (jointI l 1 i known).toNat default = j := getD_of hjt
    have hg : singleG l known = some (sgG l known i) := by unfold singleG; rw [firstB_at hin hj (by rw [h2]; rfl), Option.map_some]
    refine gi (getzx (n := (jointI l 1 i known).toNat) (by omega) hjt) ?_
    refine gC (fun ht42 => ?_) (fun ht42 => ?_)
    ·have hji : j.a = i := eql_t ht42
     refine gR ?_
     rw [hg]; unfold sgG; rw [hjd]; simp only [Option.getD_some, if_pos hji]
     exact Fin.keep (keep1 rfl)
    ·have hji : j.a ≠ i := eql_f ht42
     refine gR ?_
     rw [hg]; unfold sgG; rw [hjd]; simp only [Option.getD_some, if_neg hji]
     exact Fin.keep (keep1 rfl)
 ·have hin := lss_end hi ht14
  have hg : singleG l known = none := by unfold singleG; rw [← hin, firstB_all hj]; rfl
  refine gR ?_
  exact Fin.sub (Fin.keep (keep1 rfl)) (by rw [hg]; exact Sub.tup (.cons sub_gr0 (.cons (.refl _) .nil)))
end Go.Lw
namespace Go.Lw
open Go.Proofs
theorem mark_step {k : List Bool} {bs : List Int} {q : Nat} {x : Int} (h : bs[q]? = some x) : markAll k (bs.drop q) = markAll (k.set x.toNat true) (bs.drop (q + 1)) := by
 have hi := (List.getElem?_eq_some_iff.1 h).1
 rw [List.drop_eq_getElem_cons hi, (List.getElem?_eq_some_iff.1 h).2]; rfl
theorem find_step {l : Li} {n : Nat} {known : List Bool} {out : List Gr} {g : Gr} (h : nextG l known = some g) : findFrom l (n + 1) known out = findFrom l n (markAll known g.bodies) (out ++ [g]) := by
 show (match nextG l known with | none => _ | some g => _) = _
 rw [h]
theorem find_stop {l : Li} {n : Nat} {known : List Bool} {out : List Gr} (h : nextG l known = none) : findFrom l n known out = (known, out) := by
 cases n with
 | zero => rfl
 | succ n => show (match nextG l known with | none => _ | some g => _) = _; rw [h]
theorem isNone_of {α : Type} {o : Option α} (h : o.isSome = false) : o = none := by cases o <;> simp_all
theorem or_some {α : Type} {a b : Option α} (h : a.isSome = true) : a = a.or b := by cases a <;> simp_all
theorem nextG_single {l : Li} {known : List Bool} (h : (driverG l known).or (pairG l known) = none) : nextG l known = singleG l known := by
 unfold nextG
 rw [← Option.or_assoc, h]; rfl
theorem nextG_first {l : Li} {known : List Bool} (h : ((driverG l known).or (pairG l known)).isSome = true) : nextG l known = (driverG l known).or (pairG l known) := by
 unfold nextG
 rw [← Option.or_assoc]; exact (or_some h).symm
theorem c_r25_Find (l : Li) (hl : l.ok) (hli : liE l = 0) : FnC Tryz.prog 63 [l.av] (.lst 4 ((findG l).map Gr.av)) := by
 have h8 := (li_parts hli).2.2.2.1
 have h0 := (li_parts hli).2.2.2.2
 refine gF0 Tryz.func63 ?_
 refine gt (s_callH (c_r25_onlyO 900 rfl l (by omega) 0 (by omega)) (.cons (.tmp rfl) (.cons (.const _) .nil)) (by first | exact hH0 | exact hH1 rfl | exact hH2 rfl rfl) rfl rfl) ?_
 refine gl ?_
 refine gW (Wk.virt 901 4 rfl) ?_
 refine gL3 [1, 13] [1] (fun (i : Nat) (known : List Bool) (out : List Gr) => [(3, some (.ms 900 1 0 known.length)), (4, some (.ms 901 4 0 out.length)), (14, some (i64 i))]) (fun _ known out => [(900, some (.row 1 (known.map bl))), (901, some (.row 4 (out.map Gr.av)))]) (fun i known out => i ≤ l.bodies.length ∧ known.length = l.bodies.length ∧ out.length ≤ i ∧ findFrom l (l.bodies.length - i) known out = findFrom l l.bodies.length (onlyK l.bodies.length 0) []) (fun i _ _ => l.bodies.length - i) 0 (onlyK l.bodies.length 0) ([]) ⟨Nat.zero_le _, len_only _ _, Nat.le_refl _, rfl⟩ ?_ (h1 := (.cons rfl (Sub.of (by rw [len_only])) (.k (.k .nil))))
 rintro i known out ⟨hi, hk, hol, hff⟩ K1 hK1
 refine gC (fun ht15 => ?_) (fun ht15 => ?_) (st2 := (18, 0))
 ·have hin := lss_t ht15
  have hd1 := Con.rekey1 900 rfl rfl rfl (c_r25_driver l hl hli known hk)
  have hp1 := Con.rekey1 900 rfl rfl rfl (c_r25_pair l hl hli known hk)
  have hs1 := Con.rekey1 900 rfl rfl rfl (c_r25_single l hl hli known hk)
  refine gt (s_callH hd1 (.cons (.tmp rfl) (.cons (.tmp rfl) .nil)) (by first | exact hH0 | exact hH1 rfl | exact hH2 rfl rfl) rfl rfl) ?_
  refine gJ1 [1, 5, 13, 14] [1, 900, 901] (fun (o : Option Gr) => [(3, some (.ms 900 1 0 known.length)), (4, some (.ms 901 4 0 out.length)), (6, some (bl o.isSome))]) (fun o => [(5, some (.box (o.getD default).av.cells))]) (fun o => o = (driverG l known).or (pairG l known)) ?_ ?_
  ·intro K2 hK2
   refine gC (fun ht23 => ?_) (fun ht23 => ?_)
   ·refine gt (s_callH hp1 (.cons (.tmp rfl) (.cons (.tmp rfl) .nil)) (by first | exact hH0 | exact hH1 rfl | exact hH2 rfl rfl) rfl rfl) ?_
    exact jK1 hK2 (pairG l known) (by rw [isNone_of (not_t ht23)]; rfl)
   ·exact jK1 hK2 (driverG l known) (or_some (not_f ht23))
  ·rintro o ho
   refine gJ1 [1, 5, 13, 14] [1, 900, 901] (fun (og : Option Gr) => [(3, some (.ms 900 1 0 known.length)), (4, some (.ms 901 4 0 out.length)), (6, some (bl og.isSome))]) (fun og => [(5, some (.box (og.getD default).av.cells))]) (fun og => og = nextG l known) ?_ ?_
   ·intro K3 hK3
    refine gC (fun ht31 => ?_) (fun ht31 => ?_)
    ·refine gt (s_callH hs1 (.cons (.tmp rfl) (.cons (.tmp rfl) .nil)) (by first | exact hH0 | exact hH1 rfl | exact hH2 rfl rfl) rfl rfl) ?_
     exact jK1 hK3 (singleG l known) (by have := isNone_of (not_t ht31); rw [ho] at this; exact (nextG_single this).symm)
    ·exact jK1 hK3 o (by rw [ho]; exact (nextG_first (by rw [← ho]; exact not_f ht31)).symm)
   ·rintro og hog
    refine gC (fun ht39 => ?_) (fun ht39 => ?_) (st1 := (18, 0))
    ·have hn : nextG l known = none := by rw [← hog]; exact isNone_of (not_t ht39)
     have hfin : findG l = out := by unfold findG; rw [← hff, find_stop hn]
     refine gW ((Wk.freeze (k := 901) rfl).trans <| Wk.of (sl := [(4, some (.lst 4 ((findG l).map Gr.av)))]) (hp := []) (.cons rfl (Sub.of (by rw [hfin, fz_all (by rw [List.length_map])])) .nil) .nil) ?_
     refine gE1 ?_
     rfl
    ·obtain ⟨g, hg⟩ : ∃ g, og = some g := Option.isSome_iff_exists.1 (not_f ht39)
     have hng : nextG l known = some g := by rw [← hog, hg]
     have hgo := nextG_ok hli hng
     subst hg
     refine gs (s_append (.tmp rfl) rfl (by rw [List.length_map]) (.tmp rfl) T93 rfl T183 rfl rfl (by dsimp only; simp only [List.length_cons, List.length_nil]; omega) rfl rfl) ?_ (12, 0)
     refine gW (Wk.of (sl := [(1, some (.ptr 1 0)), (3, some (.ms 900 1 0 known.length)), (4, some (.ms 43 4 0 (out ++ [g]).length)), (5, some (.ptr 5 0)), (13, some (i64 l.bodies.length)), (14, some (i64 i))]) (hp := [(1, some (.box l.av.cells)), (5, some (.box g.av.cells)), (900, some (.row 1 (known.map bl))), (43, some (.row 4 ((out ++ [g]).map Gr.av)))]) (.k (.k (.cons rfl (Sub.of (by rw [List.length_append]; rfl)) (.k (.k (.k .nil)))))) (.cons rfl (.refl _) (.cons rfl (.refl _) (.cons rfl (.refl _) (.cons rfl (BlkSub.of (by rw [List.map_append]; rfl)) .nil))))) ?_ (12, 0)
     refine gW (Wk.rekey (k := 43) (d := 901) rfl rfl) ?_
     refine gl ?_
     refine gL2 [1, 13, 14, 45, 46] [1, 901] (fun (q : Nat) (kk : List Bool) => [(3, some (.ms 900 1 0 kk.length)), (4, some (.ms 901 4 0 (out ++ [g]).length)), (47, some (i64 q))]) (fun _ kk => [(900, some (.row 1 (kk.map bl)))]) (fun q kk => q ≤ g.bodies.length ∧ kk.length = l.bodies.length ∧ markAll kk (g.bodies.drop q) = markAll known g.bodies) (fun q _ => g.bodies.length - q) 0 known ⟨Nat.zero_le _, hk, rfl⟩ ?_
     rintro q kk ⟨hq, hkk, hmk⟩ K4 hK4
     refine gC (fun ht48 => ?_) (fun ht48 => ?_)
     ·have hqn := lss_t ht48
      obtain ⟨x, hx⟩ := getx hqn
      have hxb := hgo.b x (List.mem_of_getElem? hx)
      obtain ⟨v, hv⟩ : ∃ v, kk[x.toNat]? = some v := getx (by omega)
      refine gi (getmap hx) ?_
      refine gs (s_idxMs (.tmp rfl) (.tmp rfl) T180 rfl T4 rfl (by omega) (by omega) rfl) ?_
      refine gs (s_stElem (.tmp rfl) rfl (by rw [Nat.zero_add, List.getElem?_map, hv]; rfl) rfl (.const _) rfl rfl T4 rfl rfl) ?_
      refine ga (i64_add1 (by have := hgo.lb; unfold maxL; omega)) ?_
      exact gK2 hK4 (q + 1) (kk.set x.toNat true) ⟨hqn, by rw [List.length_set]; exact hkk, by rw [← mark_step hx]; exact hmk⟩ (hw := Wk.of (.cons rfl (Sub.of (by rw [List.length_set])) (.k (.k (.k (.k (.k (.k (.k .nil)))))))) (.cons rfl (BlkSub.of (by rw [List.map_set, Nat.zero_add]; rfl)) (.cons rfl (.refl _) (.cons rfl (.refl _) .nil))))
     ·have hqn := lss_end hq ht48
      have hmk2 : kk = markAll known g.bodies := by rw [hqn, List.drop_length] at hmk; exact hmk
      refine ga (i64_add1 (by unfold maxL; omega)) ?_
      exact gK3 hK1 (i + 1) kk (out ++ [g]) ⟨hin, hkk, by rw [List.length_append]; simp only [List.length_cons, List.length_nil]; omega, by rw [hmk2, ← find_step hng, ← hff]; congr 1; omega⟩
 ·have hin := lss_end hi ht15
  have hfin : findG l = out := by unfold findG; rw [← hff, show l.bodies.length - i = 0 by omega]; rfl
  refine gW ((Wk.freeze (k := 901) rfl).trans <| Wk.of (sl := [(4, some (.lst 4 ((findG l).map Gr.av)))]) (hp := []) (.cons rfl (Sub.of (by rw [hfin, fz_all (by rw [List.length_map])])) .nil) .nil) ?_
  refine gE1 ?_
  rfl
end Go.Lw
namespace Go.Lw
open Go.Proofs
theorem fold_step {α : Type} {f : List Bool → α → List Bool} {k : List Bool} {l : List α} {i : Nat} {x : α} (h : l[i]? = some x) : (l.drop i).foldl f k = (l.drop (i + 1)).foldl f (f k x) := by
 have hi := (List.getElem?_eq_some_iff.1 h).1
 rw [List.drop_eq_getElem_cons hi, (List.getElem?_eq_some_iff.1 h).2]; rfl
/-- The first places that are not marked. -/
def unm (k : List Bool) (i : Nat) : List Int := ((List.range i).filter (fun j => !k.getD j false)).map (fun j : Nat => ((j : Nat) : Int))
theorem unm_hit {k : List Bool} {i : Nat} (h : k.getD i false = false) : unm k (i + 1) = unm k i ++ [(i : Int)] := by
 unfold unm
 rw [List.range_succ, List.filter_append, List.map_append, List.filter_cons, h]; rfl
theorem unm_miss {k : List Bool} {i : Nat} (h : k.getD i false = true) : unm k (i + 1) = unm k i := by
 unfold unm
 rw [List.range_succ, List.filter_append, List.map_append, List.filter_cons, h]; simp
theorem unm_len (k : List Bool) (i : Nat) : (unm k i).length ≤ i := by
 unfold unm
 rw [List.length_map]
 exact Nat.le_trans (List.length_filter_le _ _) (by simp)
theorem len_fold {α : Type} {f : α → List Int} : ∀ (gs : List α) (k : List Bool), (gs.foldl (fun k g => markAll k (f g)) k).length = k.length
 | [], k => rfl
 | g :: gs, k => by rw [List.foldl_cons, len_fold gs, len_mark]
theorem len_unK (l : Li) : (unmarked (restK l)).length ≤ l.bodies.length := by
 have h := unm_len (restK l) (restK l).length
 have e : (restK l).length = l.bodies.length := by unfold restK; rw [len_fold, len_only]
 rw [e] at h
 unfold unmarked; rw [e]; exact h
theorem len_unJ (l : Li) : (unmarked (restJ l)).length ≤ l.joints.length := by
 have h := unm_len (restJ l) (restJ l).length
 have e : (restJ l).length = l.joints.length := by unfold restJ; rw [len_fold, List.length_replicate]
 rw [e] at h
 unfold unmarked; rw [e]; exact h
theorem c_r25_Rest (l : Li) (hl : l.ok) (hli : liE l = 0) : FnC Tryz.prog 62 [l.av] (.tup [.lst 1 ((unmarked (restK l)).map i64), .lst 1 ((unmarked (restJ l)).map i64)]) := by
 have h8 := (li_parts hli).2.2.2.1
 have h0 := (li_parts hli).2.2.2.2
 have hj16 : l.joints.length ≤ 16 := by have := (li_parts hli).2.1; unfold jtsE at this; split at this; cases this; omega
 obtain ⟨hgo, hgl⟩ := findG_ok hli
 refine gF0 Tryz.func62 ?_
 refine gt (s_callH (c_r25_onlyO 900 rfl l (by omega) 0 (by omega)) (.cons (.tmp rfl) (.cons (.const _) .nil)) (by first | exact hH0 | exact hH1 rfl | exact hH2 rfl rfl) rfl rfl) ?_
 refine gl ?_
 refine gs (s_make (.tmp rfl) T180 rfl T4 rfl rfl (by omega) (by dsimp only; omega) rfl) ?_
 refine gD ?_ (2, 0)
 refine gW (Wk.of (sl := [(1, some (.ptr 1 0)), (2, some (.v (.slice none 0 0))), (3, some (.v (.slice none 0 0))), (4, some (.ms 900 1 0 (onlyK l.bodies.length 0).length)), (5, some (.ms 21 1 0 (List.replicate l.joints.length false).length))]) (hp := [(1, some (.box l.av.cells)), (900, some (.row 1 ((onlyK l.bodies.length 0).map bl))), (21, some (.row 1 ((List.replicate l.joints.length false).map bl)))]) (.k (.k (.k (.cons rfl (Sub.of (by rw [len_only])) (.cons rfl (Sub.of (by rw [List.length_replicate, Int.toNat_natCast])) .nil))))) (.cons rfl (.refl _) (.cons rfl (.refl _) (.cons rfl (BlkSub.of (by rw [List.map_replicate, Int.toNat_natCast]; rfl)) .nil)))) ?_ (2, 0)
 refine gW (Wk.rekey (k := 21) (d := 901) rfl rfl) ?_
 refine gc (c_r25_Find l hl hli) ?_
 refine gl ?_
 refine gL3 [1, 2, 3, 23, 24] [1] (fun (i : Nat) (k1 k2 : List Bool) => [(4, some (.ms 900 1 0 k1.length)), (5, some (.ms 901 1 0 k2.length)), (25, some (i64 i))]) (fun _ k1 k2 => [(900, some (.row 1 (k1.map bl))), (901, some (.row 1 (k2.map bl)))]) (fun i k1 k2 => i ≤ (findG l).length ∧ k1.length = l.bodies.length ∧ k2.length = l.joints.length ∧ ((findG l).drop i).foldl (fun k g => markAll k g.bodies) k1 = restK l ∧ ((findG l).drop i).foldl (fun k g => markAll k g.joints) k2 = restJ l) (fun i _ _ => (findG l).length - i) 0 (onlyK l.bodies.length 0) (List.replicate l.joints.length false) ⟨Nat.zero_le _, len_only _ _, List.length_replicate, rfl, rfl⟩ ?_
 rintro i k1 k2 ⟨hi, hk1, hk2, hf1, hf2⟩ K1 hK1
 refine gC (fun ht26 => ?_) (fun ht26 => ?_)
 ·have hin := lss_t ht26
  obtain ⟨g, hg⟩ := getx hin
  have hgk := hgo g (List.mem_of_getElem? hg)
  have hlb := hgk.lb
  have hlj := hgk.lj
  refine gi (getmap hg) ?_
  refine gl ?_
  refine gL2 [1, 2, 3, 7, 23, 24, 25, 30, 31] [1, 7, 901] (fun (q : Nat) (kk : List Bool) => [(4, some (.ms 900 1 0 kk.length)), (5, some (.ms 901 1 0 k2.length)), (32, some (i64 q))]) (fun _ kk => [(900, some (.row 1 (kk.map bl)))]) (fun q kk => q ≤ g.bodies.length ∧ kk.length = l.bodies.length ∧ markAll kk (g.bodies.drop q) = markAll k1 g.bodies) (fun q _ => g.bodies.length - q) 0 k1 ⟨Nat.zero_le _, hk1, rfl⟩ ?_
  rintro q kk ⟨hq, hkk, hmk⟩ K2 hK2
  refine gC (fun ht33 => ?_) (fun ht33 => ?_)
  ·have hqn := lss_t ht33
   obtain ⟨x, hx⟩ := getx hqn
   have hxb := hgk.b x (List.mem_of_getElem? hx)
   obtain ⟨v, hv⟩ : ∃ v, kk[x.toNat]? = some v := getx (by omega)
   refine gi (getmap hx) ?_
   refine gs (s_idxMs (.tmp rfl) (.tmp rfl) T180 rfl T4 rfl (by omega) (by omega) rfl) ?_
   refine gs (s_stElem (.tmp rfl) rfl (by rw [Nat.zero_add, List.getElem?_map, hv]; rfl) rfl (.const _) rfl rfl T4 rfl rfl) ?_
   refine ga (i64_add1 (by unfold maxL; omega)) ?_
   exact gK2 hK2 (q + 1) (kk.set x.toNat true) ⟨hqn, by rw [List.length_set]; exact hkk, by rw [← mark_step hx]; exact hmk⟩ (hw := Wk.of (.cons rfl (Sub.of (by rw [List.length_set])) (.k (.k (.k (.k (.k (.k (.k (.k (.k (.k (.k .nil)))))))))))) (.cons rfl (BlkSub.of (by rw [List.map_set, Nat.zero_add]; rfl)) (.cons rfl (.refl _) (.cons rfl (.refl _) (.cons rfl (.refl _) .nil)))))
  ·have hqn := lss_end hq ht33
   have hmk2 : kk = markAll k1 g.bodies := by rw [hqn, List.drop_length] at hmk; exact hmk
   refine gl ?_
   refine gL2 [1, 2, 3, 23, 24, 25, 41, 42] [1, 900] (fun (p : Nat) (jj : List Bool) => [(4, some (.ms 900 1 0 kk.length)), (5, some (.ms 901 1 0 jj.length)), (43, some (i64 p))]) (fun _ jj => [(901, some (.row 1 (jj.map bl)))]) (fun p jj => p ≤ g.joints.length ∧ jj.length = l.joints.length ∧ markAll jj (g.joints.drop p) = markAll k2 g.joints) (fun p _ => g.joints.length - p) 0 k2 ⟨Nat.zero_le _, hk2, rfl⟩ ?_
   rintro p jj ⟨hp, hjj, hmj⟩ K3 hK3
   refine gC (fun ht44 => ?_) (fun ht44 => ?_)
   ·have hpn := lss_t ht44
    obtain ⟨x, hx⟩ := getx hpn
    have hxb := hgk.j x (List.mem_of_getElem? hx)
    obtain ⟨v, hv⟩ : ∃ v, jj[x.toNat]? = some v := getx (by omega)
    refine gi (getmap hx) ?_
    refine gs (s_idxMs (.tmp rfl) (.tmp rfl) T180 rfl T4 rfl (by omega) (by omega) rfl) ?_
    refine gs (s_stElem (.tmp rfl) rfl (by rw [Nat.zero_add, List.getElem?_map, hv]; rfl) rfl (.const _) rfl rfl T4 rfl rfl) ?_
    refine ga (i64_add1 (by unfold maxL; omega)) ?_
    exact gK2 hK3 (p + 1) (jj.set x.toNat true) ⟨hpn, by rw [List.length_set]; exact hjj, by rw [← mark_step hx]; exact hmj⟩ (hw := Wk.of (.k (.cons rfl (Sub.of (by rw [List.length_set])) (.k (.k (.k (.k (.k (.k (.k (.k (.k .nil))))))))))) (.cons rfl (BlkSub.of (by rw [List.map_set, Nat.zero_add]; rfl)) (.cons rfl (.refl _) (.cons rfl (.refl _) .nil))))
   ·have hpn := lss_end hp ht44
    have hmj2 : jj = markAll k2 g.joints := by rw [hpn, List.drop_length] at hmj; exact hmj
    refine ga (i64_add1 (by unfold maxL; omega)) ?_
    exact gK3 hK1 (i + 1) kk jj ⟨hin, hkk, hjj, by rw [hmk2, ← hf1, fold_step hg], by rw [hmj2, ← hf2, fold_step hg]⟩
 ·have hin := lss_end hi ht26
  have e1 : k1 = restK l := by rw [hin, List.drop_length] at hf1; exact hf1
  have e2 : k2 = restJ l := by rw [hin, List.drop_length] at hf2; exact hf2
  refine gW (Wk.virt 902 1 rfl) ?_
  refine gL1 [3, 53] [900, 901] (fun (i : Nat) => [(2, some (.ms 902 1 0 (unm k1 i).length)), (5, some (.ms 901 1 0 k2.length)), (52, some (.ms 900 1 0 k1.length)), (54, some (i64 i))]) (fun i => [(902, some (.row 1 ((unm k1 i).map i64)))]) (fun i => i ≤ k1.length) (fun i => k1.length - i) 0 (Nat.zero_le _) ?_
  rintro i ha K4 hK4
  refine gC (fun ht55 => ?_) (fun ht55 => ?_) (st2 := (22, 0))
  ·have hin6 := lss_t ht55
   obtain ⟨v, hv⟩ := getx hin6
   have hvd : k1.getD i false = v := getD_of hv
   have hul := unm_len k1 i
   refine gs (s_idxMs (.tmp rfl) (.tmp rfl) T180 rfl T4 rfl (by omega) (by omega) rfl) ?_
   refine gs (s_loadEptr (.tmp rfl) rfl (by rw [Nat.zero_add, Int.toNat_natCast, List.getElem?_map, hv]; rfl) T4 rfl rfl rfl) ?_
   refine gC (fun ht60 => ?_) (fun ht60 => ?_)
   ·have hu := unm_hit (k := k1) (i := i) (by rw [hvd]; exact not_t ht60)
    refine gs (s_append (.tmp rfl) rfl (by rw [List.length_map]) (.tmp rfl) T32 rfl T3 rfl rfl (by dsimp only; simp only [List.length_cons, List.length_nil]; omega) rfl rfl) ?_ (21, 0)
    refine gW (Wk.of (sl := [(2, some (.ms 64 1 0 (unm k1 (i + 1)).length)), (3, some (.v (.slice none 0 0))), (5, some (.ms 901 1 0 k2.length)), (52, some (.ms 900 1 0 k1.length)), (53, some (i64 k1.length)), (54, some (i64 i))]) (hp := [(900, some (.row 1 (k1.map bl))), (901, some (.row 1 (k2.map bl))), (64, some (.row 1 ((unm k1 (i + 1)).map i64)))]) (.cons rfl (Sub.of (by rw [hu, List.length_append]; rfl)) (.k (.k (.k (.k (.k .nil)))))) (.cons rfl (.refl _) (.cons rfl (.refl _) (.cons rfl (BlkSub.of (by rw [hu, List.map_append]; rfl)) .nil)))) ?_ (21, 0)
    refine gW (Wk.rekey (k := 64) (d := 902) rfl rfl) ?_
    refine ga (i64_add1 (by unfold maxL; omega)) ?_
    exact gK1 hK4 (i + 1) hin6 (hw := Wk.of (.cons rfl (Sub.of (by first | rw [hu]; done | rfl)) (.k (.k (.k (.k (.k .nil)))))) (.cons rfl (BlkSub.of (by first | rw [hu]; done | rfl)) (.cons rfl (.refl _) (.cons rfl (.refl _) .nil))))
   ·have hu := unm_miss (k := k1) (i := i) (by rw [hvd]; exact not_f ht60)
    refine ga (i64_add1 (by unfold maxL; omega)) ?_
    exact gK1 hK4 (i + 1) hin6 (hw := Wk.of (.cons rfl (Sub.of (by first | rw [hu]; done | rfl)) (.k (.k (.k (.k (.k .nil)))))) (.cons rfl (BlkSub.of (by first | rw [hu]; done | rfl)) (.cons rfl (.refl _) (.cons rfl (.refl _) .nil))))
  ·have hin6 := lss_end ha ht55
   refine gW ((Wk.freeze (k := 902) rfl).trans <| Wk.of (sl := [(2, some (.lst 1 ((unmarked (restK l)).map i64))), (3, some (.v (.slice none 0 0))), (5, some (.ms 901 1 0 k2.length))]) (hp := [(901, some (.row 1 (k2.map bl)))]) (.cons rfl (Sub.of (by rw [fz_all (by rw [List.length_map]), hin6, e1]; rfl)) (.k (.k .nil))) (.cons rfl (.refl _) .nil)) ?_
   refine gW (Wk.virt 902 1 rfl) ?_
   refine gL1 [2, 67] [901] (fun (i : Nat) => [(3, some (.ms 902 1 0 (unm k2 i).length)), (66, some (.ms 901 1 0 k2.length)), (68, some (i64 i))]) (fun i => [(902, some (.row 1 ((unm k2 i).map i64)))]) (fun i => i ≤ k2.length) (fun i => k2.length - i) 0 (Nat.zero_le _) ?_
   rintro i hb K5 hK5
   refine gC (fun ht69 => ?_) (fun ht69 => ?_) (st2 := (28, 0))
   ·have hin8 := lss_t ht69
    obtain ⟨v, hv⟩ := getx hin8
    have hvd : k2.getD i false = v := getD_of hv
    have hul := unm_len k2 i
    refine gs (s_idxMs (.tmp rfl) (.tmp rfl) T180 rfl T4 rfl (by omega) (by omega) rfl) ?_
    refine gs (s_loadEptr (.tmp rfl) rfl (by rw [Nat.zero_add, Int.toNat_natCast, List.getElem?_map, hv]; rfl) T4 rfl rfl rfl) ?_
    refine gC (fun ht74 => ?_) (fun ht74 => ?_)
    ·have hu := unm_hit (k := k2) (i := i) (by rw [hvd]; exact not_t ht74)
     refine gs (s_append (.tmp rfl) rfl (by rw [List.length_map]) (.tmp rfl) T32 rfl T3 rfl rfl (by dsimp only; simp only [List.length_cons, List.length_nil]; omega) rfl rfl) ?_ (27, 0)
     refine gW (Wk.of (sl := [(2, some (.lst 1 ((unmarked (restK l)).map i64))), (3, some (.ms 78 1 0 (unm k2 (i + 1)).length)), (66, some (.ms 901 1 0 k2.length)), (67, some (i64 k2.length)), (68, some (i64 i))]) (hp := [(901, some (.row 1 (k2.map bl))), (78, some (.row 1 ((unm k2 (i + 1)).map i64)))]) (.k (.cons rfl (Sub.of (by rw [hu, List.length_append]; rfl)) (.k (.k (.k .nil))))) (.cons rfl (.refl _) (.cons rfl (BlkSub.of (by rw [hu, List.map_append]; rfl)) .nil))) ?_ (27, 0)
     refine gW (Wk.rekey (k := 78) (d := 902) rfl rfl) ?_
     refine ga (i64_add1 (by unfold maxL; omega)) ?_
     exact gK1 hK5 (i + 1) hin8 (hw := Wk.of (.cons rfl (Sub.of (by first | rw [hu]; done | rfl)) (.k (.k (.k (.k .nil))))) (.cons rfl (BlkSub.of (by first | rw [hu]; done | rfl)) (.cons rfl (.refl _) .nil)))
    ·have hu := unm_miss (k := k2) (i := i) (by rw [hvd]; exact not_f ht74)
     refine ga (i64_add1 (by unfold maxL; omega)) ?_
     exact gK1 hK5 (i + 1) hin8 (hw := Wk.of (.cons rfl (Sub.of (by first | rw [hu]; done | rfl)) (.k (.k (.k (.k .nil))))) (.cons rfl (BlkSub.of (by first | rw [hu]; done | rfl)) (.cons rfl (.refl _) .nil)))
   ·have hin8 := lss_end hb ht69
    refine gW ((Wk.freeze (k := 902) rfl).trans <| Wk.of (sl := [(2, some (.lst 1 ((unmarked (restK l)).map i64))), (3, some (.lst 1 ((unmarked (restJ l)).map i64)))]) (hp := []) (.k (.cons rfl (Sub.of (by rw [fz_all (by rw [List.length_map]), hin8, e2]; rfl)) .nil)) .nil) ?_
    refine gE2 ?_
    rfl
theorem c_r25_Split (l : Li) (hl : l.ok) (hli : liE l = 0) : FnC Tryz.prog 30 [l.av] (.tup [.lst 4 ((splitG l).map Gr.av), i64 (splitE l)]) := by
 have h8 := (li_parts hli).2.2.2.1
 have hj16 : l.joints.length ≤ 16 := by have := (li_parts hli).2.1; unfold jtsE at this; split at this; cases this; omega
 have u1 := len_unK l
 have u2 := len_unJ l
 refine gF0 Tryz.func30 ?_
 refine gc (c_r25_Rest l hl hli) ?_
 refine gl ?_
 refine gl ?_
 refine ga (i64_addI (by omega)) ?_
 refine gC (fun ht16 => ?_) (fun ht16 => ?_)
 ·have h1 : 0 < (unmarked (restK l)).length + (unmarked (restJ l)).length := gtr_t ht16
  have hE : splitE l = 7 := by unfold splitE; rw [if_neg (by omega)]
  refine gR ?_
  exact fin_sub (by unfold splitG; rw [if_neg (by rw [hE]; decide), hE]; exact Sub.tup (.cons (.nil _ _ _) (.cons (.refl _) .nil)))
 ·have h1 : (unmarked (restK l)).length + (unmarked (restJ l)).length ≤ 0 := gtr_f ht16
  have hE : splitE l = 0 := by unfold splitE; rw [if_pos (by omega)]
  refine gc (c_r25_Find l hl hli) ?_
  refine gE2 ?_
  unfold splitG; rw [if_pos hE, hE]; rfl
end Go.Lw
