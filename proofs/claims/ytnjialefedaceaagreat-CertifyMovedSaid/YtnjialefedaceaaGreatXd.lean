/- CertifyMoved: for anything drawn, any body and shift the law returns true and leaves its arguments as they were. No condition. Part 4 of 6: what the later parts need -/
import Derived.Test.YtnjialefedaceaaGreatXc
set_option linter.unusedVariables false
namespace Go.Lw
open Go.Proofs
theorem c_integer_times (a b : List Nat) (ha : Ws a) (hb : Ws b) (la : a.length + b.length ≤ big) : FnC Tryz.prog 243 [ws a, ws b] (ws (ofNat (val a * val b))) := by
  have la' := la
  unfold big at la
  refine gF0 Tryz.func243 ?_
  refine gl ?_
  refine gl ?_
  refine ga (i64_addN (by unfold maxL; omega) (by unfold maxL; omega)) ?_
  refine gs (s_make (.tmp rfl) T66 rfl T186 rfl rfl (by omega) (by dsimp only; omega) rfl) ?_
  refine gl ?_
  refine gL2 [0, 1, 17, 18] [] (fun (out : List Nat) (i : Nat) => [(5, some (.ms 16 1 0 (a.length + b.length))), (19, some (i64 i))]) (fun out _ => [(16, some (.row 1 (out.map u32)))]) (fun out i => out.length = a.length + b.length ∧ i ≤ a.length ∧ Ws out ∧ val (out.take (i + b.length)) = val (a.take i) * val b) (fun _ i => a.length - i) (List.replicate (a.length + b.length) 0) 0 ⟨by simp, by omega, ws_rep _, by simp [val, val_zeros]⟩ ?_ (h2 := (.cons rfl (BlkSub.of (by rw [List.map_replicate]; rfl)) .nil))
  rintro out i ⟨ho, hi, hw, hv⟩ K1 hK1
  refine gC (fun ht20 => ?_) (fun ht20 => ?_) (st2 := (15, 0))
  · have hin : i < a.length := by simpa [icmp] using ht20
    have h1 := wordW_lt ha i
    refine gi (getz (n := i) (by omega) (by first | omega | (simp; omega))) ?_
    refine gl ?_
    refine gL3 [0, 1, 17, 18, 19, 6, 7, 24, 25] [] (fun (o : List Nat) (c k : Nat) => [(5, some (.ms 16 1 0 (a.length + b.length))), (8, some (u64 c)), (26, some (i64 k))]) (fun o _ _ => [(16, some (.row 1 (o.map u32)))]) (fun o c k => o.length = a.length + b.length ∧ k ≤ b.length ∧ Ws o ∧ c < 4294967296 ∧ val (o.take (i + b.length)) + c * 4294967296 ^ (i + k) = val (out.take (i + b.length)) + 4294967296 ^ i * (wordW a i * val (b.take k))) (fun _ _ k => b.length - k) out 0 0 ⟨ho, by omega, hw, by omega, by simp [val]⟩ ?_
    rintro o c k ⟨ho2, hk, hw2, hc, hv2⟩ K2 hK2
    refine gC (fun ht27 => ?_) (fun ht27 => ?_)
    · have hkn : k < b.length := by simpa [icmp] using ht27
      have h2 := wordW_lt hb k
      have h3 := wordW_lt hw2 (i + k)
      have h4 := mul_word h1 h2
      have h5 := val_set_in (x := (c + (wordW a i * wordW b k + wordW o (i + k))) % 4294967296) (show i + k < o.length by omega) (show i + k < i + b.length by omega)
      have h6 := times_in h5 rfl hv2
      refine gi (getz (n := k) (by omega) (by first | omega | (simp; omega))) ?_
      refine gv (u64_in (by omega)) ?_
      refine gv (u64_in (by omega)) ?_
      refine ga (u64_mul (by omega)) ?_
      refine ga (i64_addN (by unfold maxL; omega) (by unfold maxL; omega)) ?_
      refine gs (s_idxMs0 (n := i + k) (.tmp rfl) (.tmp rfl) T66 rfl T186 rfl (by omega) (by first | omega | (simp; omega)) rfl) ?_
      refine gs (s_loadEptr (.tmp rfl) rfl (getw (i := i + k) (by omega)) T186 rfl rfl rfl) ?_
      refine gv (u64_in (by omega)) ?_
      refine ga (u64_add (by omega)) ?_
      refine ga (u64_add (by omega)) ?_
      refine ga (i64_addN (by unfold maxL; omega) (by unfold maxL; omega)) ?_
      refine gv (u32_wrap _) ?_
      refine gs (s_idxMs0 (n := i + k) (.tmp rfl) (.tmp rfl) T66 rfl T186 rfl (by omega) (by first | omega | (simp; omega)) rfl) ?_
      refine gs (s_stElem (.tmp rfl) rfl (getw (i := i + k) (by omega)) rfl (.tmp rfl) rfl rfl T186 rfl rfl) ?_
      refine gs (s_shrW (.tmp rfl) (.const _) (by omega) (u64_shr _ 32 (by omega)) rfl) ?_
      refine ga (i64_addI (by omega)) ?_
      exact gK3 hK2 (o.set (i + k) ((c + (wordW a i * wordW b k + wordW o (i + k))) % 4294967296)) ((c + (wordW a i * wordW b k + wordW o (i + k))) / 4294967296) (k + 1) ⟨by simp [ho2], by omega, ws_set hw2 (by omega), by omega, by rw [show i + (k + 1) = (i + k) + 1 from rfl, Nat.pow_succ, h6, val_take_word]; simp only [Nat.pow_add]; grind⟩ (hw := Wk.of (by repeat (first | exact SlW.nil | refine SlW.k ?_)) (.cons rfl (BlkSub.of (by rw [List.map_set]; rfl)) .nil))
    · have hkn : k = b.length := by have : b.length ≤ k := by simpa [icmp] using ht27
                                    omega
      subst hkn
      have h5 := val_set_take (x := c) (show i + b.length < o.length by omega)
      rw [List.take_length] at hv2
      refine gl ?_
      refine ga (i64_addN (by unfold maxL; omega) (by unfold maxL; omega)) ?_
      refine gv ((u32_wrap c).trans (by rw [Nat.mod_eq_of_lt hc])) ?_
      refine gs (s_idxMs0 (n := i + b.length) (.tmp rfl) (.tmp rfl) T66 rfl T186 rfl (by omega) (by first | omega | (simp; omega)) rfl) ?_
      refine gs (s_stElem (.tmp rfl) rfl (getw (i := i + b.length) (by omega)) rfl (.tmp rfl) rfl rfl T186 rfl rfl) ?_
      refine ga (i64_addI (by omega)) ?_
      exact gK2 hK1 (o.set (i + b.length) c) (i + 1) ⟨by simp [ho2], by omega, ws_set hw2 hc, by rw [show i + 1 + b.length = i + b.length + 1 by omega, h5, val_take_word]; simp only [Nat.pow_add] at *; grind⟩ (hw := Wk.of (by repeat (first | exact SlW.nil | refine SlW.k ?_)) (.cons rfl (BlkSub.of (by rw [List.map_set]; rfl)) .nil))
  · have hin : i = a.length := by have : a.length ≤ i := by simpa [icmp] using ht20
                                  omega
    subst hin
    rw [List.take_length, val_take_ge (by omega)] at hv
    refine gW ((Wk.freeze (k := 16) rfl).trans <| Wk.of (sl := [(5, some (ws out))]) (hp := []) (.cons rfl (Sub.of (fz_all (by simp [ho]))) .nil) .nil) ?_
    refine gc (c_trim out hw (by omega)) ?_
    refine gE1 ?_
    rw [hv]
theorem c_integer_short (a : List Nat) (w : Nat) (ha : Ws a) (la : a.length ≤ big) (hw0 : 0 < w) (hwB : w < 4294967296) : FnC Tryz.prog 220 [ws a, u32 w] (.tup [ws (ofNat (val a / w)), u32 (val a % w)]) := by
 have la' := la
 unfold big at la
 refine gF0 Tryz.func220 ?_
 refine gl ?_
 refine gs (s_make (.tmp rfl) T66 rfl T186 rfl rfl (by omega) (by dsimp only; omega) rfl) ?_
 refine gl ?_
 refine ga (i64_subI (by omega)) ?_
 refine gL3 [0, 1] [] (fun (out : List Nat) (r i : Nat) => [(6, some (.ms 11 1 0 a.length)), (7, some (u64 r)), (8, some (i64 ((i : Int) - 1)))]) (fun out _ _ => [(11, some (.row 1 (out.map u32)))]) (fun out r i => out.length = a.length ∧ i ≤ a.length ∧ Ws out ∧ r < w ∧ val (a.drop i) = w * val (out.drop i) + r) (fun _ _ i => i) (List.replicate a.length 0) 0 a.length ⟨by simp, by omega, ws_rep _, by omega, by simp [val]⟩ ?_ (h2 := (.cons rfl (BlkSub.of (by rw [List.map_replicate]; rfl)) .nil))
 rintro out r i ⟨ho, hi, hw, hr, hv⟩ K1 hK1
 refine gC (fun ht16 => ?_) (fun ht16 => ?_) (st2 := (9, 0))
 ·have hn0 : 1 ≤ i := by have := ht16; simp [icmp] at this; omega
  obtain ⟨k, rfl⟩ : ∃ k, i = k + 1 := ⟨i - 1, by omega⟩
  have h1 := wordW_lt ha k
  have h2 := short_lt hr h1
  refine gs (s_shlW (.tmp rfl) (.const _) (by omega) (u64_shl (n := 32) (by omega) (by omega)) rfl) ?_
  refine gi (getz (n := k) (by omega) (by first | omega | (simp; omega))) ?_
  refine gv (u64_in (by omega)) ?_
  refine gs (s_bitsW (.tmp rfl) (.tmp rfl) rfl ((ibits_or64 (by omega) (by omega)).trans (by rw [or_add (by omega)])) rfl) ?_
  refine gv (u64_in (by omega)) ?_
  refine gs (s_quoW (.tmp rfl) (.tmp rfl) (by omega) (u64_quo (by omega)) rfl) ?_
  refine gv ((u32_wrap _).trans (by rw [Nat.mod_eq_of_lt h2])) ?_
  refine gs (s_idxMs0 (n := k) (.tmp rfl) (.tmp rfl) T66 rfl T186 rfl (by omega) (by first | omega | (simp; omega)) rfl) ?_
  refine gs (s_stElem (.tmp rfl) rfl (getw (i := k) (by omega)) rfl (.tmp rfl) rfl rfl T186 rfl rfl) ?_
  refine gv (u64_in (by omega)) ?_
  refine gs (s_remW (.tmp rfl) (.tmp rfl) (by omega) nat_rem rfl) ?_
  refine ga (i64_subI (by omega)) ?_
  exact gK3 hK1 (out.set k ((r * 2 ^ 32 + wordW a k) / w)) ((r * 2 ^ 32 + wordW a k) % w) k ⟨by simp [ho], by omega, ws_set hw h2, Nat.mod_lt _ hw0, short_step (by omega) (by omega) hv⟩ (hw := Wk.of (by repeat (first | exact SlW.nil | refine SlW.k ?_)) (.cons rfl (BlkSub.of (by rw [List.map_set]; rfl)) .nil))
 ·have hin : i = 0 := by have := ht16; simp [icmp] at this; omega
  subst hin
  obtain ⟨h3, h4⟩ := div_mod_of hv hr
  simp only [List.drop_zero] at h3 h4
  refine gW ((Wk.freeze (k := 11) rfl).trans <| Wk.of (sl := [(6, some (ws out)), (7, some (u64 r))]) (hp := []) (.cons rfl (Sub.of (fz_all (by simp [ho]))) (.k .nil)) .nil) ?_
  refine gc (c_trim out hw (by omega)) ?_
  refine gv ((u32_wrap _).trans (by rw [Nat.mod_eq_of_lt (by omega)])) ?_
  refine gE2 ?_
  rw [h3, h4]; rfl
theorem c_integer_up (d : Nat) (hd : Nat.blt d 1000 = true) (a : List Nat) (n : Nat) (ha : Ws a) (la : a.length < big) (hn : n < 32) : Con Tryz.prog 222 [ws a, i64 n] [] (.ms d 1 0 (a.length + 1)) [(d, some (.row 1 ((fixw (a.length + 1) (2 ^ n * val a)).map u32)))] := by
  have la' := la
  unfold big at la
  refine gF Tryz.func222 (fun k z h => by cases h) ?_
  refine gl ?_
  refine ga (i64_addN (y := 1) (by unfold maxL; omega) (by unfold maxL; omega)) ?_
  refine gs (s_make (.tmp rfl) T66 rfl T186 rfl rfl (by omega) (by dsimp only; omega) rfl) ?_
  refine gl ?_
  refine gL2 [0, 1, 13, 14] [] (fun (out : List Nat) (i : Nat) => [(5, some (.ms 12 1 0 (a.length + 1))), (15, some (i64 i))]) (fun out _ => [(12, some (.row 1 (out.map u32)))]) (fun out i => out.length = a.length + 1 ∧ i ≤ a.length ∧ Ws out ∧ wordW out i < 2 ^ n ∧ val (out.take (i + 1)) = 2 ^ n * val (a.take i)) (fun _ i => a.length - i) (List.replicate (a.length + 1) 0) 0 ⟨by simp, by omega, ws_rep _, by simp [wordW, Nat.pow_pos], by simp [val, List.replicate_succ]⟩ ?_ (h2 := (.cons rfl (BlkSub.of (by rw [List.map_replicate]; rfl)) .nil))
  rintro out i ⟨ho, hi, hw, hr, hv⟩ K1 hK1
  refine gC (fun ht16 => ?_) (fun ht16 => ?_)
  · have hin : i < a.length := by simpa [icmp] using ht16
    have h1 := wordW_lt ha i
    have h2 := up_step (a := a) (i := i) (n := n) (show i + 1 < out.length by omega) hv
    have h3 := up_word (x := wordW a i) hn hr
    have h4 := up_hi (n := n) h1
    have h5 : 2 ^ n ≤ 2 ^ 31 := two_pow_le (by omega)
    have h6 : wordW a i * 2 ^ n ≤ wordW a i * 2 ^ 31 := Nat.mul_le_mul_left _ h5
    have h7 := wordW_lt hw i
    refine gi (getz (n := i) (by omega) (by first | omega | (simp; omega))) ?_
    refine gv (u64_in (by omega)) ?_
    refine gs (s_shlW (.tmp rfl) (.tmp rfl) (by omega) (u64_shl (by omega) (by omega)) rfl) ?_
    refine gs (s_idxMs0 (n := i) (.tmp rfl) (.tmp rfl) T66 rfl T186 rfl (by omega) (by first | omega | (simp; omega)) rfl) ?_
    refine gs (s_loadEptr (.tmp rfl) rfl (getw (i := i) (by omega)) T186 rfl rfl rfl) ?_
    refine gv (u32_wrap _) ?_
    refine gs (s_bitsW (.tmp rfl) (.tmp rfl) rfl ((ibits_or32 (by omega) (by omega)).trans (by rw [up_or hn hr])) rfl) ?_
    refine gs (s_idxMs0 (n := i) (.tmp rfl) (.tmp rfl) T66 rfl T186 rfl (by omega) (by first | omega | (simp; omega)) rfl) ?_
    refine gs (s_stElem (.tmp rfl) rfl (getw (i := i) (by omega)) rfl (.tmp rfl) rfl rfl T186 rfl rfl) ?_
    refine ga (i64_addN (y := 1) (by unfold maxL; omega) (by unfold maxL; omega)) ?_
    refine gs (s_shrW (.tmp rfl) (.const _) (by omega) (u64_shr _ 32 (by omega)) rfl) ?_
    refine gv ((u32_wrap _).trans (by rw [Nat.mod_eq_of_lt (show wordW a i * 2 ^ n / 2 ^ 32 < 4294967296 by omega)])) ?_
    refine gs (s_idxMs0 (n := i + 1) (.tmp rfl) (.tmp rfl) T66 rfl T186 rfl (by omega) (by first | omega | (simp; omega)) rfl) ?_
    refine gs (s_stElem (.tmp rfl) rfl (by rw [List.getElem?_set_ne (by omega)]; exact getw (i := i + 1) (by omega)) rfl (.tmp rfl) rfl rfl T186 rfl rfl) ?_
    refine ga (i64_addI (by omega)) ?_
    exact gK2 hK1 ((out.set i (wordW out i + wordW a i * 2 ^ n % 4294967296)).set (i + 1) (wordW a i * 2 ^ n / 4294967296)) (i + 1) ⟨by simp [ho], by omega, ws_set (ws_set hw (by omega)) (by omega), by rw [wordW_set (by simp; omega)]; exact h4, h2⟩ (hw := Wk.of (by repeat (first | exact SlW.nil | refine SlW.k ?_)) (.cons rfl (BlkSub.of (by rw [List.map_set, List.map_set]; rfl)) .nil))
  · have hin : i = a.length := by have : a.length ≤ i := by simpa [icmp] using ht16
                                  omega
    subst hin
    rw [List.take_length, val_take_ge (by omega)] at hv
    refine gR ?_
    exact Fin.own1 rfl hd (by rw [fixw_of hw ho hv])
theorem c_integer_down (a : List Nat) (n : Nat) (ha : Ws a) (la : a.length ≤ big) (hn : n < 32) : FnC Tryz.prog 225 [ws a, i64 n] (ws (ofNat (val a / 2 ^ n))) := by
  have la' := la
  unfold big at la
  refine gF0 Tryz.func225 ?_
  refine gl ?_
  refine gs (s_make (.tmp rfl) T66 rfl T186 rfl rfl (by omega) (by dsimp only; omega) rfl) ?_
  refine gl ?_
  refine gL2 [0, 1, 11] [] (fun (out : List Nat) (i : Nat) => [(5, some (.ms 9 1 0 a.length)), (12, some (i64 i))]) (fun out _ => [(9, some (.row 1 (out.map u32)))]) (fun out i => out.length = a.length ∧ i ≤ a.length ∧ Ws out ∧ val (out.take i) = val a / 2 ^ n % 4294967296 ^ i) (fun _ i => a.length - i) (List.replicate a.length 0) 0 ⟨by simp, by omega, ws_rep _, by simp [val, Nat.mod_one]⟩ ?_ (h2 := (.cons rfl (BlkSub.of (by rw [List.map_replicate]; rfl)) .nil))
  rintro out i ⟨ho, hi, hw, hv⟩ K1 hK1
  refine gC (fun ht13 => ?_) (fun ht13 => ?_) (st2 := (7, 0))
  · have hin : i < a.length := by simpa [icmp] using ht13
    have h1 := wordW_lt ha i
    have h2 := wordW_lt ha (i + 1)
    have h3 := down_step ha hin (show i < out.length by omega) (show n ≤ 32 by omega) hv
    refine gi (getz (n := i) (by omega) (by first | omega | (simp; omega))) ?_
    refine gv (u64_in (by omega)) ?_
    refine ga (i64_addN (y := 1) (by unfold maxL; omega) (by unfold maxL; omega)) ?_
    refine gc (c_word a (i + 1) ha) ?_
    refine gs (s_shlW (.tmp rfl) (.const _) (by omega) (u64_shl (n := 32) (by omega) (by omega)) rfl) ?_
    refine gs (s_bitsW (.tmp rfl) (.tmp rfl) rfl ((ibits_or64 (by omega) (by omega)).trans (by rw [or_add' (by omega)])) rfl) ?_
    refine gs (s_shrW (.tmp rfl) (.tmp rfl) (by omega) (u64_shr _ _ (by omega)) rfl) ?_
    refine gv (u32_wrap _) ?_
    refine gs (s_idxMs0 (n := i) (.tmp rfl) (.tmp rfl) T66 rfl T186 rfl (by omega) (by first | omega | (simp; omega)) rfl) ?_
    refine gs (s_stElem (.tmp rfl) rfl (getw (i := i) (by omega)) rfl (.tmp rfl) rfl rfl T186 rfl rfl) ?_
    refine gD ?_
    refine ga (i64_addI (by omega)) ?_
    exact gK2 hK1 (out.set i ((wordW a i + wordW a (i + 1) * 2 ^ 32) / 2 ^ n % 4294967296)) (i + 1) ⟨by simp [ho], by omega, ws_set hw (by omega), h3⟩ (hw := Wk.of (by repeat (first | exact SlW.nil | refine SlW.k ?_)) (.cons rfl (BlkSub.of (by rw [List.map_set]; rfl)) .nil))
  · have hin : i = a.length := by have : a.length ≤ i := by simpa [icmp] using ht13
                                  omega
    refine gW ((Wk.freeze (k := 9) rfl).trans <| Wk.of (sl := [(5, some (ws out))]) (hp := []) (.cons rfl (Sub.of (fz_all (by simp [ho]))) .nil) .nil) ?_
    refine gc (c_trim out hw (by omega)) ?_
    refine gE1 ?_
    rw [down_end ha ho (hin ▸ hv)]
end Go.Lw
namespace Go.Lw
open Go.Proofs
theorem bl_one {b : Nat} {p : Prop} [Decidable p] (h : b = 1 ↔ p) : resT [AV.v (Value.bool (icmp BinOp.eql (b : Int) 1))] = bl (decide p) := by
 have : ((b : Int) == 1) = decide (b = 1) := by rw [Bool.eq_iff_iff]; simp; omega
 simp only [resT, icmp, this, bl]
 rw [decide_eq_decide.2 h]
theorem c_integer_remove (u v : List Nat) (off len n : Nat) (hu : Ws u) (hv : Ws v) (hvl : v.length + 1 ≤ len) (hj : off + len ≤ u.length) (hn : n < 4294967296) (lu : u.length ≤ maxL) :
    Con Tryz.prog 223 [.ms 1000 1 off len, ws v, u64 n] [(1000, some (.row 1 (u.map u32)))] (bl (decide (val (win u off len) < n * val v)))
      [(1000, some (.row 1 ((wr u off (fixw len (remW n (val v) (val (win u off len)) len))).map u32)))] := by
  unfold maxL at lu
  refine gF Tryz.func223 (fun k z h => lk1000 h) ?_
  refine gL5 [0, 1, 2, 12] [] (fun (o : List Nat) (c b lo i : Nat) => [(7, some (u64 c)), (8, some (u64 b)), (13, some (i64 i))]) (fun o _ _ _ _ => [(1000, some (.row 1 (o.map u32)))]) (fun o c b lo i => o.length = u.length ∧ i ≤ len ∧ Ws o ∧ c < 4294967296 ∧ b ≤ 1 ∧ o.take off = u.take off ∧ o.drop (off + i) = u.drop (off + i) ∧ lo + c * 4294967296 ^ i = n * val (v.take i) ∧ val (win o off i) + lo = val (win u off i) + b * 4294967296 ^ i) (fun _ _ _ _ i => len - i) u 0 0 0 0 ⟨rfl, by omega, hu, by omega, by omega, rfl, rfl, by simp [val], by simp []⟩ ?_
  rintro o c b lo i ⟨ho, hi, hw, hc, hb, hd1, hd2, hv1, hv2⟩ K1 hK1
  refine gC (fun ht14 => ?_) (fun ht14 => ?_)
  · have hin : i < len := by simpa [icmp] using ht14
    have h1 := wordW_lt hu (off + i)
    have h2 := wordW_lt hv i
    have h0 := word_of_drop hd2
    have h4 := mul_word hn h2
    obtain ⟨c1, hc1⟩ : ∃ c1, c1 = c + n * wordW v i := ⟨_, rfl⟩
    have h3 := less_step h1 (show c1 % 4294967296 < 4294967296 by omega) hb hv2
    obtain ⟨d, hd⟩ : ∃ d, d = if c1 % 4294967296 + b ≤ wordW u (off + i) then wordW u (off + i) - c1 % 4294967296 - b else wordW u (off + i) + 18446744073709551616 - c1 % 4294967296 - b := ⟨_, rfl⟩
    rw [← hd] at h3
    have hd3 : d < 18446744073709551616 := by rw [hd]; split <;> omega
    have h5 := carry_step (w := wordW v i) hv1
    refine gc (by apply c_word <;> assumption) ?_
    refine ga (u64_mul (by omega)) ?_
    refine ga ((u64_add (by omega)).trans (by rw [← hc1])) ?_
    refine gs (s_idxMsN (n := i) (.tmp rfl) (.tmp rfl) T66 rfl T186 rfl (by omega) (by first | omega | (simp; omega)) rfl) ?_
    refine gs (s_loadEptr (.tmp rfl) rfl (by rw [getw (show off + i < o.length by omega), h0]) T186 rfl rfl rfl) ?_
    refine gv (u64_in (by omega)) ?_
    refine gv (u32_wrap _) ?_
    refine gv (u64_in (by omega)) ?_
    refine ga (u64_sub (by omega) (by omega)) ?_
    refine ga (show _ = (d : Int) by rw [u64_sub (by split <;> omega) (by omega), hd]; congr 1; (repeat' split) <;> omega) ?_
    refine gv (u32_wrap _) ?_
    refine gs (s_idxMsN (n := i) (.tmp rfl) (.tmp rfl) T66 rfl T186 rfl (by omega) (by first | omega | (simp; omega)) rfl) ?_
    refine gs (s_stElem (.tmp rfl) rfl (getw (i := off + i) (by omega)) rfl (.tmp rfl) rfl rfl T186 rfl rfl) ?_
    refine gs (s_shrW (.tmp rfl) (.const _) (by omega) (u64_shr _ 63 (by omega)) rfl) ?_
    refine gs (s_shrW (.tmp rfl) (.const _) (by omega) (u64_shr _ 32 (by omega)) rfl) ?_
    refine ga (i64_addI (by omega)) ?_
    exact gK5 hK1 (o.set (off + i) (d % 4294967296)) (c1 / 4294967296) (d / 2 ^ 63) (lo + 4294967296 ^ i * (c1 % 4294967296)) (i + 1) ⟨by simp [ho], by omega, ws_set hw (by omega), by omega, by omega, by rw [List.take_set_of_le (by omega)]; exact hd1, drop_set_next hd2, by rw [val_take_word, Nat.pow_succ, hc1]; exact h5, by rw [val_win_set (by omega), val_win_word, Nat.pow_succ]; exact h3⟩ (hw := Wk.of (by repeat (first | exact SlW.nil | refine SlW.k ?_)) (.cons rfl (BlkSub.of (by rw [List.map_set]; rfl)) .nil))
  · have hin : i = len := by have : len ≤ i := by simpa [icmp] using ht14
                             omega
    subst hin
    obtain ⟨h6, h7⟩ := remove_end hu hw ho hj hv hvl hn hd1 hd2 hb hv1 hv2
    refine gR ?_
    exact Fin.own2 rfl (by rw [← h6]) (bl_one h7)
theorem c_integer_back (u v : List Nat) (off len : Nat) (hu : Ws u) (hv : Ws v) (hvl : v.length ≤ len) (hj : off + len ≤ u.length) (lu : u.length ≤ maxL) :
    Con Tryz.prog 224 [.ms 1000 1 off len, ws v] [(1000, some (.row 1 (u.map u32)))] (.tup [])
      [(1000, some (.row 1 ((wr u off (fixw len ((val (win u off len) + val v) % 4294967296 ^ len))).map u32)))] := by
  unfold maxL at lu
  refine gF Tryz.func224 (fun k z h => lk1000 h) ?_
  refine gL3 [0, 1, 7] [] (fun (o : List Nat) (c i : Nat) => [(4, some (u64 c)), (8, some (i64 i))]) (fun o _ _ => [(1000, some (.row 1 (o.map u32)))]) (fun o c i => o.length = u.length ∧ i ≤ len ∧ Ws o ∧ c ≤ 1 ∧ o.take off = u.take off ∧ o.drop (off + i) = u.drop (off + i) ∧ val (win o off i) + c * 4294967296 ^ i = val (win u off i) + val (v.take i)) (fun _ _ i => len - i) u 0 0 ⟨rfl, by omega, hu, by omega, rfl, rfl, by simp [val]⟩ ?_
  rintro o c i ⟨ho, hi, hw, hc, hd1, hd2, hv2⟩ K1 hK1
  refine gC (fun ht9 => ?_) (fun ht9 => ?_)
  · have hin : i < len := by simpa [icmp] using ht9
    have h1 := wordW_lt hu (off + i)
    have h2 := wordW_lt hv i
    have h0 := word_of_drop hd2
    have h3 := plus_step (u := wordW u (off + i)) (w := wordW v i) hv2
    refine gs (s_idxMsN (n := i) (.tmp rfl) (.tmp rfl) T66 rfl T186 rfl (by omega) (by first | omega | (simp; omega)) rfl) ?_
    refine gs (s_loadEptr (.tmp rfl) rfl (by rw [getw (show off + i < o.length by omega), h0]) T186 rfl rfl rfl) ?_
    refine gv (u64_in (by omega)) ?_
    refine gc (by apply c_word <;> assumption) ?_
    refine ga (u64_add (by omega)) ?_
    refine ga (u64_add (by omega)) ?_
    refine gD ?_
    refine gv (u32_wrap _) ?_
    refine gs (s_idxMsN (n := i) (.tmp rfl) (.tmp rfl) T66 rfl T186 rfl (by omega) (by first | omega | (simp; omega)) rfl) ?_
    refine gs (s_stElem (.tmp rfl) rfl (getw (i := off + i) (by omega)) rfl (.tmp rfl) rfl rfl T186 rfl rfl) ?_
    refine gs (s_shrW (.tmp rfl) (.const _) (by omega) (u64_shr _ 32 (by omega)) rfl) ?_
    refine ga (i64_addI (by omega)) ?_
    exact gK3 hK1 (o.set (off + i) ((c + (wordW u (off + i) + wordW v i)) % 4294967296)) ((c + (wordW u (off + i) + wordW v i)) / 4294967296) (i + 1) ⟨by simp [ho], by omega, ws_set hw (by omega), by omega, by rw [List.take_set_of_le (by omega)]; exact hd1, drop_set_next hd2, by rw [val_win_set (by omega), val_win_word, val_take_word, Nat.pow_succ]; exact h3⟩ (hw := Wk.of (by repeat (first | exact SlW.nil | refine SlW.k ?_)) (.cons rfl (BlkSub.of (by rw [List.map_set]; rfl)) .nil))
  · have hin : i = len := by have : len ≤ i := by simpa [icmp] using ht9
                             omega
    subst hin
    have h6 := back_end hw ho hj hvl hd1 hd2 hv2
    refine gR ?_
    exact Fin.own2 rfl (by rw [← h6]) rfl
end Go.Lw
namespace Go.Lw
open Go.Proofs
theorem c_Len32 (x : Nat) (hx : x < 4294967296) : FnC Tryz.prog 247 [u32 x] (i64 (blen x)) := by
 refine gF0 Tryz.func247 ?_
 refine gC (fun ht4 => ?_) (fun ht4 => ?_)
 ·obtain ⟨y, hy, h2, h3⟩ : ∃ y, y = x / 2 ^ 16 ∧ y < 65536 ∧ blen x = 16 + blen y := ⟨_, rfl, by omega, blen_shr (by have := ht4; simp [icmp] at this; omega)⟩
  refine gs (s_shrW (.tmp rfl) (.const _) (by omega) ((u32_shr x 16 (by omega)).trans (by rw [← hy])) rfl) ?_
  refine gC (fun ht8 => ?_) (fun ht8 => ?_)
  ·have h5 : 2 ^ 8 ≤ y := by simp [icmp] at ht8; omega
   obtain ⟨z, hz, h6, h7⟩ : ∃ z, z = y / 2 ^ 8 ∧ z < 256 ∧ blen x = (blen x - blen y) + 8 + blen z := ⟨_, rfl, by omega, by have := blen_shr h5; omega⟩
   refine gs (s_shrW (.tmp rfl) (.const _) (by omega) ((u32_shr _ 8 (by omega)).trans (show _ = (z : Int) by first | (rw [hz]; done) | (rw [hz, hy]; done))) rfl) ?_
   refine ga (i64_addI (by omega)) ?_
   refine gv (show IntKind.u8.wrap _ = (z : Int) by first | exact u8_in h6 | (rw [hz]; exact u8_in (by omega)) | (rw [hz, hy]; exact u8_in (by omega))) ?_
   refine gs (s_idxTab (y := z) (.const _) (.tmp rfl) T9 rfl (by kernel_rfl) (by first | rfl | omega) (by omega) rfl) ?_
   refine gv (i64_in (by have := blen_le8 h6; omega)) ?_
   refine ga (i64_addI (by have := blen_le8 h6; omega)) ?_
   refine gE1 ?_
   simp only [i64]; congr 2; have := blen_le8 h6; omega
  ·have h5 : y < 2 ^ 8 := by simp [icmp] at ht8; omega
   obtain ⟨z, hz, h6, h7⟩ : ∃ z, z = y ∧ z < 256 ∧ blen x = (blen x - blen y) + blen z := ⟨_, rfl, by omega, by omega⟩
   refine gv (show IntKind.u8.wrap _ = (z : Int) by first | exact u8_in h6 | (rw [hz]; exact u8_in (by omega)) | (rw [hz, hy]; exact u8_in (by omega))) ?_
   refine gs (s_idxTab (y := z) (.const _) (.tmp rfl) T9 rfl (by kernel_rfl) (by first | rfl | omega) (by omega) rfl) ?_
   refine gv (i64_in (by have := blen_le8 h6; omega)) ?_
   refine ga (i64_addI (by have := blen_le8 h6; omega)) ?_
   refine gE1 ?_
   simp only [i64]; congr 2; have := blen_le8 h6; omega
 ·obtain ⟨y, hy, h2, h3⟩ : ∃ y, y = x ∧ y < 65536 ∧ blen x = 0 + blen y := ⟨_, rfl, by have := ht4; simp [icmp] at this; omega, by omega⟩
  refine gC (fun ht8 => ?_) (fun ht8 => ?_)
  ·have h5 : 2 ^ 8 ≤ y := by simp [icmp] at ht8; omega
   obtain ⟨z, hz, h6, h7⟩ : ∃ z, z = y / 2 ^ 8 ∧ z < 256 ∧ blen x = (blen x - blen y) + 8 + blen z := ⟨_, rfl, by omega, by have := blen_shr h5; omega⟩
   refine gs (s_shrW (.tmp rfl) (.const _) (by omega) ((u32_shr _ 8 (by omega)).trans (show _ = (z : Int) by first | (rw [hz]; done) | (rw [hz, hy]; done))) rfl) ?_
   refine ga (i64_addI (by omega)) ?_
   refine gv (show IntKind.u8.wrap _ = (z : Int) by first | exact u8_in h6 | (rw [hz]; exact u8_in (by omega)) | (rw [hz, hy]; exact u8_in (by omega))) ?_
   refine gs (s_idxTab (y := z) (.const _) (.tmp rfl) T9 rfl (by kernel_rfl) (by first | rfl | omega) (by omega) rfl) ?_
   refine gv (i64_in (by have := blen_le8 h6; omega)) ?_
   refine ga (i64_addI (by have := blen_le8 h6; omega)) ?_
   refine gE1 ?_
   simp only [i64]; congr 2; have := blen_le8 h6; omega
  ·have h5 : y < 2 ^ 8 := by simp [icmp] at ht8; omega
   obtain ⟨z, hz, h6, h7⟩ : ∃ z, z = y ∧ z < 256 ∧ blen x = (blen x - blen y) + blen z := ⟨_, rfl, by omega, by omega⟩
   refine gv (show IntKind.u8.wrap _ = (z : Int) by first | exact u8_in h6 | (rw [hz]; exact u8_in (by omega)) | (rw [hz, hy]; exact u8_in (by omega))) ?_
   refine gs (s_idxTab (y := z) (.const _) (.tmp rfl) T9 rfl (by kernel_rfl) (by first | rfl | omega) (by omega) rfl) ?_
   refine gv (i64_in (by have := blen_le8 h6; omega)) ?_
   refine ga (i64_addI (by have := blen_le8 h6; omega)) ?_
   refine gE1 ?_
   simp only [i64]; congr 2; have := blen_le8 h6; omega
theorem c_LeadingZeros32 (x : Nat) (hx : x < 4294967296) : FnC Tryz.prog 221 [u32 x] (i64 (32 - blen x : Nat)) := by
 have h1 : blen x ≤ 32 := by
  by_cases h : x = 0
  ·subst h; decide
  ·exact (lead_le h hx).1
 refine gF0 Tryz.func221 ?_
 refine gc (c_Len32 x hx) ?_
 refine ga (i64_in (by simp only [iarith]; omega)) ?_
 refine gE1 ?_
 simp only [i64, iarith]; congr 2; omega
end Go.Lw
namespace Go.Lw
open Go.Proofs
theorem c_integer_divide (a b : List Nat) (ha : Ws a) (hb : Ws b) (na : Nz a) (nb : Nz b) (hb0 : b ≠ []) (la : a.length < big) (lb : b.length < big) :
  FnC Tryz.prog 186 [ws a, ws b] (.tup [ws (ofNat (val a / val b)), ws (ofNat (val a % val b))]) := by
 have la' := la
 unfold big at la lb
 refine gF0 Tryz.func186 ?_
 refine gc (c_integer_compare a b ha hb na nb) ?_
 refine gC (fun ht22 => ?_) (fun ht22 => ?_)
 ·have h1 : val a < val b := by
   simp only [icmp] at ht22
   split at ht22
   ·assumption
   ·split at ht22 <;> simp at ht22
  refine gc (c_trim a ha (by omega)) ?_
  refine gR ?_
  exact fin_sub2 (by rw [Nat.div_eq_of_lt h1]; exact Sub.nil _ _ _) (by rw [Nat.mod_eq_of_lt h1]; exact Sub.refl _)
 ·have h1 : val b ≤ val a := by
   simp only [icmp] at ht22
   split at ht22
   ·simp at ht22
   ·omega
  refine gl ?_
  refine gC (fun ht27 => ?_) (fun ht27 => ?_)
  ·have hl : b.length = 1 := by have := ht27; simp [icmp] at this; omega
   obtain ⟨x, rfl⟩ : ∃ x, b = [x] := List.length_eq_one_iff.1 hl
   have hx : x ≠ 0 := nb x rfl
   have hxB : x < 4294967296 := hb x (by simp)
   have hv : val [x] = x := by simp [val]
   have hm := Nat.mod_lt (val a) (show 0 < x by omega)
   refine gi (show _ = some (u32 x) from rfl) ?_
   refine gc (c_integer_short a x ha (by omega) (by omega) hxB) ?_
   refine gc (c_trim [val a % x] (ws_one (by omega)) (by simp [big])) ?_
   refine gE2 ?_
   rw [hv]; simp [val]
  ·have hl : b.length ≠ 1 := by have := ht27; simp [icmp] at this; omega
   obtain ⟨n, hn⟩ : ∃ n, b.length = n + 2 := ⟨b.length - 2, by have := List.length_pos_iff.2 hb0; omega⟩
   obtain ⟨sh, v, hsh, hsh2, hv, wv, lv, vv, hvt, htop, hlo⟩ := norm_b hb nb hn
   have hab : b.length ≤ a.length := by
    rcases Nat.lt_or_ge a.length b.length with h2 | h2
    ·have := val_cmp_len ha nb h2; omega
    ·exact h2
   obtain ⟨lq, hlq⟩ : ∃ lq, a.length + 1 = lq + (n + 2) := ⟨a.length + 1 - (n + 2), by omega⟩
   have hbt := wordW_lt hb (n + 1)
   refine gl ?_
   refine ga (show _ = ((n + 1 : Nat) : Int) by rw [i64_subI (by omega)]; omega) ?_
   refine gi (getz (n := n + 1) (by omega) (by first | omega | (simp; omega))) ?_
   refine gc (show FnC _ _ _ (i64 (sh : Nat)) by rw [hsh]; exact c_LeadingZeros32 _ hbt) ?_
   refine gt (s_callH (c_integer_up 900 rfl b sh hb (by unfold big; omega) hsh2) (.cons (.tmp rfl) (.cons (.tmp rfl) .nil)) (by first | exact hH0 | exact hH1 rfl | exact hH2 rfl rfl) rfl rfl) ?_
   refine gl ?_
   refine gs (s_sliceMs (.tmp rfl) (.none _) (.some _ (.tmp rfl) (by omega)) T66 rfl T186 rfl (by omega) (by omega) rfl) ?_
   refine gt (s_callH (c_integer_up 901 rfl a sh ha (by unfold big; omega) hsh2) (.cons (.tmp rfl) (.cons (.tmp rfl) .nil)) (by first | exact hH0 | exact hH1 rfl | exact hH2 rfl rfl) rfl rfl) ?_
   refine gD ?_ (8, 0)
   refine gW ((Wk.freeze (k := 900) rfl).trans <| Wk.of (sl := [(0, some (ws a)), (1, some (ws b)), (8, some (i64 sh)), (9, some (ws v)), (10, some (.ms 901 1 0 (a.length + 1)))]) (hp := [(901, some (.row 1 ((fixw (a.length + 1) (2 ^ sh * val a)).map u32)))]) (.k (.k (.k (.cons rfl (Sub.of (take_v hn hv)) (.k .nil))))) (.cons rfl (.refl _) .nil)) ?_
   refine gl ?_
   refine ga (show _ = (lq : Int) by rw [lv, i64_subI (by omega)]; omega) ?_
   refine gs (s_make (.tmp rfl) T66 rfl T186 rfl rfl (by omega) (by dsimp only; omega) rfl) ?_
   refine gl ?_
   refine ga (show _ = ((n + 1 : Nat) : Int) by rw [lv, i64_subI (by omega)]; omega) ?_
   refine gi (getz (n := n + 1) (by omega) (by first | omega | (simp; omega))) ?_
   refine gv (u64_in (by have := wordW_lt wv (n + 1); omega)) ?_
   refine gl ?_
   refine ga (show _ = (n : Int) by rw [lv, i64_subI (by omega)]; omega) ?_
   refine gi (getz (n := n) (by omega) (by first | omega | (simp; omega))) ?_
   refine gv (u64_in (by have := wordW_lt wv n; omega)) ?_
   refine gD ?_
   refine ga (i64_subI (by omega)) ?_
   refine gL3 [8, 9, 12, 13] [] (fun (q u : List Nat) (j : Nat) => [(10, some (.ms 901 1 0 (a.length + 1))), (11, some (.ms 61 1 0 lq)), (14, some (i64 ((j : Int) - 1)))]) (fun q u _ => [(901, some (.row 1 (u.map u32))), (61, some (.row 1 (q.map u32)))]) (fun q u j => q.length = lq ∧ u.length = a.length + 1 ∧ Ws q ∧ Ws u ∧ j ≤ lq ∧ val (u.drop j) < val v ∧ 2 ^ sh * val a = val v * (4294967296 ^ j * val (q.drop j)) + val u) (fun _ _ j => j) (List.replicate lq 0) (fixw (a.length + 1) (2 ^ sh * val a)) lq ⟨by simp, len_fixw _ _, ws_rep _, ws_fixw _ _, Nat.le_refl _, by rw [vv]; exact (init_u ha hsh2 hlq hlo).2, by rw [(init_u ha hsh2 hlq hlo).1]; simp [val]⟩ ?_ (h2 := (.cons rfl (.refl _) (.cons rfl (BlkSub.of (by rw [List.map_replicate]; rfl)) .nil)))
   rintro q u j ⟨hql, hul, wq, wu, hj, hlt, hU⟩ K1 hK1
   refine gC (fun ht80 => ?_) (fun ht80 => ?_) (st2 := (23, 0))
   ·have hj0 : 1 ≤ j := by have := ht80; simp [icmp] at this; omega
    obtain ⟨k, rfl⟩ : ∃ k, j = k + 1 := ⟨j - 1, by omega⟩
    obtain ⟨W, hW⟩ : ∃ W, W = val (win u k (n + 3)) := ⟨_, rfl⟩
    have hVl : val v < 4294967296 ^ (n + 2) := by have := val_lt v wv; rwa [lv] at this
    obtain ⟨e1, e2, e3⟩ := div_step (u := u) (q := q) (k := k) (lv := n + 2) wu (by omega) (by omega) hVl hlt hU
    simp only [show n + 2 + 1 = n + 3 from rfl] at e1 e2 e3
    have hdig := dig_of wv (ws_win wu k (n + 3)) lv (len_win (by omega)) hvt e1
    rw [← hW] at e1 e2 e3 hdig
    have wp := ws_win wu k (n + 3)
    have b1 := wordW_lt wp n
    have b2 := wordW_lt wp (n + 1)
    have b3 := wordW_lt wp (n + 2)
    have b4 := hdig.htop
    have b5 := hdig.htopB
    have b6 := hdig.hnext
    obtain ⟨top, htop'⟩ : ∃ top, top = wordW v (n + 1) := ⟨_, rfl⟩
    obtain ⟨nx, hnx⟩ : ∃ nx, nx = wordW v n := ⟨_, rfl⟩
    obtain ⟨hd, hhd⟩ : ∃ hd, hd = wordW (win u k (n + 3)) (n + 2) * 4294967296 + wordW (win u k (n + 3)) (n + 1) := ⟨_, rfl⟩
    obtain ⟨th, hth⟩ : ∃ th, th = wordW (win u k (n + 3)) n := ⟨_, rfl⟩
    rw [← htop', ← hnx, ← hhd, ← hth] at hdig
    rw [← htop'] at b4 b5 ⊢
    rw [← hnx] at b6 ⊢
    rw [← hth] at b1
    have hdB : hd < 18446744073709551616 := by omega
    refine gl ?_
    refine ga (show _ = ((k + n + 2 : Nat) : Int) by rw [lv, i64_addI (by omega)]; omega) ?_
    refine ga (show _ = ((k + n + 3 : Nat) : Int) by rw [i64_addI (by omega)]; omega) ?_
    refine gs (s_sliceMs (.tmp rfl) (.some _ (.tmp rfl) (by omega)) (.some _ (.tmp rfl) (by omega)) T66 rfl T186 rfl (by omega) (by omega) rfl) ?_ (14, 0)
    refine gW (Wk.of (sl := [(8, some (i64 sh)), (9, some (ws v)), (10, some (.ms 901 1 0 (a.length + 1))), (11, some (.ms 61 1 0 lq)), (12, some (u64 top)), (13, some (u64 nx)), (14, some (i64 k)), (15, some (.ms 901 1 k (n + 3)))]) (hp := [(901, some (.row 1 (u.map u32))), (61, some (.row 1 (q.map u32)))]) (.k (.k (.k (.k (.k (.k (.cons rfl (Sub.int (by omega)) (.cons rfl (Sub.of (by congr 1 <;> omega)) .nil)))))))) (.cons rfl (.refl _) (.cons rfl (.refl _) .nil))) ?_
    refine gl ?_
    refine gs (s_idxMsN (n := n + 2) (.tmp rfl) (.tmp rfl) T66 rfl T186 rfl (by omega) (by omega) rfl) ?_
    refine gs (s_loadEptr (.tmp rfl) rfl (getwin (n := n + 3) (i := n + 2) (by omega) (by omega)) T186 rfl rfl rfl) ?_
    refine gv (u64_in (by omega)) ?_
    refine gs (s_shlW (.tmp rfl) (.const _) (by omega) (u64_shl (n := 32) (by omega) (by omega)) rfl) ?_
    refine gl ?_
    refine ga (show _ = ((n + 1 : Nat) : Int) by rw [lv, i64_subI (by omega)]; omega) ?_
    refine gs (s_idxMsN (n := n + 1) (.tmp rfl) (.tmp rfl) T66 rfl T186 rfl (by omega) (by omega) rfl) ?_
    refine gs (s_loadEptr (.tmp rfl) rfl (getwin (n := n + 3) (i := n + 1) (by omega) (by omega)) T186 rfl rfl rfl) ?_
    refine gv (u64_in (by omega)) ?_
    refine gs (s_bitsW (.tmp rfl) (.tmp rfl) rfl ((ibits_or64 (by omega) (by omega)).trans (show _ = (hd : Int) by rw [or_add (by omega), hhd])) rfl) ?_
    refine gD ?_
    refine gs (s_quoW (.tmp rfl) (.tmp rfl) (by omega) (u64_quo hdB) rfl) ?_
    refine gs (s_remW (.tmp rfl) (.tmp rfl) (by omega) nat_rem rfl) ?_
    refine gD ?_
    refine gL2 [8, 9, 12, 13, 14] [901, 61] (fun (g r : Nat) => [(10, some (.ms 901 1 0 (a.length + 1))), (11, some (.ms 61 1 0 lq)), (15, some (.ms 901 1 k (n + 3))), (17, some (u64 g)), (18, some (u64 r))]) (fun _ _ => []) (fun g r => W / val v ≤ g ∧ g * top + r = hd ∧ g < 18446744073709551616 ∧ r < 8589934592) (fun g _ => g) (hd / top) (hd % top) ⟨hdig.first, by rw [Nat.mul_comm]; exact Nat.div_add_mod _ _, by have := Nat.div_le_self hd top; omega, by have := Nat.mod_lt hd (show 0 < top by omega); omega⟩ ?_
    rintro g r ⟨hg, hgr, hgB, hrB⟩ K2 hK2
    refine gaG (fun ⟨h, h2⟩ => (u64_mul (by simp [icmp] at h2; have := mul_word (x := g) (y := nx) (by omega) b6; omega))) ?_
    refine gs (s_guardO rfl rfl rfl (fun h h2 => s_shlW (.opt rfl (o2 h h2)) (.const _) (by omega) (u64_shl (n := 32) (by omega) (by simp [icmp] at h; omega)) rfl)) ?_
    refine glG ?_
    refine gaG (fun _ => (show _ = (n : Int) by rw [lv, i64_subI (by omega)]; omega)) ?_
    refine gs (s_guardO rfl rfl rfl (fun h h2 => s_idxMsN (n := n) (.opt rfl (o2 h h2)) (.opt rfl (o2 h h2)) T66 rfl T186 rfl (by omega) (by omega) rfl)) ?_
    refine gs (s_guardO rfl rfl rfl (fun h h2 => s_loadEptr (.opt rfl (o2 h h2)) rfl (getwin (n := n + 3) (i := n) (by omega) (by omega)) T186 rfl rfl rfl)) ?_
    refine gvG (fun _ => (u64_in (by omega))) ?_
    refine gs (s_guardO rfl rfl rfl (fun h h2 => s_bitsW (.opt rfl (o2 h h2)) (.opt rfl (o2 h h2)) rfl ((ibits_or64 (by simp [icmp] at h; omega) (by omega)).trans (by rw [or_add (by omega)])) rfl)) ?_
    refine gC (fun ht133 => ?_) (fun ht133 => ?_)
    ·have hc : r < 4294967296 ∧ (4294967296 ≤ g ∨ r * 4294967296 + th < g * nx) := by
      rw [hth]
      have h9 := dig_cond.1 ht133
      rwa [show r * 2 ^ 32 = r * 4294967296 from rfl] at h9
     have hg1 := hdig.step hg hgr hc.2
     have hg0 : 1 ≤ g := Nat.succ_le_of_lt (Nat.lt_of_le_of_lt (Nat.zero_le _) hg1)
     refine ga (u64_sub1 (by omega) (by omega)) ?_
     refine ga (u64_add (by omega)) ?_
     exact gK2 hK2 (g - 1) (r + top) ⟨Nat.le_sub_one_of_lt hg1, by rw [Nat.sub_mul]; have := Nat.mul_le_mul_right top (show 1 ≤ g by omega); omega, by omega, by omega⟩
    ·have hc : ¬ (r < 4294967296 ∧ (4294967296 ≤ g ∨ r * 4294967296 + th < g * nx)) := by
      rw [hth]
      intro hh
      rw [show r * 4294967296 = r * 2 ^ 32 from rfl] at hh
      exact Bool.eq_false_iff.1 ht133 (dig_cond.2 hh)
     obtain ⟨hgB2, hgq⟩ := hdig.last hgr hc
     have hVp := hdig.vpos
     have hWl : val (win u k (n + 3)) < 4294967296 ^ (n + 3) := by have := val_lt _ wp; rwa [len_win (by omega)] at this
     obtain ⟨p1, p2⟩ := part_end hVp (show val v ≤ 4294967296 ^ (n + 3) by have := Nat.pow_le_pow_right (show 0 < 4294967296 by omega) (show n + 2 ≤ n + 3 by omega); omega) (hW ▸ hWl) hg hgq
     have hwul : k + (n + 3) ≤ u.length := by omega
     have hwr : (wr u k (fixw (n + 3) (remW g (val v) W (n + 3)))).length = a.length + 1 := by rw [len_wr (by rw [len_fixw]; omega), hul]
     refine gt (s_callH (Con.rekey 901 rfl rfl (c_integer_remove u v k (n + 3) g wu wv (by omega) hwul hgB2 (by unfold maxL; omega))) (.cons (.tmp rfl) (.cons (.tmp rfl) (.cons (.tmp rfl) .nil))) (by first | exact hH0 | exact hH1 rfl | exact hH2 rfl rfl) rfl rfl) ?_
     refine gC (fun ht142 => ?_) (fun ht142 => ?_)
     ·have hlt2 : W < g * val v := by rw [hW]; simpa using ht142
      obtain ⟨q1, q2, q3⟩ := p1 hlt2
      have hrl : remW g (val v) W (n + 3) < 4294967296 ^ (n + 3) := by unfold remW; rw [if_neg (by omega)]; rw [← hW] at hWl; omega
      refine ga (u64_sub1 (by omega) (by omega)) ?_
      refine gt (s_callH (Con.rekey 901 rfl rfl (c_integer_back (wr u k (fixw (n + 3) (remW g (val v) (val (win u k (n + 3))) (n + 3)))) v k (n + 3) (ws_wr wu (ws_fixw _ _)) wv (by omega) (by rw [← hW, hwr]; omega) (by rw [← hW, hwr]; unfold maxL; omega))) (.cons (.tmp rfl) (.cons (.tmp rfl) .nil)) (by first | exact hH0 | exact hH1 rfl | exact hH2 rfl rfl) rfl rfl) ?_
      refine gv ((u32_wrap _).trans (by rw [Nat.mod_eq_of_lt (by omega)])) ?_
      refine gs (s_idxMs0 (n := k) (.tmp rfl) (.tmp rfl) T66 rfl T186 rfl (by omega) (by omega) rfl) ?_
      refine gs (s_stElem (.tmp rfl) rfl (getw (i := k) (by omega)) rfl (.tmp rfl) rfl rfl T186 rfl rfl) ?_
      refine ga (i64_subI (by omega)) ?_
      exact gK3 hK1 (q.set k (W / val v)) (wr u k (fixw (n + 3) (W % val v))) k ⟨by simp [hql], by rw [len_wr (by rw [len_fixw]; omega), hul], ws_set wq hdig.q_lt, ws_wr wu (ws_fixw _ _), by omega, e2, e3⟩ (hw := Wk.of (by repeat (first | exact SlW.nil | refine SlW.k ?_)) (.cons rfl (BlkSub.of (by rw [← hW]; first | (rw [q1]; done) | (rw [wr_back (r := W % val v) hwul (len_fixw _ _) (by rw [val_fixw _ _ hrl]; exact q1)]; done))) (.cons rfl (BlkSub.of (by rw [List.map_set, q2]; rfl)) .nil)))
     ·have hlt2 : ¬ W < g * val v := by rw [hW]; simpa using ht142
      obtain ⟨q1, q2⟩ := p2 hlt2
      refine gv ((u32_wrap _).trans (by rw [Nat.mod_eq_of_lt (by omega)])) ?_
      refine gs (s_idxMs0 (n := k) (.tmp rfl) (.tmp rfl) T66 rfl T186 rfl (by omega) (by omega) rfl) ?_
      refine gs (s_stElem (.tmp rfl) rfl (getw (i := k) (by omega)) rfl (.tmp rfl) rfl rfl T186 rfl rfl) ?_
      refine ga (i64_subI (by omega)) ?_
      exact gK3 hK1 (q.set k (W / val v)) (wr u k (fixw (n + 3) (W % val v))) k ⟨by simp [hql], by rw [len_wr (by rw [len_fixw]; omega), hul], ws_set wq hdig.q_lt, ws_wr wu (ws_fixw _ _), by omega, e2, e3⟩ (hw := Wk.of (by repeat (first | exact SlW.nil | refine SlW.k ?_)) (.cons rfl (BlkSub.of (by rw [← hW]; first | (rw [q1]; done) | (rw [wr_back (r := W % val v) hwul (len_fixw _ _) (by rw [val_fixw _ _ hrl]; exact q1)]; done))) (.cons rfl (BlkSub.of (by rw [List.map_set, q2]; rfl)) .nil)))
   ·have hj0 : j = 0 := by have := ht80; simp [icmp] at this; omega
    subst hj0
    have hU' : 2 ^ sh * val a = 2 ^ sh * val b * val q + val u := by rw [← vv]; simpa using hU
    obtain ⟨hQ, hR⟩ := div_end hU' (by rw [← vv]; simpa using hlt)
    refine gW ((Wk.freeze (k := 61) rfl).trans <| (Wk.freeze (k := 901) rfl).trans <| Wk.of (sl := [(8, some (i64 sh)), (10, some (ws u)), (11, some (ws q))]) (hp := []) (.k (.cons rfl (Sub.of (fz_all (by simp [hul]))) (.cons rfl (Sub.of (by rw [show AV.fz 61 1 (q.map u32) (.ms 61 1 0 lq) = ws q from fz_all (by simp [hql])]; rfl)) .nil))) .nil) ?_
    refine gc (c_trim q wq (by unfold big; omega)) ?_
    refine gc (c_integer_down u sh wu (by unfold big; omega) hsh2) ?_
    refine gE2 ?_
    rw [← hQ, ← hR]
end Go.Lw
namespace Go.Lw
open Go.Proofs
theorem div_cond {b : Bool} {n : Nat} : (cond b (icmp .gtr ((ofNat n).length : Int) 0) false) = true ↔ (b = true ∧ 0 < n) := by
 have h : icmp .gtr ((ofNat n).length : Int) 0 = true ↔ 0 < n := by
  simp only [icmp, decide_eq_true_eq]
  constructor
  ·intro h; rcases Nat.eq_zero_or_pos n with h1 | h1; (subst h1; simp [ofNat_zero] at h); exact h1
  ·intro h
   have : ofNat n ≠ [] := by intro h1; have := val_ofNat n; rw [h1] at this; simp [val] at this; omega
   have := List.length_pos_iff.2 this
   omega
 cases b with
 | false => simp
 | true => exact ⟨fun h1 => ⟨rfl, h.1 h1⟩, fun h1 => h.2 h1.2⟩
theorem c_integer_Sign (a : Wh) (ha : a.ok) : FnC Tryz.prog 133 [a.av] (i64 a.z.sign) := by
 obtain ⟨e1, e2, e3⟩ := sign_end ha
 refine gF0 Tryz.func133 ?_
 refine gc (c_integer_mag a ha) ?_
 refine gl ?_
 refine gC (fun ht3 => ?_) (fun ht3 => ?_)
 ·have h0 : a.m.length = 0 := by simpa [icmp] using ht3
  refine gE1 ?_
  rw [e1 h0]; rfl
 ·have h0 : a.m.length ≠ 0 := by simpa [icmp] using ht3
  refine gC (fun ht8 => ?_) (fun ht8 => ?_)
  ·refine gE1 ?_
   rw [e2 h0 ht8]; rfl
  ·refine gE1 ?_
   rw [e3 h0 ht8]; rfl
theorem c_integer_Cmp (a b : Wh) (ha : a.ok) (hb : b.ok) : FnC Tryz.prog 129 [a.av, b.av] (i64 (cmp3 a.z b.z)) := by
 refine gF0 Tryz.func129 ?_
 refine gc (c_integer_Sign a ha) ?_
 refine gc (c_integer_Sign b hb) ?_
 refine gD ?_
 refine gC (fun ht14 => ?_) (fun ht14 => ?_)
 ·have h0 : a.z.sign ≠ b.z.sign := by simpa [icmp] using ht14
  obtain ⟨e1, e2⟩ := cmp_sign h0
  refine gC (fun ht17 => ?_) (fun ht17 => ?_)
  ·have h1 : a.z.sign < b.z.sign := by simpa [icmp] using ht17
   refine gE1 ?_
   rw [e1 h1]; rfl
  ·have h1 : ¬ a.z.sign < b.z.sign := by simpa [icmp] using ht17
   refine gE1 ?_
   rw [e2 h1]; rfl
 ·have h0 : a.z.sign = b.z.sign := by simpa [icmp] using ht14
  have e1 := cmp_same h0
  refine gc (c_integer_mag a ha) ?_
  refine gc (c_integer_mag b hb) ?_
  refine gc (c_integer_compare a.m b.m (Wh.ws ha) (Wh.ws hb) a.nz b.nz) ?_
  refine gD ?_
  refine gc (c_integer_neg a ha) ?_
  refine gC (fun ht24 => ?_) (fun ht24 => ?_)
  ·rw [ht24, if_pos rfl] at e1
   refine gs (s_neg (.tmp rfl) rfl) ?_
   refine gE1 ?_
   rw [e1]
   split
   ·rfl
   ·split <;> rfl
  ·rw [ht24, if_neg Bool.false_ne_true] at e1
   refine gE1 ?_
   first | (rw [e1]; done) | (rw [e1]; rfl)
theorem c_integer_Neg (a : Wh) (ha : a.ok) (la : a.mag.length < big) : FnC Tryz.prog 213 [a.av] (zA (-a.z)) := by
 refine gF0 Tryz.func213 ?_
 refine gc (c_integer_neg a ha) ?_
 refine gc (c_integer_mag a ha) ?_
 refine gc (c_integer_whole _ a.m (Wh.ws ha) (Nat.le_of_lt (Wh.small ha la))) ?_
 refine gD ?_
 refine gE1 ?_
 rw [Wh.z_eq, ← sgn_neg]; rfl
theorem c_integer_Mul (a b : Wh) (ha : a.ok) (hb : b.ok) (la : a.mag.length + b.mag.length ≤ big) : FnC Tryz.prog 211 [a.av, b.av] (zA (a.z * b.z)) := by
 have h1 := Wh.m_le (w := a)
 have h2 := Wh.m_le (w := b)
 have h3 : (ofNat (val a.m * val b.m)).length ≤ a.m.length + b.m.length := ofNat_length_le (by rw [Nat.pow_add]; exact Nat.mul_lt_mul'' (val_lt _ (Wh.ws ha)) (val_lt _ (Wh.ws hb)))
 refine gF0 Tryz.func211 ?_
 refine gc (c_integer_neg a ha) ?_
 refine gc (c_integer_neg b hb) ?_
 refine gc (c_integer_mag a ha) ?_
 refine gc (c_integer_mag b hb) ?_
 refine gc (c_integer_times a.m b.m (Wh.ws ha) (Wh.ws hb) (by omega)) ?_
 refine gc (c_integer_whole _ _ (ws_ofNat _) (by omega)) ?_
 refine gD ?_
 refine gE1 ?_
 rw [val_ofNat, mul_sgn]; rfl
theorem c_integer_Add (a b : Wh) (ha : a.ok) (hb : b.ok) (la : a.mag.length < big) (lb : b.mag.length < big) : FnC Tryz.prog 210 [a.av, b.av] (zA (a.z + b.z)) := by
 have h1 := Wh.m_le (w := a)
 have h2 := Wh.m_le (w := b)
 have hla : val a.m < 4294967296 ^ (max a.m.length b.m.length) := Nat.lt_of_lt_of_le (val_lt _ (Wh.ws ha)) (Nat.pow_le_pow_right (by omega) (by omega))
 have hlb : val b.m < 4294967296 ^ (max a.m.length b.m.length) := Nat.lt_of_lt_of_le (val_lt _ (Wh.ws hb)) (Nat.pow_le_pow_right (by omega) (by omega))
 have h3 : (ofNat (val a.m + val b.m)).length ≤ max a.m.length b.m.length + 1 := ofNat_length_le (by rw [Nat.pow_succ]; omega)
 have h4 : (ofNat (val a.m - val b.m)).length ≤ max a.m.length b.m.length := ofNat_length_le (by omega)
 have h5 : (ofNat (val b.m - val a.m)).length ≤ max a.m.length b.m.length := ofNat_length_le (by omega)
 refine gF0 Tryz.func210 ?_
 refine gc (c_integer_mag a ha) ?_
 refine gc (c_integer_mag b hb) ?_
 refine gD ?_
 refine gc (c_integer_neg a ha) ?_
 refine gc (c_integer_neg b hb) ?_
 refine gD ?_
 refine gC (fun ht11 => ?_) (fun ht11 => ?_)
 ·have h0 : a.n = b.n := by simpa using ht11
  refine gc (c_integer_neg a ha) ?_
  refine gc (c_integer_plus a.m b.m (Wh.ws ha) (Wh.ws hb) (by omega) (by omega)) ?_
  refine gc (c_integer_whole _ _ (ws_ofNat _) (by omega)) ?_
  refine gE1 ?_
  rw [val_ofNat, add_same h0]; rfl
 ·have h0 : a.n ≠ b.n := by simpa using ht11
  refine gc (c_integer_compare a.m b.m (Wh.ws ha) (Wh.ws hb) a.nz b.nz) ?_
  refine gC (fun ht23 => ?_) (fun ht23 => ?_)
  ·have h6 : val b.m ≤ val a.m := by
    rcases Nat.lt_or_ge (val a.m) (val b.m) with h | h
    ·rw [if_pos h] at ht23; cases ht23
    ·exact h
   refine gc (c_integer_neg a ha) ?_
   refine gc (c_integer_less a.m b.m (Wh.ws ha) (Wh.ws hb) (by omega) (by rcases Nat.lt_or_ge a.m.length b.m.length with h | h; (have := val_cmp_len (Wh.ws ha) b.nz h; omega); exact h) h6) ?_
   refine gc (c_integer_whole _ _ (ws_ofNat _) (by omega)) ?_
   refine gE1 ?_
   rw [val_ofNat, add_left h0 h6]; rfl
  ·have h6 : val a.m < val b.m := by
    rcases Nat.lt_or_ge (val a.m) (val b.m) with h | h
    ·exact h
    ·rw [if_neg (by omega)] at ht23; split at ht23 <;> cases ht23
   refine gc (c_integer_neg b hb) ?_
   refine gc (c_integer_less b.m a.m (Wh.ws hb) (Wh.ws ha) (by omega) (by rcases Nat.lt_or_ge b.m.length a.m.length with h | h; (have := val_cmp_len (Wh.ws hb) a.nz h; omega); exact h) (by omega)) ?_
   refine gc (c_integer_whole _ _ (ws_ofNat _) (by omega)) ?_
   refine gE1 ?_
   rw [val_ofNat, add_right h0 (by omega)]; rfl
theorem c_integer_Gcd (a b : Wh) (ha : a.ok) (hb : b.ok) (la : a.mag.length < big) (lb : b.mag.length < big) : FnC Tryz.prog 130 [a.av, b.av] (zA (Int.gcd a.z b.z)) := by
 refine gF0 Tryz.func130 ?_
 refine gc (c_integer_mag a ha) ?_
 refine gc (c_integer_mag b hb) ?_
 refine gD ?_
 refine gL2 [4] [4] (fun (x y : List Nat) => [(5, some (ws x)), (6, some (ws y))]) (fun _ _ => []) (fun x y => Ws x ∧ Ws y ∧ Nz x ∧ Nz y ∧ x.length < big ∧ y.length < big ∧ Nat.gcd (val x) (val y) = Int.gcd a.z b.z) (fun _ y => val y) a.m b.m ⟨Wh.ws ha, Wh.ws hb, a.nz, b.nz, Wh.small ha la, Wh.small hb lb, by rw [Int.gcd, Wh.abs, Wh.abs]⟩ ?_
 rintro x y ⟨wx, wy, nx, ny, lx, ly, hg⟩ K1 hK1
 refine gl ?_
 refine gC (fun ht15 => ?_) (fun ht15 => ?_)
 ·have hy : y ≠ [] := by intro h; subst h; simp [icmp] at ht15
  have hy0 := val_pos ny hy
  have hm := Nat.mod_lt (val x) hy0
  refine gc (c_integer_divide x y wx wy nx ny hy lx ly) ?_
  exact gK2 hK1 y (ofNat (val x % val y)) ⟨wy, ws_ofNat _, ny, nz_ofNat _, ly, Nat.lt_of_le_of_lt (ofNat_length_le (Nat.lt_trans hm (val_lt y wy))) ly, by rw [val_ofNat, ← hg, Nat.gcd_comm (val x) (val y), Nat.gcd_comm (val y) (val x % val y)]; exact (Nat.gcd_rec _ _).symm⟩ (by show val (ofNat _) < val y; rw [val_ofNat]; exact hm)
 ·have hy : y = [] := by
   cases y with
   | nil => rfl
   | cons c l => simp [icmp] at ht15
  subst hy
  have hg' : val x = Int.gcd a.z b.z := by rw [← hg]; simp [val]
  refine gc (c_integer_whole false x wx (Nat.le_of_lt lx)) ?_
  refine gE1 ?_
  rw [hg']; rfl
theorem c_integer_Div (a b : Wh) (ha : a.ok) (hb : b.ok) (la : a.mag.length + 1 < big) (lb : b.mag.length < big) (h0 : b.z ≠ 0) : FnC Tryz.prog 228 [a.av, b.av] (.tup [zA (a.z / b.z), zA (a.z % b.z), .v .nilIface]) := by
 have hm1 := Wh.m_le (w := a)
 have hm2 := Wh.m_le (w := b)
 have hb1 : val b.m ≠ 0 := by have := Wh.abs (w := b); omega
 have hb2 : b.m ≠ [] := fun h => hb1 (by rw [h]; rfl)
 have hl1 : (ofNat (val a.m / val b.m)).length ≤ a.m.length := ofNat_length_le (Nat.lt_of_le_of_lt (Nat.div_le_self _ _) (val_lt _ (Wh.ws ha)))
 have hmod := Nat.mod_lt (val a.m) (show 0 < val b.m by omega)
 have hl2 : (ofNat (val a.m % val b.m)).length ≤ b.m.length := ofNat_length_le (Nat.lt_trans hmod (val_lt _ (Wh.ws hb)))
 have hl3 : (ofNat (val a.m / val b.m + 1)).length ≤ a.m.length + 1 := ofNat_length_le (by have h7 := Nat.lt_of_le_of_lt (Nat.div_le_self (val a.m) (val b.m)) (val_lt _ (Wh.ws ha)); rw [Nat.pow_succ]; generalize val a.m / val b.m = m at *; omega)
 have hl4 : (ofNat (val b.m - val a.m % val b.m)).length ≤ b.m.length := ofNat_length_le (by have := val_lt _ (Wh.ws hb); omega)
 have hv1 : val [1] = 1 := rfl
 refine gF0 Tryz.func228 ?_
 refine gc (c_integer_mag b hb) ?_
 refine gl ?_
 refine gC (fun ht14 => ?_) (fun ht14 => ?_) (st1 := (3, 0))
 ·exact absurd (List.length_eq_zero_iff.1 (by simpa [icmp] using ht14)) hb2
 ·refine gc (c_integer_mag a ha) ?_
  refine gc (c_integer_divide a.m b.m (Wh.ws ha) (Wh.ws hb) a.nz b.nz hb2 (by omega) (by omega)) ?_
  refine gc (c_integer_neg a ha) ?_
  refine glG ?_
  refine gC (fun ht31 => ?_) (fun ht31 => ?_)
  ·have h1 : a.n = true ∧ 0 < val a.m % val b.m := div_cond.1 ht31
   obtain ⟨e1, e2⟩ := div_high hb1 h1.1 h1.2
   refine gc (c_integer_plus (ofNat (val a.m / val b.m)) [1] (ws_ofNat _) (ws_one (by omega)) (by omega) (by unfold big; simp)) ?_
   refine gc (c_integer_less b.m (ofNat (val a.m % val b.m)) (Wh.ws hb) (ws_ofNat _) (by omega) hl2 (by rw [val_ofNat]; omega)) ?_ (7, 0)
   refine gW (Wk.of (sl := [(2, some (.ptr 2 0)), (3, some (.ptr 3 0)), (4, some (.ptr 4 0)), (5, some (.ptr 5 0)), (8, some (ws (ofNat (val a.m / val b.m + 1)))), (9, some (ws (ofNat (val b.m - val a.m % val b.m))))]) (hp := [(2, some (.box [bl a.neg, ws a.mag])), (3, some (.box [bl b.neg, ws b.mag])), (4, some (.box [.v (.bool false), .v (.slice none 0 0)])), (5, some (.box [.v (.bool false), .v (.slice none 0 0)]))]) (.k (.k (.k (.k (.cons rfl (Sub.of (by rw [val_ofNat, hv1])) (.cons rfl (Sub.of (by rw [val_ofNat])) .nil)))))) (.cons rfl (.refl _) (.cons rfl (.refl _) (.cons rfl (.refl _) (.cons rfl (.refl _) .nil))))) ?_
   refine gc (c_integer_neg a ha) ?_
   refine gc (c_integer_neg b hb) ?_
   refine gc (by apply c_integer_whole _ _ (ws_ofNat _) (by omega)) ?_
   refine gc (by apply c_integer_whole _ _ (ws_ofNat _) (by omega)) ?_
   refine gD ?_
   refine gR ?_
   exact fin_eq3 (by rw [val_ofNat, val_ofNat, e1, show sgn false _ = _ from e2]; rfl)
  ·have h1 : ¬ (a.n = true ∧ 0 < val a.m % val b.m) := fun h => Bool.eq_false_iff.1 ht31 (div_cond.2 h)
   obtain ⟨e1, e2⟩ := div_low hb1 h1
   refine gc (c_integer_neg a ha) ?_
   refine gc (c_integer_neg b hb) ?_
   refine gc (by apply c_integer_whole _ _ (ws_ofNat _) (by omega)) ?_
   refine gc (by apply c_integer_whole _ _ (ws_ofNat _) (by omega)) ?_
   refine gD ?_
   refine gR ?_
   exact fin_eq3 (by rw [val_ofNat, val_ofNat, e1, show sgn false _ = _ from e2]; rfl)
end Go.Lw
namespace Go.Lw
open Go.Proofs
theorem of_val {N : Nat} (h : N < 18446744073709551616) : val [N % 4294967296, N / 2 ^ 32] = N := by
 simp only [val]; omega
theorem of_ws {N : Nat} (h : N < 18446744073709551616) : Ws [N % 4294967296, N / 2 ^ 32] := by
 intro x hx
 simp only [List.mem_cons, List.not_mem_nil, or_false] at hx
 rcases hx with rfl | rfl <;> omega
theorem c_integer_Of (n : Int) (h : -9223372036854775808 ≤ n ∧ n ≤ 9223372036854775807) : FnC Tryz.prog 188 [i64 n] (zA n) := by
 obtain ⟨N, hN⟩ : ∃ N, N = n.natAbs := ⟨_, rfl⟩
 have hNB : N < 18446744073709551616 := by omega
 refine gF0 Tryz.func188 ?_
 refine gv (show IntKind.u64.wrap n = ((n % 18446744073709551616 : Int)) by simp only [IntKind.wrap, IntKind.signed, IntKind.bits, Bool.false_and, if_false, Bool.false_eq_true]; omega) ?_
 refine gC (fun ht7 => ?_) (fun ht7 => ?_) (st2 := (77777, 0))
 ·have hn : n < 0 := by simpa [icmp] using ht7
  refine gs (s_neg (.tmp rfl) rfl) ?_ (4, 0)
  refine gW (Wk.of (sl := [(0, some (i64 n)), (2, some (.ptr 2 0)), (3, some (u64 N))]) (hp := [(2, some (.box [.v (.bool false), .v (.slice none 0 0)]))]) (.k (.k (.cons rfl (Sub.int (by simp only [IntKind.wrap, IntKind.signed, IntKind.bits, Bool.false_and, if_false, Bool.false_eq_true]; omega)) .nil))) (.cons rfl (.refl _) .nil)) ?_
  refine gv (u32_wrap _) ?_
  refine gs (s_shrW (.tmp rfl) (.const _) (by omega) (u64_shr _ 32 (by omega)) rfl) ?_
  refine gv ((u32_wrap _).trans (by rw [Nat.mod_eq_of_lt (show N / 2 ^ 32 < 4294967296 by omega)])) ?_
  refine gc (c_integer_whole (icmp .lss n 0) [N % 4294967296, N / 2 ^ 32] (of_ws hNB) (by unfold big; simp)) ?_
  refine gE1 ?_
  rw [of_val hNB, show sgn (icmp .lss n 0) N = n by simp only [sgn, icmp, decide_eq_true_eq]; split <;> omega]; rfl
 ·have hn : ¬ n < 0 := by simpa [icmp] using ht7
  refine gW (Wk.of (sl := [(0, some (i64 n)), (2, some (.ptr 2 0)), (3, some (u64 N))]) (hp := [(2, some (.box [.v (.bool false), .v (.slice none 0 0)]))]) (.k (.k (.cons rfl (Sub.int (by omega)) .nil))) (.cons rfl (.refl _) .nil)) ?_
  refine gv (u32_wrap _) ?_
  refine gs (s_shrW (.tmp rfl) (.const _) (by omega) (u64_shr _ 32 (by omega)) rfl) ?_
  refine gv ((u32_wrap _).trans (by rw [Nat.mod_eq_of_lt (show N / 2 ^ 32 < 4294967296 by omega)])) ?_
  refine gc (c_integer_whole (icmp .lss n 0) [N % 4294967296, N / 2 ^ 32] (of_ws hNB) (by unfold big; simp)) ?_
  refine gE1 ?_
  rw [of_val hNB, show sgn (icmp .lss n 0) N = n by simp only [sgn, icmp, decide_eq_true_eq]; split <;> omega]; rfl
end Go.Lw
namespace Go.Lw
theorem fixw_takes : ∀ (j k v : Nat), j ≤ k → (fixw k v).take j = fixw j v
  | 0, _, _, _ => by simp [fixw]
  | j + 1, 0, _, h => by omega
  | j + 1, k + 1, v, h => by
    rw [fixw, fixw, List.take_succ_cons, fixw_takes j k _ (by omega)]
theorem trim_len {m : List Nat} (h : Ws m) : (ofNat (val m)).length ≤ m.length := ofNat_length_le (val_lt m h)
theorem take_trim {m : List Nat} (h : Ws m) : m.take (ofNat (val m)).length = ofNat (val m) := by
  have h1 := eq_fixw m h
  have h2 := eq_fixw (ofNat (val m)) (ws_ofNat _)
  rw [val_ofNat] at h2
  have h3 := fixw_takes _ _ (val m) (trim_len h)
  rw [← h1, ← h2] at h3
  exact h3
theorem trim_is {m : List Nat} {n : Nat} (h : Ws m) (hn : n ≤ m.length) (hv : val (m.take n) = val m) (h0 : n = 0 ∨ wordW m (n - 1) ≠ 0) : n = (ofNat (val m)).length := by
  have h1 : m.take n = ofNat (val m) := by
    refine ofNat_eq (ws_take h n) ?_ hv
    intro x hx
    rcases h0 with h0 | h0
    · subst h0; simp at hx
    · have hn0 : n ≠ 0 := by intro h3; subst h3; simp at hx
      rw [List.getLast?_eq_getElem?, List.length_take, Nat.min_eq_left hn, List.getElem?_take, if_pos (by omega), word_get (by omega)] at hx
      cases hx; exact h0
  rw [← h1, List.length_take, Nat.min_eq_left hn]
theorem val_td (l : List Nat) (i : Nat) : val l = val (l.take i) + 4294967296 ^ i * val (l.drop i) := by
  rcases Nat.lt_or_ge i l.length with h | h
  · exact val_take_drop (by omega)
  · rw [val_take_ge h, List.drop_eq_nil_of_le h]; simp [val]
theorem val_drops (l : List Nat) (i : Nat) : val (l.drop i) = wordW l i + 4294967296 * val (l.drop (i + 1)) := by
  rcases Nat.lt_or_ge i l.length with h | h
  · exact val_drop h
  · rw [word_out h, List.drop_eq_nil_of_le h, List.drop_eq_nil_of_le (by omega)]; rfl
theorem cmp_word {a b : List Nat} {i : Nat} (ha : Ws a) (he : val (a.drop (i + 1)) = val (b.drop (i + 1))) (hx : wordW a i < wordW b i) : val a < val b := by
  rw [val_td a (i + 1), val_td b (i + 1), he]
  have := val_lt_word ha hx
  omega
theorem sub_agg {xs ys : List AV} (hl : xs.length = ys.length) (h1 : ∀ (j : Nat) (y : AV), ys[j]? = some y → y.one = true) (h : ∀ (j : Nat) (x y : AV), xs[j]? = some x → ys[j]? = some y → Sub x y) : Sub (.agg xs) (.agg ys) := by
  intro g S m v hr
  cases hr with
  | agg hn h2 hr =>
    refine .agg (hn.trans hl) h1 ?_
    intro j u c hu hc
    have hj : j < xs.length := by
      rw [hl]
      rcases Nat.lt_or_ge j ys.length with h | h
      · exact h
      · rw [List.getElem?_eq_none h] at hc; cases hc
    exact h j _ c (List.getElem?_eq_getElem hj) hc _ _ _ _ (hr j u _ hu (List.getElem?_eq_getElem hj))
/-- The zero value of a whole number is 0. -/
theorem sub_z0 : Sub (.agg [.v (.bool false), .v (.slice none 0 0)]) (zA 0) := by
  show Sub (.agg [.v (.bool false), .v (.slice none 0 0)]) (.agg [bl false, ws []])
  refine sub_agg rfl ?_ ?_
  · intro j y hy
    match j, hy with
    | 0, hy => cases hy; rfl
    | 1, hy => cases hy; rfl
  · intro j x y hx hy
    match j, hx, hy with
    | 0, hx, hy => cases hx; cases hy; exact Sub.refl _
    | 1, hx, hy => cases hx; cases hy; exact Sub.nil _ _ _
theorem plus_app {out : List Nat} {i x : Nat} (h : out.length = i) : val (out ++ [x]) = val out + 4294967296 ^ i * x := by
  rw [val_append, h]; simp [val]
theorem minus_step {o c P x y u w : Nat} (hu : u < 4294967296) (hw : w < 4294967296) (hc : c ≤ 1) (h : o + y = x + c * P) :
    (o + P * ((4294967296 + u - w - c) % 4294967296)) + (y + P * w) = (x + P * u) + (1 - (4294967296 + u - w - c) / 2 ^ 32) * (P * 4294967296) := by
  have h0 : (4294967296 + u - w - c) % 4294967296 + w + c = u + (1 - (4294967296 + u - w - c) / 2 ^ 32) * 4294967296 := by omega
  generalize (1 - (4294967296 + u - w - c) / 2 ^ 32) = q at *
  generalize (4294967296 + u - w - c) % 4294967296 = r at *
  grind
theorem minus_end {a b out : List Nat} {c : Nat} (ha : Ws a) (hw : Ws out) (ho : out.length = a.length) (hle : val b ≤ val a)
    (h : val out + val (b.take a.length) = val (a.take a.length) + c * 4294967296 ^ a.length) : val out = val a - val b := by
  have hb := val_td b a.length
  have h2 := val_lt a ha
  have h3 : val (b.drop a.length) = 0 := by
    rcases Nat.eq_zero_or_pos (val (b.drop a.length)) with h4 | h4
    · exact h4
    · have := Nat.mul_le_mul_left (4294967296 ^ a.length) h4; omega
  rw [h3, Nat.mul_zero, Nat.add_zero] at hb
  rw [← hb, List.take_length] at h
  have h1 := val_lt out hw
  rw [ho] at h1
  cases c with
  | zero => omega
  | succ c => rw [Nat.succ_mul] at h; omega
theorem ofInt_ok {z : Int} {k : Nat} (h : Lz k z) (hk : k ≤ maxL) : (ofInt z).ok := ⟨ws_ofNat _, Nat.le_trans h.len hk⟩
theorem ofInt_len {z : Int} {k : Nat} (h : Lz k z) : (ofInt z).mag.length ≤ k := h.len
theorem sign_sub (x y : Int) : (x - y).sign = cmp3 x y := by
  unfold cmp3
  have h := sign_cases (x - y)
  (repeat' split) <;> omega
end Go.Lw
namespace Go.Lw
open Go.Proofs
theorem c_r01_at (m : List Nat) (i : Nat) (hm : Ws m) : FnC Tryz.prog 216 [ws m, i64 i] (u64 (wordW m i)) := by
 refine gF0 Tryz.func216 ?_
 refine gl ?_
 refine gC (fun ht8 => ?_) (fun ht8 => ?_)
 ·simp [icmp] at ht8
  have := wordW_lt hm i
  refine gi (getw (i := i) ht8) ?_
  refine gv (u64_in (by omega)) ?_
  refine gE1 ?_
  rfl
 ·simp [icmp] at ht8
  refine gE1 ?_
  simp [u64, word_out ht8]
theorem c_r01_Valid (w : Wh) (h : w.ok) : FnC Tryz.prog 164 [w.av] (bl w.valid) := by
 have hl : w.mag.length ≤ maxL := h.2
 refine gF0 Tryz.func164 ?_
 refine gl ?_
 refine gC (fun ht6 => ?_) (fun ht6 => ?_)
 ·have h0 : w.mag = [] := by simpa [icmp] using ht6
  refine gE1 ?_
  simp [bl, Wh.valid, h0]
 ·have h0 : w.mag.length ≠ 0 := by simpa [icmp] using ht6
  refine gl ?_
  refine ga (i64_sub1 (by omega) (by omega)) ?_
  refine gi (getw (i := w.mag.length - 1) (by omega)) ?_
  refine gE1 ?_
  have h1 : w.mag ≠ [] := fun h => h0 (by rw [h]; rfl)
  simp only [bl, Wh.valid, if_neg h1, List.getLast?_eq_getElem?, word_get (show w.mag.length - 1 < w.mag.length by omega), icmp]
  congr 2
  generalize wordW w.mag _ = x
  rw [Bool.eq_iff_iff]; simp
theorem c_r01_mag (w : Wh) (h : w.ok) : FnC Tryz.prog 107 [w.av] (ws w.m) := by
 refine gF0 Tryz.func107 ?_
 refine gc (c_r01_Valid w h) ?_
 refine gC (fun ht5 => ?_) (fun ht5 => ?_)
 ·have h0 : w.valid = false := by simpa [icmp] using ht5
  refine gR ?_
  exact fin_sub1 (by rw [show w.m = [] by simp [Wh.m, h0]]; exact Sub.nil _ _ _)
 ·have h0 : w.valid = true := by simpa [icmp] using ht5
  refine gE1 ?_
  simp only [Wh.m, h0]; rfl
theorem c_r01_neg (w : Wh) (h : w.ok) : FnC Tryz.prog 108 [w.av] (bl w.n) := by
 refine gF0 Tryz.func108 ?_
 refine gc (c_r01_Valid w h) ?_
 refine gE1 ?_
 simp only [Wh.n, bl]; cases w.valid <;> rfl
theorem c_r01_trimO (d : Nat) (hd : Nat.blt d 1000 = true) (m : List Nat) (hm : Ws m) (hb : m.length ≤ big) :
  Con Tryz.prog 215 [ws m] [] (.ms d 1 0 (ofNat (val m)).length) [(d, some (.row 1 (m.map u32)))] := by
 have hb' := hb
 unfold big at hb
 refine gF Tryz.func215 (fun k z h => by cases h) ?_
 refine gs (s_buildMs0 T66 rfl T186 rfl rfl rfl) ?_
 refine gs (s_append (.tmp rfl) rfl rfl (.tmp rfl) T66 rfl T186 rfl rfl (by simp only [List.length_map]; omega) rfl rfl) ?_
 refine gL1 [] [6] (fun (n : Nat) => [(3, some (.ms 6 1 0 n))]) (fun _ => []) (fun n => n ≤ m.length ∧ val (m.take n) = val m) (fun n => n) m.length ⟨Nat.le_refl _, by rw [List.take_length]⟩ ?_ (h1 := (.cons rfl (Sub.of (by rw [List.length_map, Nat.zero_add])) .nil))
 rintro n ⟨hn, hv⟩ K1 hK1
 refine gaG (fun h => (i64_sub1 (by simp [icmp] at h; omega) (by unfold maxL; omega))) ?_
 refine gs (s_guard rfl rfl rfl (fun h => s_idxMs0 (n := n - 1) (.opt rfl (o1 h)) (.opt rfl (o1 h)) T66 rfl T186 rfl (by omega) (by simp [icmp] at h; omega) rfl)) ?_
 refine gs (s_guard rfl rfl rfl (fun h => s_loadEptr (.opt rfl (o1 h)) rfl (getw (i := n - 1) (by simp [icmp] at h; omega)) T186 rfl rfl rfl)) ?_
 refine gC (fun ht18 => ?_) (fun ht18 => ?_)
 ·have ht18 : 0 < n ∧ wordW m (n - 1) = 0 := by simpa [icmp] using ht18
  refine ga (i64_sub1 (by omega) (by unfold maxL; omega)) ?_
  refine gs (s_sliceMs (.tmp rfl) (.none _) (.some _ (.tmp rfl) (by omega)) T66 rfl T186 rfl (by omega) (by omega) rfl) ?_
  exact gK1 hK1 (n - 1) ⟨by omega, by have h := @val_take_word m (n - 1); rw [show n - 1 + 1 = n by omega, ht18.2] at h; simp at h; omega⟩ (hw := Wk.of (.cons rfl (Sub.of (by congr 1)) .nil) (.cons rfl (.refl _) .nil))
 ·have ht18 : 0 < n → wordW m (n - 1) ≠ 0 := by simpa [icmp] using ht18
  have hn1 := trim_is hm hn hv (by rcases Nat.eq_zero_or_pos n with h | h; (exact .inl h); exact .inr (ht18 h))
  subst hn1
  refine gR ?_
  exact Fin.own1 rfl hd rfl
theorem c_r01_trim (m : List Nat) (hm : Ws m) (hb : m.length ≤ big) : FnC Tryz.prog 215 [ws m] (ws (ofNat (val m))) := by
 have h := Con.freeze (by rw [List.length_map, Nat.zero_add]; exact trim_len hm) (c_r01_trimO 0 rfl m hm hb)
 rwa [List.drop_zero, ← List.map_take, take_trim hm] at h
theorem c_r01_form (b : Bool) (m : List Nat) (hm : Ws m) (hb : m.length ≤ big) : FnC Tryz.prog 169 [bl b, ws m] (zA (sgn b (val m))) := by
 refine gF0 Tryz.func169 ?_
 refine gc (c_r01_trim m hm hb) ?_
 refine gl ?_
 refine gC (fun ht9 => ?_) (fun ht9 => ?_)
 ·have h0 : val m = 0 := by
   have := val_ofNat (val m)
   have h9 : ofNat (val m) = [] := List.length_eq_zero_iff.1 (by simpa [icmp] using ht9)
   rw [h9] at this
   exact this.symm
  refine gR ?_
  exact fin_sub1 (by rw [h0, show sgn b 0 = 0 by cases b <;> rfl]; exact sub_z0)
 ·have h0 : val m ≠ 0 := by
   intro h
   rw [h] at ht9
   cases ht9
  refine gE1 ?_
  rw [show zA (sgn b (val m)) = .agg [bl b, ws (ofNat (val m))] by
   unfold zA ofInt Wh.av
   rw [show (sgn b (val m)).natAbs = val m by unfold sgn; split <;> omega, show decide (sgn b (val m) < 0) = b by cases b <;> simp [sgn] <;> omega]]
theorem c_r01_compare (a b : List Nat) (ha : Ws a) (hb : Ws b) : FnC Tryz.prog 171 [ws a, ws b] (i64 (if val a < val b then -1 else if val b < val a then 1 else 0)) := by
  refine gF0 Tryz.func171 ?_ (0, 0)
  refine gLen (t := 0) rfl (fun hla => ?_)
  refine gLen (t := 1) rfl (fun hlb => ?_)
  unfold maxL at hla hlb
  refine go ?_
  refine gl ?_
  refine gl ?_
  refine gs (s_max (.tmp rfl) (.tmp rfl) rfl) ?_
  refine ga (i64_subI (by omega)) ?_
  refine gL1 [0, 1] [] (fun (n : Nat) => [(5, some (i64 ((n : Int) - 1)))]) (fun _ => []) (fun n => n ≤ 281474976710656 ∧ val (a.drop n) = val (b.drop n)) (fun n => n) (max a.length b.length) ⟨by omega, by rw [List.drop_eq_nil_of_le (by omega), List.drop_eq_nil_of_le (by omega)]⟩ ?_ (h1 := (.cons rfl (Sub.int (by omega)) .nil))
  rintro n ⟨hn, hd⟩ K1 hK1
  refine gC (fun ht13 => ?_) (fun ht13 => ?_)
  · have hn0 : 1 ≤ n := by have := ht13; simp [icmp] at this; omega
    obtain ⟨k, rfl⟩ : ∃ k, n = k + 1 := ⟨n - 1, by omega⟩
    have hk : ((k + 1 : Nat) : Int) - 1 = (k : Int) := by omega
    rw [hk]
    refine gc (c_r01_at a k ha) ?_
    refine gc (c_r01_at b k hb) ?_
    refine gC (fun ht22 => ?_) (fun ht22 => ?_)
    · have h3 : wordW a k ≠ wordW b k := by simpa [icmp, Int.ofNat_inj] using ht22
      refine gc (c_r01_at a k ha) ?_
      refine gc (c_r01_at b k hb) ?_
      refine gC (fun ht29 => ?_) (fun ht29 => ?_)
      · have h4 : wordW a k < wordW b k := by simpa [icmp] using ht29
        have h5 := cmp_word ha hd h4
        refine gE1 ?_
        simp [i64, h5]
      · have h4 : wordW b k < wordW a k := by have : wordW b k ≤ wordW a k := by simpa [icmp] using ht29
                                              omega
        have h5 := cmp_word hb hd.symm h4
        refine gE1 ?_
        simp [i64, h5, Nat.lt_asymm h5]
    · have h3 : wordW a k = wordW b k := by simpa [icmp, Int.ofNat_inj] using ht22
      refine ga (i64_subI (by omega)) ?_
      exact gK1 hK1 k ⟨by omega, by rw [val_drops a, val_drops b, hd, h3]⟩
  · have hn0 : n = 0 := by have := ht13; simp [icmp] at this; omega
    subst hn0
    refine gE1 ?_
    simp at hd; simp [i64, hd]
end Go.Lw
namespace Go.Lw
open Go.Proofs
theorem c_r01_plus (a b : List Nat) (ha : Ws a) (hb : Ws b) (la : a.length < big) (lb : b.length < big) : FnC Tryz.prog 170 [ws a, ws b] (ws (ofNat (val a + val b))) := by
  unfold big at la lb
  obtain ⟨n, hn⟩ : ∃ n, n = max a.length b.length + 1 := ⟨_, rfl⟩
  refine gF0 Tryz.func170 ?_
  refine gl ?_
  refine gl ?_
  refine gs (s_max (.tmp rfl) (.tmp rfl) rfl) ?_
  refine ga (show _ = (n : Int) by rw [i64_addI (by omega)]; omega) ?_
  refine gW (Wk.virt 900 1 rfl) ?_
  refine gL3 [0, 1, 14] [] (fun (out : List Nat) (c i : Nat) => [(5, some (.ms 900 1 0 i)), (6, some (u64 c)), (15, some (i64 i))]) (fun out _ _ => [(900, some (.row 1 (out.map u32)))]) (fun out c i => out.length = i ∧ i ≤ n ∧ Ws out ∧ c ≤ 1 ∧ val out + c * 4294967296 ^ i = val (a.take i) + val (b.take i)) (fun _ _ i => n - i) ([]) 0 0 ⟨rfl, by omega, ws_nil, by omega, by simp [val]⟩ ?_
  rintro out c i ⟨ho, hi, hw, hc, hv⟩ K1 hK1
  refine gC (fun ht16 => ?_) (fun ht16 => ?_) (st2 := (9, 0))
  · have hin : i < n := by simpa [icmp] using ht16
    have h1 := wordW_lt ha i
    have h2 := wordW_lt hb i
    obtain ⟨s, hs⟩ : ∃ s, s = c + (wordW a i + wordW b i) := ⟨_, rfl⟩
    have h3 := plus_step (u := wordW a i) (w := wordW b i) hv
    rw [← hs] at h3
    refine gc (by apply c_r01_at <;> assumption) ?_
    refine gc (by apply c_r01_at <;> assumption) ?_
    refine ga (u64_add (by omega)) ?_
    refine ga ((u64_add (by omega)).trans (show _ = (s : Int) by congr 1; omega)) ?_
    refine gv (u32_wrap _) ?_
    refine gs (s_append (.tmp rfl) rfl (by rw [List.length_map, ho]) (.tmp rfl) T66 rfl T186 rfl rfl (by simp; omega) rfl rfl) ?_
    refine gs (s_shrW (.tmp rfl) (.const _) (by omega) (u64_shr _ 32 (by omega)) rfl) ?_ (8, 0)
    refine gW (Wk.of (sl := [(0, some (ws a)), (1, some (ws b)), (5, some (.ms 31 1 0 (i + 1))), (6, some (u64 (s / 2 ^ 32))), (14, some (i64 n)), (15, some (i64 i))]) (hp := [(31, some (.row 1 ((out ++ [s % 4294967296]).map u32)))]) (by repeat (first | exact SlW.nil | refine SlW.k ?_)) (.cons rfl (BlkSub.of (by rw [List.map_append]; rfl)) .nil)) ?_ (8, 0)
    refine gW (Wk.rekey (k := 31) (d := 900) rfl rfl) ?_
    refine ga (i64_addI (by omega)) ?_
    exact gK3 hK1 (out ++ [s % 4294967296]) (s / 2 ^ 32) (i + 1) ⟨by simp [ho], by omega, ws_app hw (ws_one (by omega)), by omega, by rw [plus_app ho, val_take_word, val_take_word, Nat.pow_succ]; exact h3⟩
  · have hin : i = n := by have : n ≤ i := by simpa [icmp] using ht16
                           omega
    refine gW ((Wk.freeze (k := 900) rfl).trans <| Wk.of (sl := [(5, some (ws out))]) (hp := []) (.cons rfl (Sub.of (fz_all (by simp [ho]))) .nil) .nil) ?_
    refine gc (c_r01_trim out hw (by unfold big; omega)) ?_
    refine gE1 ?_
    subst hin
    rw [plus_end ha hb hn ho (by rw [val_take_ge (l := out) (by omega)]; exact hv)]
theorem c_r01_minus (a b : List Nat) (ha : Ws a) (hb : Ws b) (la : a.length < big) (hle : val b ≤ val a) : FnC Tryz.prog 172 [ws a, ws b] (ws (ofNat (val a - val b))) := by
  unfold big at la
  obtain ⟨n, hn⟩ : ∃ n, n = a.length := ⟨_, rfl⟩
  refine gF0 Tryz.func172 ?_
  refine gl ?_
  refine gW (Wk.virt 900 1 rfl) ?_
  refine gL3 [0, 1] [] (fun (out : List Nat) (c i : Nat) => [(5, some (.ms 900 1 0 i)), (6, some (u64 c)), (10, some (i64 n)), (11, some (i64 i))]) (fun out _ _ => [(900, some (.row 1 (out.map u32)))]) (fun out c i => out.length = i ∧ i ≤ n ∧ Ws out ∧ c ≤ 1 ∧ val out + val (b.take i) = val (a.take i) + c * 4294967296 ^ i) (fun _ _ i => n - i) ([]) 0 0 ⟨rfl, by omega, ws_nil, by omega, by simp [val]⟩ ?_ (h1 := (.k (.k (.cons rfl (Sub.int (by rw [hn])) (.k .nil)))))
  rintro out c i ⟨ho, hi, hw, hc, hv⟩ K1 hK1
  refine gC (fun ht12 => ?_) (fun ht12 => ?_) (st2 := (9, 0))
  · have hin : i < n := by simpa [icmp] using ht12
    have h1 := wordW_lt ha i
    have h2 := wordW_lt hb i
    obtain ⟨s, hs⟩ : ∃ s, s = 4294967296 + wordW a i - wordW b i - c := ⟨_, rfl⟩
    have h3 := minus_step h1 h2 hc hv
    rw [← hs] at h3
    refine gc (by apply c_r01_at <;> assumption) ?_
    refine ga ((u64_add (x := 4294967296) (by omega))) ?_
    refine gc (by apply c_r01_at <;> assumption) ?_
    refine ga ((u64_sub (by omega) (by omega)).trans (by rw [if_pos (by omega)])) ?_
    refine ga ((u64_sub (by omega) (by omega)).trans (show _ = (s : Int) by rw [if_pos (by omega)]; congr 1; omega)) ?_
    refine gv (u32_wrap _) ?_
    refine gs (s_append (.tmp rfl) rfl (by rw [List.length_map, ho]) (.tmp rfl) T66 rfl T186 rfl rfl (by simp; omega) rfl rfl) ?_
    refine gs (s_shrW (.tmp rfl) (.const _) (by omega) (u64_shr _ 32 (by omega)) rfl) ?_
    refine ga ((u64_sub (x := 1) (by omega) (by omega)).trans (by rw [if_pos (by omega)])) ?_ (8, 0)
    refine gW (Wk.of (sl := [(0, some (ws a)), (1, some (ws b)), (5, some (.ms 28 1 0 (i + 1))), (6, some (u64 (1 - s / 2 ^ 32 : Nat))), (10, some (i64 n)), (11, some (i64 i))]) (hp := [(28, some (.row 1 ((out ++ [s % 4294967296]).map u32)))]) (by repeat (first | exact SlW.nil | refine SlW.k ?_)) (.cons rfl (BlkSub.of (by rw [List.map_append]; rfl)) .nil)) ?_ (8, 0)
    refine gW (Wk.rekey (k := 28) (d := 900) rfl rfl) ?_
    refine ga (i64_addI (by omega)) ?_
    exact gK3 hK1 (out ++ [s % 4294967296]) (1 - s / 2 ^ 32) (i + 1) ⟨by simp [ho], by omega, ws_app hw (ws_one (by omega)), by omega, by rw [plus_app ho, val_take_word, val_take_word, Nat.pow_succ]; exact h3⟩
  · have hin : i = n := by have : n ≤ i := by simpa [icmp] using ht12
                           omega
    refine gW ((Wk.freeze (k := 900) rfl).trans <| Wk.of (sl := [(5, some (ws out))]) (hp := []) (.cons rfl (Sub.of (fz_all (by simp [ho]))) .nil) .nil) ?_
    refine gc (c_r01_trim out hw (by unfold big; omega)) ?_
    refine gE1 ?_
    subst hin
    subst hn
    rw [minus_end ha hw ho hle hv]
theorem c_r01_times (a b : List Nat) (ha : Ws a) (hb : Ws b) (la : a.length + b.length ≤ big) : FnC Tryz.prog 173 [ws a, ws b] (ws (ofNat (val a * val b))) := by
  have la' := la
  unfold big at la
  refine gF0 Tryz.func173 ?_
  refine gl ?_
  refine gl ?_
  refine ga (i64_addN (by unfold maxL; omega) (by unfold maxL; omega)) ?_
  refine gs (s_make (.tmp rfl) T66 rfl T186 rfl rfl (by omega) (by dsimp only; omega) rfl) ?_
  refine gl ?_
  refine gL2 [0, 1, 17] [] (fun (out : List Nat) (i : Nat) => [(5, some (.ms 15 1 0 (a.length + b.length))), (18, some (i64 i))]) (fun out _ => [(15, some (.row 1 (out.map u32)))]) (fun out i => out.length = a.length + b.length ∧ i ≤ a.length ∧ Ws out ∧ val (out.take (i + b.length)) = val (a.take i) * val b) (fun _ i => a.length - i) (List.replicate (a.length + b.length) 0) 0 ⟨by simp, by omega, ws_rep _, by simp [val, val_zeros]⟩ ?_ (h2 := (.cons rfl (BlkSub.of (by rw [List.map_replicate]; rfl)) .nil))
  rintro out i ⟨ho, hi, hw, hv⟩ K1 hK1
  refine gC (fun ht19 => ?_) (fun ht19 => ?_) (st2 := (14, 0))
  · have hin : i < a.length := by simpa [icmp] using ht19
    have h1 := wordW_lt ha i
    refine gl ?_
    refine gL3 [0, 1, 17, 18, 6, 22] [] (fun (o : List Nat) (c k : Nat) => [(5, some (.ms 15 1 0 (a.length + b.length))), (7, some (u64 c)), (23, some (i64 k))]) (fun o _ _ => [(15, some (.row 1 (o.map u32)))]) (fun o c k => o.length = a.length + b.length ∧ k ≤ b.length ∧ Ws o ∧ c < 4294967296 ∧ val (o.take (i + b.length)) + c * 4294967296 ^ (i + k) = val (out.take (i + b.length)) + 4294967296 ^ i * (wordW a i * val (b.take k))) (fun _ _ k => b.length - k) out 0 0 ⟨ho, by omega, hw, by omega, by simp [val]⟩ ?_
    rintro o c k ⟨ho2, hk, hw2, hc, hv2⟩ K2 hK2
    refine gC (fun ht24 => ?_) (fun ht24 => ?_)
    · have hkn : k < b.length := by simpa [icmp] using ht24
      have h2 := wordW_lt hb k
      have h3 := wordW_lt hw2 (i + k)
      have h4 := mul_word h1 h2
      obtain ⟨s, hs⟩ : ∃ s, s = c + (wordW a i * wordW b k + wordW o (i + k)) := ⟨_, rfl⟩
      have h5 := val_set_in (x := s % 4294967296) (show i + k < o.length by omega) (show i + k < i + b.length by omega)
      have h6 := times_in h5 hs hv2
      refine gi (getz (n := i) (by omega) (by first | omega | (simp; omega))) ?_
      refine gv (u64_in (by omega)) ?_
      refine gi (getz (n := k) (by omega) (by first | omega | (simp; omega))) ?_
      refine gv (u64_in (by omega)) ?_
      refine ga (u64_mul (by omega)) ?_
      refine ga (i64_addN (by unfold maxL; omega) (by unfold maxL; omega)) ?_
      refine gs (s_idxMs0 (n := i + k) (.tmp rfl) (.tmp rfl) T66 rfl T186 rfl (by omega) (by first | omega | (simp; omega)) rfl) ?_
      refine gs (s_loadEptr (.tmp rfl) rfl (getw (i := i + k) (by omega)) T186 rfl rfl rfl) ?_
      refine gv (u64_in (by omega)) ?_
      refine ga (u64_add (by omega)) ?_
      refine ga ((u64_add (by omega)).trans (show _ = (s : Int) by congr 1; omega)) ?_
      refine gD ?_
      refine ga (i64_addN (by unfold maxL; omega) (by unfold maxL; omega)) ?_
      refine gv (u32_wrap _) ?_
      refine gs (s_shrW (.tmp rfl) (.const _) (by omega) (u64_shr _ 32 (by omega)) rfl) ?_
      refine gs (s_idxMs0 (n := i + k) (.tmp rfl) (.tmp rfl) T66 rfl T186 rfl (by omega) (by first | omega | (simp; omega)) rfl) ?_
      refine gs (s_stElem (.tmp rfl) rfl (getw (i := i + k) (by omega)) rfl (.tmp rfl) rfl rfl T186 rfl rfl) ?_
      refine ga (i64_addI (by omega)) ?_
      exact gK3 hK2 (o.set (i + k) (s % 4294967296)) (s / 2 ^ 32) (k + 1) ⟨by simp [ho2], by omega, ws_set hw2 (by omega), by omega, by rw [show i + (k + 1) = (i + k) + 1 from rfl, show s / 2 ^ 32 = s / 4294967296 from rfl, Nat.pow_succ, h6, val_take_word]; simp only [Nat.pow_add]; grind⟩ (hw := Wk.of (by repeat (first | exact SlW.nil | refine SlW.k ?_)) (.cons rfl (BlkSub.of (by rw [List.map_set]; rfl)) .nil))
    · have hkn : k = b.length := by have : b.length ≤ k := by simpa [icmp] using ht24
                                    omega
      subst hkn
      have h5 := val_set_take (x := c) (show i + b.length < o.length by omega)
      rw [List.take_length] at hv2
      refine gl ?_
      refine ga (i64_addN (by unfold maxL; omega) (by unfold maxL; omega)) ?_
      refine gv ((u32_wrap c).trans (by rw [Nat.mod_eq_of_lt hc])) ?_
      refine gs (s_idxMs0 (n := i + b.length) (.tmp rfl) (.tmp rfl) T66 rfl T186 rfl (by omega) (by first | omega | (simp; omega)) rfl) ?_
      refine gs (s_stElem (.tmp rfl) rfl (getw (i := i + b.length) (by omega)) rfl (.tmp rfl) rfl rfl T186 rfl rfl) ?_
      refine ga (i64_addI (by omega)) ?_
      exact gK2 hK1 (o.set (i + b.length) c) (i + 1) ⟨by simp [ho2], by omega, ws_set hw2 hc, by rw [show i + 1 + b.length = i + b.length + 1 by omega, h5, val_take_word]; simp only [Nat.pow_add] at *; grind⟩ (hw := Wk.of (by repeat (first | exact SlW.nil | refine SlW.k ?_)) (.cons rfl (BlkSub.of (by rw [List.map_set]; rfl)) .nil))
  · have hin : i = a.length := by have : a.length ≤ i := by simpa [icmp] using ht19
                                  omega
    subst hin
    rw [List.take_length, val_take_ge (by omega)] at hv
    refine gW ((Wk.freeze (k := 15) rfl).trans <| Wk.of (sl := [(5, some (ws out))]) (hp := []) (.cons rfl (Sub.of (fz_all (by simp [ho]))) .nil) .nil) ?_
    refine gc (c_r01_trim out hw (by omega)) ?_
    refine gE1 ?_
    rw [hv]
end Go.Lw
namespace Go.Lw
open Go.Proofs
theorem c_r01_Sign (a : Wh) (ha : a.ok) : FnC Tryz.prog 53 [a.av] (i64 a.z.sign) := by
 obtain ⟨e1, e2, e3⟩ := sign_end ha
 refine gF0 Tryz.func53 ?_
 refine gc (c_r01_mag a ha) ?_
 refine gl ?_
 refine gC (fun ht6 => ?_) (fun ht6 => ?_)
 ·have h0 : a.m.length = 0 := by simpa [icmp] using ht6
  refine gE1 ?_
  rw [e1 h0]; rfl
 ·have h0 : a.m.length ≠ 0 := by simpa [icmp] using ht6
  have hval : a.valid = true := by
   unfold Wh.m at h0
   split at h0
   ·assumption
   ·exact absurd rfl h0
  refine gc (c_r01_neg a ha) ?_
  refine gC (fun ht8 => ?_) (fun ht8 => ?_)
  ·have h1 : a.neg = true := by unfold Wh.n at ht8; rw [hval] at ht8; simpa using ht8
   refine gE1 ?_
   rw [e2 h0 h1]; rfl
  ·have h1 : a.neg = false := by unfold Wh.n at ht8; rw [hval] at ht8; simpa using ht8
   refine gE1 ?_
   rw [e3 h0 h1]; rfl
theorem c_r01_Neg (a : Wh) (ha : a.ok) (la : a.mag.length < big) : FnC Tryz.prog 167 [a.av] (zA (-a.z)) := by
 refine gF0 Tryz.func167 ?_
 refine gc (c_r01_neg a ha) ?_
 refine gc (c_r01_mag a ha) ?_
 refine gc (c_r01_form _ a.m (Wh.ws ha) (Nat.le_of_lt (Wh.small ha la))) ?_
 refine gD ?_
 refine gE1 ?_
 rw [Wh.z_eq, ← sgn_neg]; rfl
theorem c_r01_Mul (a b : Wh) (ha : a.ok) (hb : b.ok) (la : a.mag.length + b.mag.length ≤ big) : FnC Tryz.prog 114 [a.av, b.av] (zA (a.z * b.z)) := by
 have h1 := Wh.m_le (w := a)
 have h2 := Wh.m_le (w := b)
 have h3 : (ofNat (val a.m * val b.m)).length ≤ a.m.length + b.m.length := ofNat_length_le (by rw [Nat.pow_add]; exact Nat.mul_lt_mul'' (val_lt _ (Wh.ws ha)) (val_lt _ (Wh.ws hb)))
 refine gF0 Tryz.func114 ?_
 refine gc (c_r01_neg a ha) ?_
 refine gc (c_r01_neg b hb) ?_
 refine gc (c_r01_mag a ha) ?_
 refine gc (c_r01_mag b hb) ?_
 refine gc (c_r01_times a.m b.m (Wh.ws ha) (Wh.ws hb) (by omega)) ?_
 refine gc (c_r01_form _ _ (ws_ofNat _) (by omega)) ?_
 refine gD ?_
 refine gE1 ?_
 rw [val_ofNat, mul_sgn]; rfl
theorem c_r01_Add (a b : Wh) (ha : a.ok) (hb : b.ok) (la : a.mag.length < big) (lb : b.mag.length < big) : FnC Tryz.prog 113 [a.av, b.av] (zA (a.z + b.z)) := by
 have h1 := Wh.m_le (w := a)
 have h2 := Wh.m_le (w := b)
 have hla : val a.m < 4294967296 ^ (max a.m.length b.m.length) := Nat.lt_of_lt_of_le (val_lt _ (Wh.ws ha)) (Nat.pow_le_pow_right (by omega) (by omega))
 have hlb : val b.m < 4294967296 ^ (max a.m.length b.m.length) := Nat.lt_of_lt_of_le (val_lt _ (Wh.ws hb)) (Nat.pow_le_pow_right (by omega) (by omega))
 have h3 : (ofNat (val a.m + val b.m)).length ≤ max a.m.length b.m.length + 1 := ofNat_length_le (by rw [Nat.pow_succ]; omega)
 have h4 : (ofNat (val a.m - val b.m)).length ≤ max a.m.length b.m.length := ofNat_length_le (by omega)
 have h5 : (ofNat (val b.m - val a.m)).length ≤ max a.m.length b.m.length := ofNat_length_le (by omega)
 refine gF0 Tryz.func113 ?_
 refine gc (c_r01_mag a ha) ?_
 refine gc (c_r01_mag b hb) ?_
 refine gD ?_
 refine gc (c_r01_neg a ha) ?_
 refine gc (c_r01_neg b hb) ?_
 refine gD ?_
 refine gC (fun ht15 => ?_) (fun ht15 => ?_)
 ·have h0 : a.n = b.n := by simpa using ht15
  refine gc (c_r01_neg a ha) ?_
  refine gc (c_r01_plus a.m b.m (Wh.ws ha) (Wh.ws hb) (by omega) (by omega)) ?_
  refine gc (c_r01_form _ _ (ws_ofNat _) (by omega)) ?_
  refine gE1 ?_
  rw [val_ofNat, add_same h0]; rfl
 ·have h0 : a.n ≠ b.n := by simpa using ht15
  refine gc (c_r01_compare a.m b.m (Wh.ws ha) (Wh.ws hb)) ?_
  refine gC (fun ht25 => ?_) (fun ht25 => ?_)
  ·have h6 : val b.m ≤ val a.m := by
    rcases Nat.lt_or_ge (val a.m) (val b.m) with h | h
    ·rw [if_pos h] at ht25; cases ht25
    ·exact h
   refine gc (c_r01_neg a ha) ?_
   refine gc (c_r01_minus a.m b.m (Wh.ws ha) (Wh.ws hb) (by omega) (by omega)) ?_
   refine gc (c_r01_form _ _ (ws_ofNat _) (by omega)) ?_
   refine gE1 ?_
   rw [val_ofNat, add_left h0 h6]; rfl
  ·have h6 : val a.m < val b.m := by
    rcases Nat.lt_or_ge (val a.m) (val b.m) with h | h
    ·exact h
    ·rw [if_neg (by omega)] at ht25; split at ht25 <;> cases ht25
   refine gc (c_r01_neg b hb) ?_
   refine gc (c_r01_minus b.m a.m (Wh.ws hb) (Wh.ws ha) (by omega) (by omega)) ?_
   refine gc (c_r01_form _ _ (ws_ofNat _) (by omega)) ?_
   refine gE1 ?_
   rw [val_ofNat, add_right h0 (by omega)]; rfl
theorem c_r01_Of (n : Int) (h : -9223372036854775808 ≤ n ∧ n ≤ 9223372036854775807) : FnC Tryz.prog 115 [i64 n] (zA n) := by
 obtain ⟨N, hN⟩ : ∃ N, N = n.natAbs := ⟨_, rfl⟩
 have hNB : N < 18446744073709551616 := by omega
 refine gF0 Tryz.func115 ?_
 refine gv (show IntKind.u64.wrap n = ((n % 18446744073709551616 : Int)) by simp only [IntKind.wrap, IntKind.signed, IntKind.bits, Bool.false_and, if_false, Bool.false_eq_true]; omega) ?_
 refine gC (fun ht7 => ?_) (fun ht7 => ?_) (st2 := (77777, 0))
 ·have hn : n < 0 := by simpa [icmp] using ht7
  refine gs (s_neg (.tmp rfl) rfl) ?_ (4, 0)
  refine gW (Wk.of (sl := [(0, some (i64 n)), (2, some (.ptr 2 0)), (3, some (u64 N))]) (hp := [(2, some (.box [.v (.bool false), .v (.slice none 0 0)]))]) (.k (.k (.cons rfl (Sub.int (by simp only [IntKind.wrap, IntKind.signed, IntKind.bits, Bool.false_and, if_false, Bool.false_eq_true]; omega)) .nil))) (.cons rfl (.refl _) .nil)) ?_
  refine gv (u32_wrap _) ?_
  refine gs (s_shrW (.tmp rfl) (.const _) (by omega) (u64_shr _ 32 (by omega)) rfl) ?_
  refine gv ((u32_wrap _).trans (by rw [Nat.mod_eq_of_lt (show N / 2 ^ 32 < 4294967296 by omega)])) ?_
  refine gc (c_r01_form (icmp .lss n 0) [N % 4294967296, N / 2 ^ 32] (of_ws hNB) (by unfold big; simp)) ?_
  refine gE1 ?_
  rw [of_val hNB, show sgn (icmp .lss n 0) N = n by simp only [sgn, icmp, decide_eq_true_eq]; split <;> omega]; rfl
 ·have hn : ¬ n < 0 := by simpa [icmp] using ht7
  refine gW (Wk.of (sl := [(0, some (i64 n)), (2, some (.ptr 2 0)), (3, some (u64 N))]) (hp := [(2, some (.box [.v (.bool false), .v (.slice none 0 0)]))]) (.k (.k (.cons rfl (Sub.int (by omega)) .nil))) (.cons rfl (.refl _) .nil)) ?_
  refine gv (u32_wrap _) ?_
  refine gs (s_shrW (.tmp rfl) (.const _) (by omega) (u64_shr _ 32 (by omega)) rfl) ?_
  refine gv ((u32_wrap _).trans (by rw [Nat.mod_eq_of_lt (show N / 2 ^ 32 < 4294967296 by omega)])) ?_
  refine gc (c_r01_form (icmp .lss n 0) [N % 4294967296, N / 2 ^ 32] (of_ws hNB) (by unfold big; simp)) ?_
  refine gE1 ?_
  rw [of_val hNB, show sgn (icmp .lss n 0) N = n by simp only [sgn, icmp, decide_eq_true_eq]; split <;> omega]; rfl
theorem c_r01_Sub (a b : Wh) (ha : a.ok) (hb : b.ok) (la : a.mag.length < big) (lb : b.mag.length < big) : FnC Tryz.prog 197 [a.av, b.av] (zA (a.z - b.z)) := by
 have h1 := (Wh.lz hb).neg
 have h2 := ofInt_len h1
 refine gF0 Tryz.func197 ?_
 refine gc (c_r01_Neg b hb lb) ?_
 refine gc (c_r01_Add a (ofInt (-b.z)) ha (ofInt_ok h1 hb.2) la (by omega)) ?_
 refine gD ?_
 refine gE1 ?_
 rw [ofInt_z, ← Int.sub_eq_add_neg]; rfl
theorem c_r01_Cmp (a b : Wh) (ha : a.ok) (hb : b.ok) (la : a.mag.length < big) (lb : b.mag.length < big) : FnC Tryz.prog 142 [a.av, b.av] (i64 (cmp3 a.z b.z)) := by
 have h1 := (Wh.lz ha).sub (Wh.lz hb)
 have h2 := ofInt_len h1
 refine gF0 Tryz.func142 ?_
 refine gc (c_r01_Sub a b ha hb la lb) ?_
 refine gc (c_r01_Sign (ofInt (a.z - b.z)) (ofInt_ok h1 (by unfold maxL; unfold big at la lb; omega))) ?_
 refine gE1 ?_
 rw [ofInt_z, sign_sub]
end Go.Lw
namespace Go.Lw
theorem lst_take {A : List Nat} {n : Nat} : AV.lst 1 (((A.map u32).drop 0).take n) = ws (A.take n) := by
  rw [List.drop_zero, ← List.map_take]; rfl
theorem sc_row (A : List Nat) : (Blk.row 1 (A.map u32)).sc = true := by
  simp only [Blk.sc, List.all_map]
  rw [List.all_eq_true]
  intro x _
  rfl
theorem wordW_take {A : List Nat} {n i : Nat} (h : i < n) : wordW (A.take n) i = wordW A i := by
  simp [wordW, h]
theorem wordW_take_ge {A : List Nat} {n i : Nat} (h : n ≤ i) : wordW (A.take n) i = 0 := word_out (by simp; omega)
theorem blen_half {x : Nat} (h : 0 < x) : blen x = blen (x / 2) + 1 := by
  rcases Nat.lt_or_ge x 2 with h1 | h1
  · have : x = 1 := by omega
    subst this; decide
  · have := blen_shr (x := x) (k := 1) (by omega)
    rw [show x / 2 ^ 1 = x / 2 from rfl] at this
    omega
theorem blen_val {a : List Nat} {n : Nat} (ha : Ws a) (na : Nz a) (hl : a.length = n + 1) : blen (val a) = 32 * n + blen (wordW a n) := by
  have ht : wordW a n ≠ 0 := by
    refine na _ ?_
    rw [List.getLast?_eq_getElem?, hl]
    exact word_get (by omega)
  have hv : val a = val (a.take n) + 4294967296 ^ n * wordW a n := by rw [← val_take_word, val_take_ge (by omega)]
  have hlt := val_take_lt ha n
  have hp : (4294967296 : Nat) ^ n = 2 ^ (32 * n) := by rw [Nat.pow_mul]
  rw [hp] at hv hlt
  have h1 : val a / 2 ^ (32 * n) = wordW a n := by
    rw [hv, Nat.add_mul_div_left _ _ (Nat.pow_pos (by omega)), Nat.div_eq_of_lt hlt, Nat.zero_add]
  have h2 : 2 ^ (32 * n) ≤ val a := by
    have := Nat.mul_le_mul_left (2 ^ (32 * n)) (show 1 ≤ wordW a n by omega)
    omega
  rw [blen_shr h2, h1]
theorem wr0 {o A : List Nat} {n v : Nat} (ho : Ws o) (hl : o.length = A.length) (hn : n ≤ A.length) (hd : o.drop n = A.drop n) (hv : val (o.take n) = v) : o = wr A 0 (fixw n v) := by
  have h1 : win o 0 n = fixw n v := fixw_of (ws_win ho _ _) (len_win (by omega)) (by rw [win, List.drop_zero, hv])
  rw [← h1]
  exact wr_of (by simp) (by rw [Nat.zero_add]; exact hd) (by omega)
end Go.Lw
namespace Go.Lw
open Go.Proofs
theorem c_r01_atO (k : Nat) (A : List Nat) (n i : Nat) (hA : Ws A) (hn : n ≤ A.length) :
  Con Tryz.prog 216 [.ms k 1 0 n, i64 i] [(k, some (.row 1 (A.map u32)))] (u64 (wordW (A.take n) i)) [(k, some (.row 1 (A.map u32)))] := by
 refine Con.borrow (args := [ws (A.take n), i64 i]) k 1 (A.map u32) rfl rfl rfl ?_ rfl (fun k' x h => by cases h) (c_r01_at (A.take n) i (ws_take hA n))
 intro j x' hj
 match j, hj with
 | 0, hj => cases hj; exact .inr ⟨0, n, rfl, by simpa using hn, by rw [lst_take]; rfl⟩
 | 1, hj => cases hj; exact .inl rfl
theorem c_r01_compareO (k1 k2 : Nat) (hk : k1 ≠ k2) (A D : List Nat) (n p : Nat) (hA : Ws A) (hD : Ws D) (hn : n ≤ A.length) (hp : p ≤ D.length) :
  Con Tryz.prog 171 [.ms k1 1 0 n, .ms k2 1 0 p] [(k1, some (.row 1 (A.map u32))), (k2, some (.row 1 (D.map u32)))]
   (i64 (if val (A.take n) < val (D.take p) then -1 else if val (D.take p) < val (A.take n) then 1 else 0)) [(k1, some (.row 1 (A.map u32))), (k2, some (.row 1 (D.map u32)))] := by
 have h1 : Con Tryz.prog 171 [ws (A.take n), .ms k2 1 0 p] [(k2, some (.row 1 (D.map u32)))]
   (i64 (if val (A.take n) < val (D.take p) then -1 else if val (D.take p) < val (A.take n) then 1 else 0)) [(k2, some (.row 1 (D.map u32)))] := by
  refine Con.borrow (args := [ws (A.take n), ws (D.take p)]) k2 1 (D.map u32) rfl rfl rfl ?_ rfl (fun k' x h => by cases h) (c_r01_compare (A.take n) (D.take p) (ws_take hA n) (ws_take hD p))
  intro j x' hj
  match j, hj with
  | 0, hj => cases hj; exact .inl rfl
  | 1, hj => cases hj; exact .inr ⟨0, p, rfl, by simpa using hp, by rw [lst_take]; rfl⟩
 refine Con.borrow (args := [ws (A.take n), .ms k2 1 0 p]) k1 1 (A.map u32) ?_ ?_ rfl ?_ rfl ?_ h1
 ·rw [lk_cons, if_neg hk]; rfl
 ·rw [lk_cons, if_neg hk]; rfl
 ·intro j x' hj
  match j, hj with
  | 0, hj => cases hj; exact .inr ⟨0, n, rfl, by simpa using hn, by rw [lst_take]; rfl⟩
  | 1, hj => cases hj; exact .inl rfl
 ·intro k' x h
  obtain ⟨_, h⟩ := lk_one h
  cases h; exact sc_row D
theorem c_r01_compareA (k : Nat) (A b : List Nat) (n : Nat) (hA : Ws A) (hb : Ws b) (hn : n ≤ A.length) :
  Con Tryz.prog 171 [.ms k 1 0 n, ws b] [(k, some (.row 1 (A.map u32)))]
   (i64 (if val (A.take n) < val b then -1 else if val b < val (A.take n) then 1 else 0)) [(k, some (.row 1 (A.map u32)))] := by
 refine Con.borrow (args := [ws (A.take n), ws b]) k 1 (A.map u32) rfl rfl rfl ?_ rfl (fun k' x h => by cases h) (c_r01_compare (A.take n) b (ws_take hA n) hb)
 intro j x' hj
 match j, hj with
 | 0, hj => cases hj; exact .inr ⟨0, n, rfl, by simpa using hn, by rw [lst_take]; rfl⟩
 | 1, hj => cases hj; exact .inl rfl
theorem c_r01_bits (a : List Nat) (ha : Ws a) (na : Nz a) (la : a.length ≤ big) : FnC Tryz.prog 246 [ws a] (i64 (blen (val a))) := by
  unfold big at la
  refine gF0 Tryz.func246 ?_
  refine gl ?_
  refine gC (fun ht7 => ?_) (fun ht7 => ?_)
  · have h0 : a = [] := List.length_eq_zero_iff.1 (by simpa [icmp] using ht7)
    refine gE1 ?_
    subst h0; rfl
  · have h0 : a.length ≠ 0 := by simpa [icmp] using ht7
    obtain ⟨n, hn⟩ : ∃ n, a.length = n + 1 := ⟨a.length - 1, by omega⟩
    have hB := blen_val ha na hn
    have ht := wordW_lt ha n
    refine gl ?_
    refine ga (show _ = (n : Int) by rw [i64_subI (by omega)]; omega) ?_
    refine ga (show _ = ((32 * n : Nat) : Int) by rw [i64_mulI (by omega)]; omega) ?_
    refine gl ?_
    refine ga (show _ = (n : Int) by rw [i64_subI (by omega)]; omega) ?_
    refine gi (getz (n := n) (by omega) (by first | omega | (simp; omega))) ?_
    refine gL2 [] [] (fun (x c : Nat) => [(3, some (i64 c)), (4, some (u32 x))]) (fun _ _ => []) (fun x c => x < 4294967296 ∧ c ≤ 281474976710656 ∧ c + blen x = blen (val a)) (fun x _ => x) (wordW a n) (32 * n) ⟨ht, by omega, hB.symm⟩ ?_
    rintro x c ⟨hx, hc, hv⟩ K1 hK1
    refine gC (fun ht19 => ?_) (fun ht19 => ?_)
    · have hx0 : 0 < x := by simpa [icmp] using ht19
      have h2 := blen_half hx0
      have h3 : blen (val a) ≤ 32 * n + 32 := by
        have := (lead_le (x := wordW a n)  (by
          refine na _ ?_
          rw [List.getLast?_eq_getElem?, hn]
          exact word_get (by omega)) ht).1
        omega
      refine ga (show _ = ((c + 1 : Nat) : Int) by rw [i64_addI (by omega)]; omega) ?_
      refine gs (s_shrW (.tmp rfl) (.const _) (by omega) (u32_shr x 1 (by omega)) rfl) ?_
      exact gK2 hK1 (x / 2 ^ 1) (c + 1) ⟨by omega, by omega, by rw [show x / 2 ^ 1 = x / 2 from rfl]; omega⟩
    · have hx0 : x = 0 := by have : x ≤ 0 := by simpa [icmp] using ht19
                             omega
      subst hx0
      refine gE1 ?_
      rw [← hv]; rfl
theorem c_r01_cut (A : List Nat) (n : Nat) (hA : Ws A) (hn : n ≤ A.length) (la : A.length ≤ big) :
  Con Tryz.prog 237 [.ms 1000 1 0 n] [(1000, some (.row 1 (A.map u32)))] (.ms 1000 1 0 (ofNat (val (A.take n))).length) [(1000, some (.row 1 (A.map u32)))] := by
 unfold big at la
 refine gF Tryz.func237 (fun k z h => lk1000 h) ?_
 refine gL1 [] [1000] (fun (j : Nat) => [(0, some (.ms 1000 1 0 j))]) (fun _ => []) (fun j => j ≤ n ∧ val (A.take j) = val (A.take n)) (fun j => j) n ⟨Nat.le_refl _, rfl⟩ ?_
 rintro j ⟨hj, hv⟩ K1 hK1
 refine gaG (fun h => (i64_sub1 (by simp [icmp] at h; omega) (by unfold maxL; omega))) ?_
 refine gs (s_guard rfl rfl rfl (fun h => s_idxMs0 (n := j - 1) (.opt rfl (o1 h)) (.opt rfl (o1 h)) T66 rfl T186 rfl (by omega) (by simp [icmp] at h; omega) rfl)) ?_
 refine gs (s_guard rfl rfl rfl (fun h => s_loadEptr (.opt rfl (o1 h)) rfl (getw (i := j - 1) (by simp [icmp] at h; omega)) T186 rfl rfl rfl)) ?_
 refine gC (fun ht14 => ?_) (fun ht14 => ?_)
 ·have ht14 : 0 < j ∧ wordW A (j - 1) = 0 := by simpa [icmp] using ht14
  refine ga (i64_sub1 (by omega) (by unfold maxL; omega)) ?_
  refine gs (s_sliceMs (.tmp rfl) (.none _) (.some _ (.tmp rfl) (by omega)) T66 rfl T186 rfl (by omega) (by omega) rfl) ?_
  exact gK1 hK1 (j - 1) ⟨by omega, by have h := @val_take_word A (j - 1); rw [show j - 1 + 1 = j by omega, ht14.2] at h; simp at h; omega⟩ (hw := Wk.of (.cons rfl (Sub.of (by congr 1)) .nil) (.cons rfl (.refl _) .nil))
 ·have ht14 : 0 < j → wordW A (j - 1) ≠ 0 := by simpa [icmp] using ht14
  have hn1 := trim_is (m := A.take n) (n := j) (ws_take hA n) (by simp; omega) (by rw [List.take_take, Nat.min_eq_left hj]; exact hv) (by
   rcases Nat.eq_zero_or_pos j with h | h
   ·exact .inl h
   ·exact .inr (by rw [wordW_take (by omega)]; exact ht14 h))
  subst hn1
  refine gR ?_
  exact Fin.own2 rfl rfl rfl
theorem c_r01_halve (A : List Nat) (n : Nat) (hA : Ws A) (hn : n ≤ A.length) (la : A.length ≤ big) :
    Con Tryz.prog 235 [.ms 1000 1 0 n] [(1000, some (.row 1 (A.map u32)))] (.ms 1000 1 0 (ofNat (val (A.take n) / 2)).length) [(1000, some (.row 1 ((wr A 0 (fixw n (val (A.take n) / 2))).map u32)))] := by
  have la' := la
  unfold big at la
  refine gF Tryz.func235 (fun k z h => lk1000 h) ?_
  refine gL2 [5] [] (fun (o : List Nat) (i : Nat) => [(0, some (.ms 1000 1 0 n)), (6, some (i64 i))]) (fun o _ => [(1000, some (.row 1 (o.map u32)))]) (fun o i => o.length = A.length ∧ i ≤ n ∧ Ws o ∧ o.drop i = A.drop i ∧ val (o.take i) = val (A.take n) / 2 ^ 1 % 4294967296 ^ i) (fun _ i => n - i) A 0 ⟨rfl, by omega, hA, rfl, by simp [val, Nat.mod_one]⟩ ?_
  rintro o i ⟨ho, hi, hw, hd, hv⟩ K1 hK1
  refine gC (fun ht7 => ?_) (fun ht7 => ?_)
  · have hin : i < n := by simpa [icmp] using ht7
    have e1 : wordW (o.take n) i = wordW (A.take n) i := by rw [wordW_take hin, wordW_take hin]; exact word_of_drop hd
    have hd2 : o.drop (i + 1) = A.drop (i + 1) := by
      have h1 : (o.drop i).drop 1 = (A.drop i).drop 1 := by rw [hd]
      rwa [List.drop_drop, List.drop_drop] at h1
    have e2 : wordW (o.take n) (i + 1) = wordW (A.take n) (i + 1) := by
      rcases Nat.lt_or_ge (i + 1) n with h | h
      · rw [wordW_take h, wordW_take h]; exact word_of_drop hd2
      · rw [wordW_take_ge h, wordW_take_ge h]
    have b1 := wordW_lt (ws_take hA n) i
    have b2 := wordW_lt (ws_take hA n) (i + 1)
    have h3 := down_step (n := 1) (ws_take hA n) (show i < (A.take n).length by simp; omega) (show i < o.length by omega) (by omega) hv
    refine gt (s_callH (c_r01_atO 1000 o n i hw (by omega)) (.cons (.tmp rfl) (.cons (.tmp rfl) .nil)) (by first | exact hH0 | exact hH1 rfl | exact hH2 rfl rfl) rfl rfl) ?_
    refine gs (s_shrW (.tmp rfl) (.const _) (by omega) ((u64_shr _ 1 (by omega)).trans (by rw [e1])) rfl) ?_
    refine ga (i64_addN (y := 1) (by unfold maxL; omega) (by unfold maxL; omega)) ?_
    refine gt (s_callH (c_r01_atO 1000 o n (i + 1) hw (by omega)) (.cons (.tmp rfl) (.cons (.tmp rfl) .nil)) (by first | exact hH0 | exact hH1 rfl | exact hH2 rfl rfl) rfl rfl) ?_
    refine gs (s_shlW (.tmp rfl) (.const _) (by omega) ((u64_shl (n := 31) (by omega) (by omega)).trans (by rw [e2])) rfl) ?_
    refine gs (s_bitsW (.tmp rfl) (.tmp rfl) rfl ((ibits_or64 (by omega) (by omega)).trans (by rw [or_add' (by omega)])) rfl) ?_
    refine gv ((u32_wrap _).trans (show _ = (((wordW (A.take n) i + wordW (A.take n) (i + 1) * 2 ^ 32) / 2 ^ 1 % 4294967296 : Nat) : Int) by congr 1; omega)) ?_
    refine gs (s_idxMs0 (n := i) (.tmp rfl) (.tmp rfl) T66 rfl T186 rfl (by omega) (by first | omega | (simp; omega)) rfl) ?_
    refine gs (s_stElem (.tmp rfl) rfl (getw (i := i) (by omega)) rfl (.tmp rfl) rfl rfl T186 rfl rfl) ?_
    refine ga (i64_addI (by omega)) ?_
    exact gK2 hK1 (o.set i ((wordW (A.take n) i + wordW (A.take n) (i + 1) * 2 ^ 32) / 2 ^ 1 % 4294967296)) (i + 1) ⟨by simp [ho], by omega, ws_set hw (by omega), drop_set_next hd, h3⟩ (hw := Wk.of (by repeat (first | exact SlW.nil | refine SlW.k ?_)) (.cons rfl (BlkSub.of (by rw [List.map_set]; rfl)) .nil))
  · have hin : i = n := by have : n ≤ i := by simpa [icmp] using ht7
                           omega
    subst hin
    have hlt := val_take_lt hA i
    have hv' : val (o.take i) = val (A.take i) / 2 := by rw [hv, Nat.mod_eq_of_lt (by omega)]
    have h9 := wr0 hw ho hn hd hv'
    refine gt (s_callH (c_r01_cut o i hw (by omega) (by omega)) (.cons (.tmp rfl) .nil) (by first | exact hH0 | exact hH1 rfl | exact hH2 rfl rfl) rfl rfl) ?_
    refine gR ?_
    exact Fin.own2 rfl (by rw [← h9]) (by rw [hv']; rfl)
theorem c_r01_take (A b : List Nat) (n : Nat) (hA : Ws A) (hb : Ws b) (hn : n ≤ A.length) (la : A.length ≤ big) (hle : val b ≤ val (A.take n)) :
    Con Tryz.prog 236 [.ms 1000 1 0 n, ws b] [(1000, some (.row 1 (A.map u32)))] (.tup []) [(1000, some (.row 1 ((wr A 0 (fixw n (val (A.take n) - val b))).map u32)))] := by
  unfold big at la
  refine gF Tryz.func236 (fun k z h => lk1000 h) ?_
  refine gL3 [1, 8] [] (fun (o : List Nat) (c i : Nat) => [(0, some (.ms 1000 1 0 n)), (4, some (u64 c)), (9, some (i64 i))]) (fun o _ _ => [(1000, some (.row 1 (o.map u32)))]) (fun o c i => o.length = A.length ∧ i ≤ n ∧ Ws o ∧ c ≤ 1 ∧ o.drop i = A.drop i ∧ val (o.take i) + val (b.take i) = val (A.take i) + c * 4294967296 ^ i) (fun _ _ i => n - i) A 0 0 ⟨rfl, by omega, hA, by omega, rfl, by simp [val]⟩ ?_
  rintro o c i ⟨ho, hi, hw, hc, hd, hv⟩ K1 hK1
  refine gC (fun ht10 => ?_) (fun ht10 => ?_)
  · have hin : i < n := by simpa [icmp] using ht10
    have e1 : wordW (o.take n) i = wordW A i := by rw [wordW_take hin]; exact word_of_drop hd
    have h1 := wordW_lt hA i
    have h2 := wordW_lt hb i
    obtain ⟨s, hs⟩ : ∃ s, s = 4294967296 + wordW A i - wordW b i - c := ⟨_, rfl⟩
    have h3 := minus_step h1 h2 hc hv
    rw [← hs] at h3
    refine gt (s_callH (c_r01_atO 1000 o n i hw (by omega)) (.cons (.tmp rfl) (.cons (.tmp rfl) .nil)) (by first | exact hH0 | exact hH1 rfl | exact hH2 rfl rfl) rfl rfl) ?_
    refine ga ((u64_add (x := 4294967296) (by omega)).trans (by rw [e1])) ?_
    refine gc (c_r01_at b i hb) ?_
    refine ga ((u64_sub (by omega) (by omega)).trans (by rw [if_pos (by omega)])) ?_
    refine ga ((u64_sub (by omega) (by omega)).trans (show _ = (s : Int) by rw [if_pos (by omega)]; congr 1; omega)) ?_
    refine gv (u32_wrap _) ?_
    refine gs (s_shrW (.tmp rfl) (.const _) (by omega) (u64_shr _ 32 (by omega)) rfl) ?_
    refine ga ((u64_sub (x := 1) (by omega) (by omega)).trans (by rw [if_pos (by omega)])) ?_
    refine gs (s_idxMs0 (n := i) (.tmp rfl) (.tmp rfl) T66 rfl T186 rfl (by omega) (by first | omega | (simp; omega)) rfl) ?_
    refine gs (s_stElem (.tmp rfl) rfl (getw (i := i) (by omega)) rfl (.tmp rfl) rfl rfl T186 rfl rfl) ?_
    refine ga (i64_addI (by omega)) ?_
    exact gK3 hK1 (o.set i (s % 4294967296)) (1 - s / 2 ^ 32) (i + 1) ⟨by simp [ho], by omega, ws_set hw (by omega), by omega, drop_set_next hd, by rw [val_set_take (by omega), val_take_word, val_take_word, Nat.pow_succ]; exact h3⟩ (hw := Wk.of (by repeat (first | exact SlW.nil | refine SlW.k ?_)) (.cons rfl (BlkSub.of (by rw [List.map_set]; rfl)) .nil))
  · have hin : i = n := by have : n ≤ i := by simpa [icmp] using ht10
                           omega
    subst hin
    have hl : (A.take i).length = i := by simp; omega
    have h4 := minus_end (a := A.take i) (b := b) (out := o.take i) (ws_take hA i) (ws_take hw i) (by simp; omega) hle (by rw [hl, List.take_of_length_le (show (A.take i).length ≤ i by omega)]; exact hv)
    have h9 := wr0 hw ho hn hd h4
    refine gR ?_
    exact Fin.own2 rfl (by rw [← h9]) rfl
end Go.Lw
namespace Go.Lw
theorem i64_quo32 {x : Nat} (h : x ≤ 9223372036854775807) : IntKind.i64.wrap ((x : Int).tdiv 32) = ((x / 32 : Nat) : Int) := by
  rw [show (32 : Int) = ((32 : Nat) : Int) from rfl, ← Int.ofNat_tdiv]
  exact i64_in (by omega)
theorem rem32 {x : Nat} : (x : Int).tmod 32 = ((x % 32 : Nat) : Int) := (Int.ofNat_tmod _ _).symm
theorem pow32 (i : Nat) : (4294967296 : Nat) ^ i = 2 ^ (32 * i) := by rw [Nat.pow_mul]
/-- A bit of a number is a bit of a word. -/
theorem bit_of {a : List Nat} (ha : Ws a) {k : Nat} (hk : k / 32 < a.length) : wordW a (k / 32) / 2 ^ (k % 32) % 2 = val a / 2 ^ k % 2 := by
  have h1 : val a / 2 ^ k = (val a / 4294967296 ^ (k / 32)) / 2 ^ (k % 32) := by
    rw [pow32, Nat.div_div_eq_div_mul, ← Nat.pow_add]; congr 2; omega
  rw [h1, val_div ha _ (by omega), val_drops]
  generalize val (a.drop (k / 32 + 1)) = R
  have h2 : 4294967296 * R = 2 ^ (k % 32) * (2 * (2 ^ (31 - k % 32) * R)) := by
    have : (4294967296 : Nat) = 2 ^ (k % 32) * (2 * 2 ^ (31 - k % 32)) := by
      rw [← Nat.pow_succ', ← Nat.pow_add, show k % 32 + (31 - k % 32).succ = 32 by omega]
    conv => lhs; rw [this]
    grind
  rw [h2, Nat.add_mul_div_left _ _ (Nat.pow_pos (by omega)), Nat.add_mul_mod_self_left]
theorem dbl_or {w c : Nat} (hc : c ≤ 1) : w * 2 ^ 1 % 4294967296 ||| c = w * 2 ^ 1 % 4294967296 + c := by
  have h : w * 2 ^ 1 % 4294967296 = (w % 2147483648) * 2 ^ 1 := by omega
  rw [h]; exact or_add (by omega)
theorem dbl_step {o c P rt w bit : Nat} (hw : w < 4294967296) (h : o + c * P = 2 * rt + bit) :
    (o + P * (w * 2 ^ 1 % 4294967296 + c)) + (w / 2 ^ 31) * (P * 4294967296) = 2 * (rt + P * w) + bit := by
  have h0 : w * 2 ^ 1 % 4294967296 + (w / 2 ^ 31) * 4294967296 = 2 * w := by omega
  generalize w * 2 ^ 1 % 4294967296 = r at *
  generalize w / 2 ^ 31 = q at *
  grind
theorem bit_word {q : List Nat} (hq : Ws q) {k Y : Nat} (hk : k / 32 < q.length) (h : val q = 2 ^ (k + 1) * Y) :
    wordW q (k / 32) ||| 2 ^ (k % 32) = wordW q (k / 32) + 2 ^ (k % 32) ∧ wordW q (k / 32) + 2 ^ (k % 32) < 4294967296 := by
  have h1 := val_div hq (k / 32) (by omega)
  rw [val_drops, h, pow32, show k + 1 = 32 * (k / 32) + (k % 32 + 1) by omega, Nat.pow_add, Nat.mul_assoc, Nat.mul_div_cancel_left _ (Nat.pow_pos (by omega))] at h1
  have hw := wordW_lt hq (k / 32)
  generalize wordW q (k / 32) = w at *
  generalize val (q.drop (k / 32 + 1)) = R at *
  have hB : (4294967296 : Nat) = 2 ^ (k % 32 + 1) * 2 ^ (31 - k % 32) := by
    rw [← Nat.pow_add, show k % 32 + 1 + (31 - k % 32) = 32 by omega]
  have h2 : w % 2 ^ (k % 32 + 1) = 0 := by
    have h3 : (w + 4294967296 * R) % 2 ^ (k % 32 + 1) = 0 := by rw [← h1]; exact Nat.mul_mod_right _ _
    rw [hB, Nat.mul_assoc, Nat.add_mul_mod_self_left] at h3
    exact h3
  have h4 : w = 2 ^ (k % 32 + 1) * (w / 2 ^ (k % 32 + 1)) := by
    have := Nat.div_add_mod w (2 ^ (k % 32 + 1)); omega
  have h5 : 2 ^ (k % 32) < 2 ^ (k % 32 + 1) := by rw [Nat.pow_succ]; have := Nat.pow_pos (n := k % 32) (show 0 < 2 by omega); omega
  constructor
  · rw [h4]; exact (Nat.two_pow_add_eq_or_of_lt h5 _).symm
  · have h6 : w / 2 ^ (k % 32 + 1) < 2 ^ (31 - k % 32) := by
      rw [Nat.div_lt_iff_lt_mul (Nat.pow_pos (by omega)), Nat.mul_comm, ← hB]; exact hw
    have h7 := Nat.mul_le_mul_left (2 ^ (k % 32 + 1)) (show w / 2 ^ (k % 32 + 1) + 1 ≤ 2 ^ (31 - k % 32) from h6)
    rw [← hB, Nat.mul_add, ← h4] at h7
    omega
theorem bit_set {q : List Nat} (hq : Ws q) {k Y : Nat} (hk : k / 32 < q.length) (h : val q = 2 ^ (k + 1) * Y) :
    val (q.set (k / 32) (wordW q (k / 32) + 2 ^ (k % 32))) = 2 ^ k * (2 * Y + 1) := by
  have h1 := val_set (x := wordW q (k / 32) + 2 ^ (k % 32)) hk
  rw [Nat.mul_add] at h1
  have h2 : 4294967296 ^ (k / 32) * 2 ^ (k % 32) = 2 ^ k := by rw [pow32, ← Nat.pow_add]; congr 1; omega
  rw [h2, h, Nat.pow_succ] at h1
  grind
/-- One bit more of a quotient. -/
theorem bit_div {V Bv k : Nat} (hB : 0 < Bv) :
    (Bv ≤ 2 * (V / 2 ^ (k + 1) % Bv) + V / 2 ^ k % 2 → V / 2 ^ k % Bv = 2 * (V / 2 ^ (k + 1) % Bv) + V / 2 ^ k % 2 - Bv ∧ V / 2 ^ k / Bv = 2 * (V / 2 ^ (k + 1) / Bv) + 1) ∧
    (2 * (V / 2 ^ (k + 1) % Bv) + V / 2 ^ k % 2 < Bv → V / 2 ^ k % Bv = 2 * (V / 2 ^ (k + 1) % Bv) + V / 2 ^ k % 2 ∧ V / 2 ^ k / Bv = 2 * (V / 2 ^ (k + 1) / Bv)) := by
  have h1 : V / 2 ^ (k + 1) = V / 2 ^ k / 2 := by rw [Nat.pow_succ, Nat.div_div_eq_div_mul]
  rw [h1]
  generalize V / 2 ^ k = X
  have h2 := Nat.div_add_mod X 2
  have h3 := Nat.div_add_mod (X / 2) Bv
  have h4 := Nat.mod_lt (X / 2) hB
  have h5 := Nat.mod_lt X (show 0 < 2 by omega)
  generalize X / 2 % Bv = r at *
  generalize X / 2 / Bv = q at *
  generalize X % 2 = b at *
  generalize X / 2 = Y at *
  constructor
  · intro h
    have := div_mod_of (a := X) (w := Bv) (q := 2 * q + 1) (r := 2 * r + b - Bv) (by rw [Nat.mul_add, Nat.mul_one, show Bv * (2 * q) = 2 * (Bv * q) by grind]; omega) (by omega)
    exact ⟨this.2, this.1⟩
  · intro h
    have := div_mod_of (a := X) (w := Bv) (q := 2 * q) (r := 2 * r + b) (by rw [show Bv * (2 * q) = 2 * (Bv * q) by grind]; omega) (by omega)
    exact ⟨this.2, this.1⟩
theorem wr_all {A l : List Nat} (h : l.length = A.length) : wr A 0 l = l := by
  unfold wr
  rw [List.drop_eq_nil_of_le (by omega)]; simp
theorem blen_pow {V : Nat} : V / 2 ^ blen V = 0 := Nat.div_eq_of_lt blen_lt
/-- A bit's word is there. -/
theorem bit_in {a : List Nat} (ha : Ws a) {k : Nat} (h : k < blen (val a)) : k / 32 < a.length := by
  rcases Nat.lt_or_ge (k / 32) a.length with h1 | h1
  · exact h1
  · exfalso
    have h2 := val_lt a ha
    rw [pow32] at h2
    have h3 : val a ≠ 0 := by intro h0; rw [h0] at h; simp [blen] at h
    have h4 := blen_le h3
    have h5 : 2 ^ (32 * a.length) ≤ 2 ^ (blen (val a) - 1) := two_pow_le (by omega)
    omega
end Go.Lw
namespace Go.Lw
open Go.Proofs
theorem c_r01_divide (a b : List Nat) (ha : Ws a) (hb : Ws b) (na : Nz a) (hb0 : val b ≠ 0) (la : a.length < big) (lb : b.length < big) :
    FnC Tryz.prog 214 [ws a, ws b] (.tup [ws (ofNat (val a / val b)), ws (ofNat (val a % val b))]) := by
  have la' := la
  have lb' := lb
  unfold big at la lb
  obtain ⟨V, hV⟩ : ∃ V, V = val a := ⟨_, rfl⟩
  obtain ⟨Bv, hBv⟩ : ∃ Bv, Bv = val b := ⟨_, rfl⟩
  have hBp : 0 < Bv := by omega
  have hBl : 2 * Bv ≤ 4294967296 ^ (b.length + 1) := by have := val_lt b hb; rw [Nat.pow_succ]; omega
  have hbl : blen V ≤ 32 * a.length := by
    rcases Nat.eq_zero_or_pos (blen V) with h | h
    · omega
    · have := bit_in ha (k := blen V - 1) (by rw [← hV]; omega)
      omega
  rw [← hV, ← hBv]
  refine gF0 Tryz.func214 ?_
  refine gl ?_
  refine gs (s_make (.tmp rfl) T66 rfl T186 rfl rfl (by omega) (by dsimp only; omega) rfl) ?_
  refine gl ?_
  refine ga (i64_addN (y := 1) (by unfold maxL; omega) (by unfold maxL; omega)) ?_
  refine gs (s_make (.tmp rfl) T66 rfl T186 rfl rfl (by omega) (by dsimp only; omega) rfl) ?_
  refine gc (hV ▸ c_r01_bits a ha na (by omega)) ?_
  refine ga (i64_subI (by omega)) ?_
  refine gL3 [0, 1] [] (fun (q r : List Nat) (i : Nat) => [(6, some (.ms 13 1 0 a.length)), (7, some (.ms 17 1 0 (b.length + 1))), (8, some (i64 ((i : Int) - 1)))]) (fun q r _ => [(13, some (.row 1 (q.map u32))), (17, some (.row 1 (r.map u32)))]) (fun q r i => q.length = a.length ∧ r.length = b.length + 1 ∧ Ws q ∧ Ws r ∧ i ≤ blen V ∧ val r = V / 2 ^ i % Bv ∧ val q = 2 ^ i * (V / 2 ^ i / Bv)) (fun _ _ i => i) (List.replicate a.length 0) (List.replicate (b.length + 1) 0) (blen V) ⟨by simp, by simp, ws_rep _, ws_rep _, Nat.le_refl _, by rw [val_zeros, blen_pow, Nat.zero_mod], by rw [val_zeros, blen_pow, Nat.zero_div, Nat.mul_zero]⟩ ?_ (h2 := (.cons rfl (BlkSub.of (by rw [List.map_replicate]; rfl)) (.cons rfl (BlkSub.of (by rw [List.map_replicate]; rfl)) .nil)))
  rintro q r i ⟨hql, hrl, wq, wr', hi, hr, hq⟩ K1 hK1
  refine gC (fun ht22 => ?_) (fun ht22 => ?_) (st2 := (15, 0))
  · have hi0 : 1 ≤ i := by have := ht22; simp [icmp] at this; omega
    obtain ⟨k, rfl⟩ : ∃ k, i = k + 1 := ⟨i - 1, by omega⟩
    rw [show ((k + 1 : Nat) : Int) - 1 = (k : Int) by omega]
    have hka := bit_in ha (k := k) (by rw [← hV]; omega)
    have hbit := bit_of ha hka
    have hwB := wordW_lt ha (k / 32)
    rw [← hV] at hbit
    obtain ⟨bit, hbt⟩ : ∃ bit, bit = V / 2 ^ k % 2 := ⟨_, rfl⟩
    have hb1 : bit ≤ 1 := by omega
    have hrlt := Nat.mod_lt (V / 2 ^ (k + 1)) hBp
    have hdw : wordW a (k / 32) / 2 ^ (k % 32) ≤ wordW a (k / 32) := Nat.div_le_self _ _
    refine gs (s_quoW (.tmp rfl) (.const _) (by omega) (i64_quo32 (by omega)) rfl) ?_
    refine gi (getz (n := k / 32) (by omega) (by first | omega | (simp; omega))) ?_
    refine gs (s_remW (.tmp rfl) (.const _) (by omega) rem32 rfl) ?_
    refine gs (s_shrW (.tmp rfl) (.tmp rfl) (by omega) (u32_shr _ (k % 32) (by omega)) rfl) ?_
    refine gs (s_bitsW (.tmp rfl) (.const _) rfl ((ibits_and32 (y := 1) (by omega) (by omega)).trans (show _ = (bit : Int) by rw [Nat.and_one_is_mod, hbit, hbt])) rfl) ?_
    refine gL3 [0, 1, 8, 35] [13] (fun (o : List Nat) (c j : Nat) => [(6, some (.ms 13 1 0 a.length)), (7, some (.ms 17 1 0 (b.length + 1))), (9, some (u32 c)), (36, some (i64 j))]) (fun o _ _ => [(17, some (.row 1 (o.map u32)))]) (fun o c j => o.length = b.length + 1 ∧ Ws o ∧ j ≤ b.length + 1 ∧ c ≤ 1 ∧ o.drop j = r.drop j ∧ val (o.take j) + c * 4294967296 ^ j = 2 * val (r.take j) + bit) (fun _ _ j => b.length + 1 - j) r bit 0 ⟨hrl, wr', by omega, hb1, rfl, by simp [val]⟩ ?_
    rintro o c j ⟨hol, wo, hj, hc, hd, hv⟩ K2 hK2
    refine gC (fun ht37 => ?_) (fun ht37 => ?_)
    · have hjn : j < b.length + 1 := by have := ht37; simp [icmp] at this; omega
      have e1 : wordW o j = wordW r j := word_of_drop hd
      have h1 := wordW_lt wr' j
      have h3 := dbl_step (w := wordW r j) h1 hv
      refine gs (s_idxMs0 (n := j) (.tmp rfl) (.tmp rfl) T66 rfl T186 rfl (by omega) (by first | omega | (simp; omega)) rfl) ?_
      refine gs (s_loadEptr (.tmp rfl) rfl (by rw [getw (show j < o.length by omega), e1]) T186 rfl rfl rfl) ?_
      refine gs (s_shlW (.tmp rfl) (.const _) (by omega) (u32_shl (n := 1) (by omega)) rfl) ?_
      refine gs (s_bitsW (.tmp rfl) (.tmp rfl) rfl ((ibits_or32 (by omega) (by omega)).trans (by rw [dbl_or hc])) rfl) ?_
      refine gs (s_idxMs0 (n := j) (.tmp rfl) (.tmp rfl) T66 rfl T186 rfl (by omega) (by first | omega | (simp; omega)) rfl) ?_
      refine gs (s_loadEptr (.tmp rfl) rfl (by rw [getw (show j < o.length by omega), e1]) T186 rfl rfl rfl) ?_
      refine gs (s_shrW (.tmp rfl) (.const _) (by omega) (u32_shr _ 31 (by omega)) rfl) ?_
      refine gs (s_idxMs0 (n := j) (.tmp rfl) (.tmp rfl) T66 rfl T186 rfl (by omega) (by first | omega | (simp; omega)) rfl) ?_
      refine gs (s_stElem (.tmp rfl) rfl (getw (i := j) (by omega)) rfl (.tmp rfl) rfl rfl T186 rfl rfl) ?_
      refine gD ?_
      refine ga (i64_addI (by omega)) ?_
      exact gK3 hK2 (o.set j (wordW r j * 2 ^ 1 % 4294967296 + c)) (wordW r j / 2 ^ 31) (j + 1) ⟨by simp [hol], ws_set wo (by omega), by omega, by omega, drop_set_next hd, by rw [val_set_take (by omega), val_take_word]; rw [show 4294967296 ^ (j + 1) = 4294967296 ^ j * 4294967296 from Nat.pow_succ _ _]; exact h3⟩ (hw := Wk.of (by repeat (first | exact SlW.nil | refine SlW.k ?_)) (.cons rfl (BlkSub.of (by rw [List.map_set]; rfl)) (.cons rfl (.refl _) .nil)))
    · have hjn : j = b.length + 1 := by have : b.length + 1 ≤ j := by have := ht37; simp [icmp] at this; omega
                                        omega
      subst hjn
      rw [val_take_ge (l := r) (by omega), val_take_ge (l := o) (by omega), hr] at hv
      have hc0 : c = 0 := by
        cases c with
        | zero => rfl
        | succ c => rw [Nat.succ_mul] at hv; omega
      subst hc0
      rw [Nat.zero_mul, Nat.add_zero] at hv
      have hot : o.take (b.length + 1) = o := List.take_of_length_le (by omega)
      obtain ⟨d1, d2⟩ := bit_div (V := V) (k := k) hBp
      rw [← hbt] at d1 d2
      have hcmp := c_r01_compareA 17 o b (b.length + 1) wo hb (by omega)
      rw [hot, ← hBv, hv] at hcmp
      have hqk : k / 32 < q.length := by omega
      obtain ⟨w1, w2⟩ := bit_word wq hqk hq
      have w3 := bit_set wq hqk hq
      refine gt (s_callH hcmp (.cons (.tmp rfl) (.cons (.tmp rfl) .nil)) (by first | exact hH0 | exact hH1 rfl | exact hH2 rfl rfl) rfl rfl) ?_
      refine gC (fun ht58 => ?_) (fun ht58 => ?_)
      · have hge : Bv ≤ 2 * (V / 2 ^ (k + 1) % Bv) + bit := by
          rcases Nat.lt_or_ge (2 * (V / 2 ^ (k + 1) % Bv) + bit) Bv with h | h
          · rw [if_pos h] at ht58; cases ht58
          · exact h
        obtain ⟨d3, d4⟩ := d1 hge
        have htk := c_r01_take o b (b.length + 1) wo hb (by omega) (by unfold big; omega) (by rw [hot, ← hBv, hv]; exact hge)
        rw [hot, ← hBv, hv, ← d3, wr_all (by rw [len_fixw, hol])] at htk
        have hx2 : V / 2 ^ k % Bv < 4294967296 ^ (b.length + 1) := by have := Nat.mod_lt (V / 2 ^ k) hBp; omega
        refine gt (s_callH (Con.rekey 17 rfl rfl htk) (.cons (.tmp rfl) (.cons (.tmp rfl) .nil)) (by first | exact hH0 | exact hH1 rfl | exact hH2 rfl rfl) rfl rfl) ?_
        refine gs (s_quoW (.tmp rfl) (.const _) (by omega) (i64_quo32 (by omega)) rfl) ?_
        refine gs (s_idxMs0 (n := k / 32) (.tmp rfl) (.tmp rfl) T66 rfl T186 rfl (by omega) (by omega) rfl) ?_
        refine gs (s_loadEptr (.tmp rfl) rfl (getw (i := k / 32) hqk) T186 rfl rfl rfl) ?_
        refine gs (s_remW (.tmp rfl) (.const _) (by omega) rem32 rfl) ?_
        refine gs (s_shlW (.const _) (.tmp rfl) (by omega) ((u32_shl (x := 1) (n := k % 32) (by omega)).trans (show _ = ((2 ^ (k % 32) : Nat) : Int) by rw [Nat.one_mul, Nat.mod_eq_of_lt (Nat.lt_of_le_of_lt (Nat.le_add_left _ _) w2)])) rfl) ?_
        refine gs (s_bitsW (.tmp rfl) (.tmp rfl) rfl ((ibits_or32 (wordW_lt wq _) (Nat.lt_of_le_of_lt (Nat.le_add_left _ _) w2)).trans (by rw [w1])) rfl) ?_
        refine gs (s_idxMs0 (n := k / 32) (.tmp rfl) (.tmp rfl) T66 rfl T186 rfl (by omega) (by omega) rfl) ?_
        refine gs (s_stElem (.tmp rfl) rfl (getw (i := k / 32) hqk) rfl (.tmp rfl) rfl rfl T186 rfl rfl) ?_
        refine gD ?_
        refine ga (i64_subI (by omega)) ?_
        exact gK3 hK1 (q.set (k / 32) (wordW q (k / 32) + 2 ^ (k % 32))) (fixw (b.length + 1) (V / 2 ^ k % Bv)) k ⟨by simp [hql], len_fixw _ _, ws_set wq w2, ws_fixw _ _, by omega, val_fixw _ _ hx2, by rw [w3, d4]⟩ (hw := Wk.of (by repeat (first | exact SlW.nil | refine SlW.k ?_)) (.cons rfl (BlkSub.of (by first | rfl | (rw [List.map_set]; rfl))) (.cons rfl (.refl _) .nil)))
      · have hge : 2 * (V / 2 ^ (k + 1) % Bv) + bit < Bv := by
          rcases Nat.lt_or_ge (2 * (V / 2 ^ (k + 1) % Bv) + bit) Bv with h | h
          · exact h
          · rw [if_neg (by omega)] at ht58; split at ht58 <;> cases ht58
        obtain ⟨d3, d4⟩ := d2 hge
        refine ga (i64_subI (by omega)) ?_
        exact gK3 hK1 q o k ⟨hql, hol, wq, wo, by omega, by rw [hv, d3], by rw [hq, d4, Nat.pow_succ, Nat.mul_assoc]⟩ (hw := Wk.of (by repeat (first | exact SlW.nil | refine SlW.k ?_)) (.cons rfl (BlkSub.of (by first | rfl | (rw [List.map_set]; rfl))) (.cons rfl (.refl _) .nil)))
  · have hi0 : i = 0 := by have := ht22; simp [icmp] at this; omega
    subst hi0
    refine gW ((Wk.freeze (k := 13) rfl).trans <| (Wk.freeze (k := 17) rfl).trans <| Wk.of (sl := [(6, some (ws q)), (7, some (ws r))]) (hp := []) (.cons rfl (Sub.of (by rw [show AV.fz 13 1 (q.map u32) (.ms 13 1 0 a.length) = ws q from fz_all (by simp [hql])]; rfl)) (.cons rfl (Sub.of (fz_all (by simp [hrl]))) .nil)) .nil) ?_
    refine gc (c_r01_trim q wq (by omega)) ?_
    refine gc (c_r01_trim r wr' (by unfold big; omega)) ?_
    refine gE2 ?_
    rw [hr, hq]; simp []
end Go.Lw
namespace Go.Lw
/-- Words at the beginning of a row, without zeros at their end. -/
def GOk (L : Nat) (A : List Nat) (n : Nat) : Prop := Ws A ∧ n ≤ A.length ∧ A.length ≤ L ∧ n = (ofNat (val (A.take n))).length
theorem ofNat_fixw (v : Nat) : ofNat v = fixw (ofNat v).length v := by
  have h := eq_fixw (ofNat v) (ws_ofNat _)
  rwa [val_ofNat] at h
theorem gok_fix {L : Nat} {A : List Nat} {n v : Nat} (h : GOk L A n) (hv : v ≤ val (A.take n)) :
    GOk L (wr A 0 (fixw n v)) (ofNat v).length ∧ val ((wr A 0 (fixw n v)).take (ofNat v).length) = v ∧ val ((wr A 0 (fixw n v)).take n) = v := by
  obtain ⟨hw, hn, hl, hN⟩ := h
  have hlt := val_take_lt hw n
  have hvl : v < 4294967296 ^ n := by omega
  have hle : (ofNat v).length ≤ n := ofNat_length_le hvl
  have ht : (wr A 0 (fixw n v)).take n = fixw n v := by
    unfold wr
    rw [List.take_zero, List.nil_append, List.take_append_of_le_length (by rw [len_fixw]; omega), List.take_of_length_le (by rw [len_fixw]; omega)]
  have ht2 : (wr A 0 (fixw n v)).take (ofNat v).length = ofNat v := by
    have h1 : ((wr A 0 (fixw n v)).take n).take (ofNat v).length = (wr A 0 (fixw n v)).take (ofNat v).length := by rw [List.take_take, Nat.min_eq_left hle]
    rw [← h1, ht, fixw_takes _ _ _ hle, ← ofNat_fixw]
  have hlen : (wr A 0 (fixw n v)).length = A.length := len_wr (by rw [len_fixw]; omega)
  refine ⟨⟨ws_wr hw (ws_fixw _ _), by omega, by omega, by rw [ht2, val_ofNat]⟩, by rw [ht2, val_ofNat], by rw [ht, val_fixw _ _ hvl]⟩
theorem gok_par {L : Nat} {A : List Nat} {n : Nat} (h : GOk L A n) (hx : 0 < val (A.take n)) : 0 < n ∧ val (A.take n) % 2 = wordW A 0 % 2 := by
  have hn : 0 < n := by
    rcases Nat.eq_zero_or_pos n with h0 | h0
    · subst h0; simp [val] at hx
    · exact h0
  refine ⟨hn, ?_⟩
  have := val_drops (A.take n) 0
  rw [List.drop_zero, wordW_take hn] at this
  omega
theorem gok_take {L : Nat} {A : List Nat} {n : Nat} (h : GOk L A n) : A.take n = ofNat (val (A.take n)) := by
  obtain ⟨hw, hn, hl, hN⟩ := h
  have h1 := take_trim (ws_take hw n)
  rw [← hN, List.take_take, Nat.min_self] at h1
  exact h1
theorem gok_zero {L : Nat} {A : List Nat} {n : Nat} (h : GOk L A n) : n = 0 ↔ val (A.take n) = 0 := by
  constructor
  · intro h0; subst h0; rfl
  · intro h0
    have h1 := h.2.2.2
    rw [h0] at h1
    exact h1
theorem gcd_even2 {x y : Nat} (hx : x % 2 = 0) (hy : y % 2 = 0) : Nat.gcd x y = 2 * Nat.gcd (x / 2) (y / 2) := by
  rw [← Nat.gcd_mul_left, Nat.mul_div_cancel' (Nat.dvd_of_mod_eq_zero hx), Nat.mul_div_cancel' (Nat.dvd_of_mod_eq_zero hy)]
theorem gcd_even1 {x y : Nat} (hx : x % 2 = 0) (hy : y % 2 = 1) : Nat.gcd (x / 2) y = Nat.gcd x y := by
  have h1 : x = 2 * (x / 2) := by omega
  have h2 : Nat.Coprime 2 y := by
    rw [Nat.Coprime, Nat.gcd_rec, hy]; rfl
  conv => rhs; rw [h1]
  exact (Nat.Coprime.gcd_mul_left_cancel _ h2).symm
theorem gcd_sub {x y : Nat} (h : y ≤ x) : Nat.gcd (x - y) y = Nat.gcd x y := Nat.gcd_sub_self_left h
theorem c_pow_lt {t L g V : Nat} (hg : 0 < g) (h : 2 ^ t * g ≤ V) (hV : V < 4294967296 ^ L) : t < 32 * L := by
  rw [pow32] at hV
  have h1 := Nat.mul_le_mul_left (2 ^ t) (show 1 ≤ g from hg)
  rcases Nat.lt_or_ge t (32 * L) with h2 | h2
  · exact h2
  · have := two_pow_le h2; omega
end Go.Lw
namespace Go.Lw
open Go.Proofs
theorem c_r01_takeO (A D : List Nat) (n p : Nat) (hA : Ws A) (hD : Ws D) (hn : n ≤ A.length) (hp : p ≤ D.length) (la : A.length ≤ big) (hle : val (D.take p) ≤ val (A.take n)) :
  Con Tryz.prog 236 [.ms 901 1 0 n, .ms 902 1 0 p] [(902, some (.row 1 (D.map u32))), (901, some (.row 1 (A.map u32)))] (.tup [])
   [(902, some (.row 1 (D.map u32))), (901, some (.row 1 ((wr A 0 (fixw n (val (A.take n) - val (D.take p)))).map u32)))] := by
 have h1 := Con.rekey 901 rfl rfl (c_r01_take A (D.take p) n hA (ws_take hD p) hn la hle)
 refine Con.borrow (args := [.ms 901 1 0 n, ws (D.take p)]) 902 1 (D.map u32) rfl rfl rfl ?_ rfl ?_ h1
 ·intro j x' hj
  match j, hj with
  | 0, hj => cases hj; exact .inl rfl
  | 1, hj => cases hj; exact .inr ⟨0, p, rfl, by simpa using hp, by rw [lst_take]; rfl⟩
 ·intro k' x h
  obtain ⟨_, h⟩ := lk_one h
  cases h; exact sc_row _
theorem and1 {A : List Nat} (hA : Ws A) {i : Nat} : ibits .and .u32 (wordW A i : Int) 1 = ((wordW A i % 2 : Nat) : Int) :=
 (ibits_and32 (y := 1) (wordW_lt hA i) (by omega)).trans (by rw [Nat.and_one_is_mod])
theorem c_r01_gcd (a b : List Nat) (ha : Ws a) (hb : Ws b) (na : Nz a) (nb : Nz b) (la : a.length + b.length < big) : FnC Tryz.prog 198 [ws a, ws b] (ws (ofNat (Nat.gcd (val a) (val b)))) := by
  have la' := la
  unfold big at la
  have ea := ofNat_val ha na
  have eb := ofNat_val hb nb
  obtain ⟨L, hL⟩ : ∃ L, L = a.length + b.length := ⟨_, rfl⟩
  obtain ⟨G, hG⟩ : ∃ G, G = Nat.gcd (val a) (val b) := ⟨_, rfl⟩
  rw [← hG]
  refine gF0 Tryz.func198 ?_
  refine gt (s_callH (c_r01_trimO 901 rfl a ha (by unfold big; omega)) (.cons (.tmp rfl) .nil) (by first | exact hH0 | exact hH1 rfl | exact hH2 rfl rfl) rfl rfl) ?_
  refine gt (s_callH (c_r01_trimO 902 rfl b hb (by unfold big; omega)) (.cons (.tmp rfl) .nil) (by first | exact hH0 | exact hH1 rfl | exact hH2 rfl rfl) rfl rfl) ?_ (2, 0)
  refine gW (Wk.of (sl := [(0, some (.ms 901 1 0 a.length)), (1, some (.ms 902 1 0 b.length))]) (hp := [(901, some (.row 1 (a.map u32))), (902, some (.row 1 (b.map u32)))]) (.cons rfl (Sub.of (by rw [ea])) (.cons rfl (Sub.of (by rw [eb])) .nil)) (.cons rfl (.refl _) (.cons rfl (.refl _) .nil))) ?_
  refine gC (fun ht12 => ?_) (fun ht12 => ?_) (st1 := (3, 0))
  · have h0 : a = [] := List.length_eq_zero_iff.1 (by simpa [icmp] using ht12)
    refine gW ((Wk.freeze (k := 902) rfl).trans <| Wk.of (sl := [(1, some (ws b))]) (hp := []) (.cons rfl (Sub.of (fz_all (by simp))) .nil) .nil) ?_
    refine gE1 ?_
    rw [hG, h0]; simp [val, eb]
  · have h0 : a ≠ [] := fun h => by rw [h] at ht12; simp [icmp] at ht12
    refine gC (fun ht16 => ?_) (fun ht16 => ?_) (st1 := (5, 0))
    · have h1 : b = [] := List.length_eq_zero_iff.1 (by simpa [icmp] using ht16)
      refine gW ((Wk.freeze (k := 901) rfl).trans <| Wk.of (sl := [(0, some (ws a))]) (hp := []) (.cons rfl (Sub.of (fz_all (by simp))) .nil) .nil) ?_
      refine gE1 ?_
      rw [hG, h1]; simp [val, ea]
    · have h1 : b ≠ [] := fun h => by rw [h] at ht16; simp [icmp] at ht16
      have va := val_pos na h0
      have vb := val_pos nb h1
      have hGp : 0 < G := by rw [hG]; exact Nat.gcd_pos_of_pos_left _ va
      have hGa : G ≤ val a := by rw [hG]; exact Nat.gcd_le_left _ va
      have vla := val_lt a ha
      refine gL5 [] [] (fun (A D : List Nat) (n p t : Nat) => [(0, some (.ms 901 1 0 n)), (1, some (.ms 902 1 0 p)), (5, some (i64 t))]) (fun A D _ _ _ => [(901, some (.row 1 (A.map u32))), (902, some (.row 1 (D.map u32)))]) (fun A D n p t => GOk L A n ∧ GOk L D p ∧ 0 < val (A.take n) ∧ 0 < val (D.take p) ∧ G = 2 ^ t * Nat.gcd (val (A.take n)) (val (D.take p))) (fun A _ n _ _ => val (A.take n)) a b a.length b.length 0 ⟨⟨ha, Nat.le_refl _, by omega, by rw [List.take_length, ea]⟩, ⟨hb, Nat.le_refl _, by omega, by rw [List.take_length, eb]⟩, by rw [List.take_length]; exact va, by rw [List.take_length]; exact vb, by rw [List.take_length, List.take_length, hG]; simp⟩ ?_
      rintro A D n p t ⟨gA, gD, pA, pD, hg⟩ K1 hK1
      refine gs (s_idxMs0 (n := 0) (.tmp rfl) (.const _) T66 rfl T186 rfl (by omega) (by have := (gok_par gA pA).1; omega) rfl) ?_
      refine gs (s_loadEptr (.tmp rfl) rfl (getw (i := 0) (by have := (gok_par gA pA).1; have := gA.2.1; omega)) T186 rfl rfl rfl) ?_
      refine gs (s_bitsW (.tmp rfl) (.const _) rfl (and1 gA.1) rfl) ?_
      refine gs (s_guard rfl rfl rfl (fun h => s_idxMs0 (n := 0) (.opt rfl (o1 h)) (.const _) T66 rfl T186 rfl (by omega) (by have := (gok_par gD pD).1; omega) rfl)) ?_
      refine gs (s_guard rfl rfl rfl (fun h => s_loadEptr (.opt rfl (o1 h)) rfl (getw (i := 0) (by have := (gok_par gD pD).1; have := gD.2.1; omega)) T186 rfl rfl rfl)) ?_
      refine gs (s_guard rfl rfl rfl (fun h => s_bitsW (.opt rfl (o1 h)) (.const _) rfl (and1 gD.1) rfl)) ?_
      refine gC (fun ht29 => ?_) (fun ht29 => ?_)
      · have hev : wordW A 0 % 2 = 0 ∧ wordW D 0 % 2 = 0 := by
          have := ht29
          simp [icmp] at this
          omega
        have xA : val (A.take n) % 2 = 0 := by rw [(gok_par gA pA).2]; exact hev.1
        have xD : val (D.take p) % 2 = 0 := by rw [(gok_par gD pD).2]; exact hev.2
        obtain ⟨k1, k2, k3⟩ := gok_fix gA (v := val (A.take n) / 2) (by omega)
        obtain ⟨m1, m2, m3⟩ := gok_fix gD (v := val (D.take p) / 2) (by omega)
        have ht : t < 32 * a.length := c_pow_lt (Nat.gcd_pos_of_pos_left _ pA) (by rw [← hg]; exact hGa) vla
        refine gt (s_callH (Con.rekeyR 901 rfl (c_r01_halve A n gA.1 gA.2.1 (by have := gA.2.2.1; unfold big; omega))) (.cons (.tmp rfl) .nil) (by first | exact hH0 | exact hH1 rfl | exact hH2 rfl rfl) rfl rfl) ?_
        refine gt (s_callH (Con.rekeyR 902 rfl (c_r01_halve D p gD.1 gD.2.1 (by have := gD.2.2.1; unfold big; omega))) (.cons (.tmp rfl) .nil) (by first | exact hH0 | exact hH1 rfl | exact hH2 rfl rfl) rfl rfl) ?_
        refine ga (show _ = ((t + 1 : Nat) : Int) by rw [i64_addI (by omega)]; omega) ?_
        exact gK5 hK1 (wr A 0 (fixw n (val (A.take n) / 2))) (wr D 0 (fixw p (val (D.take p) / 2))) ((ofNat (val (A.take n) / 2)).length) ((ofNat (val (D.take p) / 2)).length) (t + 1) ⟨k1, m1, by rw [k2]; omega, by rw [m2]; omega, by rw [k2, m2, hg, gcd_even2 xA xD, Nat.pow_succ]; grind⟩ (by rw [k2]; omega)
      · have hod : val (A.take n) % 2 = 1 ∨ val (D.take p) % 2 = 1 := by
          rw [(gok_par gA pA).2, (gok_par gD pD).2]
          have := ht29
          simp [icmp] at this
          omega
        refine gL4 [5] [] (fun (A1 D1 : List Nat) (n1 p1 : Nat) => [(0, some (.ms 901 1 0 n1)), (1, some (.ms 902 1 0 p1))]) (fun A1 D1 _ _ => [(901, some (.row 1 (A1.map u32))), (902, some (.row 1 (D1.map u32)))]) (fun A1 D1 n1 p1 => GOk L A1 n1 ∧ GOk L D1 p1 ∧ 0 < val (D1.take p1) ∧ (val (A1.take n1) % 2 = 1 ∨ val (D1.take p1) % 2 = 1) ∧ G = 2 ^ t * Nat.gcd (val (A1.take n1)) (val (D1.take p1))) (fun A1 D1 n1 p1 => val (A1.take n1) + val (D1.take p1)) A D n p ⟨gA, gD, pD, hod, hg⟩ ?_
        rintro A1 D1 n1 p1 ⟨gA1, gD1, pD1, hod1, hg1⟩ K2 hK2
        refine gC (fun ht38 => ?_) (fun ht38 => ?_) (st2 := (19, 0))
        · have pA1 : 0 < val (A1.take n1) := by
            have h3 : n1 ≠ 0 := by have := ht38; simp [icmp] at this; omega
            exact Nat.pos_of_ne_zero (fun h => h3 ((gok_zero gA1).2 h))
          refine gL2 [5] [902] (fun (A2 : List Nat) (n2 : Nat) => [(0, some (.ms 901 1 0 n2)), (1, some (.ms 902 1 0 p1))]) (fun A2 _ => [(901, some (.row 1 (A2.map u32)))]) (fun A2 n2 => GOk L A2 n2 ∧ 0 < val (A2.take n2) ∧ val (A2.take n2) ≤ val (A1.take n1) ∧ (val (A2.take n2) % 2 = 1 ∨ val (D1.take p1) % 2 = 1) ∧ Nat.gcd (val (A2.take n2)) (val (D1.take p1)) = Nat.gcd (val (A1.take n1)) (val (D1.take p1))) (fun A2 n2 => val (A2.take n2)) A1 n1 ⟨gA1, pA1, Nat.le_refl _, hod1, rfl⟩ ?_
          rintro A2 n2 ⟨gA2, pA2, lA2, hod2, hg2⟩ K3 hK3
          refine gs (s_idxMs0 (n := 0) (.tmp rfl) (.const _) T66 rfl T186 rfl (by omega) (by have := (gok_par gA2 pA2).1; omega) rfl) ?_
          refine gs (s_loadEptr (.tmp rfl) rfl (getw (i := 0) (by have := (gok_par gA2 pA2).1; have := gA2.2.1; omega)) T186 rfl rfl rfl) ?_
          refine gs (s_bitsW (.tmp rfl) (.const _) rfl (and1 gA2.1) rfl) ?_
          refine gC (fun ht43 => ?_) (fun ht43 => ?_)
          · have xA2 : val (A2.take n2) % 2 = 0 := by
              rw [(gok_par gA2 pA2).2]
              have := ht43
              simp [icmp] at this
              omega
            obtain ⟨k1, k2, k3⟩ := gok_fix gA2 (v := val (A2.take n2) / 2) (by omega)
            refine gt (s_callH (Con.rekeyR 901 rfl (c_r01_halve A2 n2 gA2.1 gA2.2.1 (by have := gA2.2.2.1; unfold big; omega))) (.cons (.tmp rfl) .nil) (by first | exact hH0 | exact hH1 rfl | exact hH2 rfl rfl) rfl rfl) ?_
            exact gK2 hK3 (wr A2 0 (fixw n2 (val (A2.take n2) / 2))) ((ofNat (val (A2.take n2) / 2)).length) ⟨k1, by rw [k2]; omega, by rw [k2]; omega, .inr (by omega), by rw [k2, gcd_even1 xA2 (by omega), hg2]⟩ (by rw [k2]; omega)
          · have xA2 : val (A2.take n2) % 2 = 1 := by
              rw [(gok_par gA2 pA2).2]
              have := ht43
              simp [icmp] at this
              omega
            refine gL2 [5] [901] (fun (D2 : List Nat) (p2 : Nat) => [(0, some (.ms 901 1 0 n2)), (1, some (.ms 902 1 0 p2))]) (fun D2 _ => [(902, some (.row 1 (D2.map u32)))]) (fun D2 p2 => GOk L D2 p2 ∧ 0 < val (D2.take p2) ∧ val (D2.take p2) ≤ val (D1.take p1) ∧ Nat.gcd (val (A2.take n2)) (val (D2.take p2)) = Nat.gcd (val (A2.take n2)) (val (D1.take p1))) (fun D2 p2 => val (D2.take p2)) D1 p1 ⟨gD1, pD1, Nat.le_refl _, rfl⟩ ?_
            rintro D2 p2 ⟨gD2, pD2, lD2, hg3⟩ K4 hK4
            refine gs (s_idxMs0 (n := 0) (.tmp rfl) (.const _) T66 rfl T186 rfl (by omega) (by have := (gok_par gD2 pD2).1; omega) rfl) ?_
            refine gs (s_loadEptr (.tmp rfl) rfl (getw (i := 0) (by have := (gok_par gD2 pD2).1; have := gD2.2.1; omega)) T186 rfl rfl rfl) ?_
            refine gs (s_bitsW (.tmp rfl) (.const _) rfl (and1 gD2.1) rfl) ?_
            refine gC (fun ht50 => ?_) (fun ht50 => ?_)
            · have xD2 : val (D2.take p2) % 2 = 0 := by
                rw [(gok_par gD2 pD2).2]
                have := ht50
                simp [icmp] at this
                omega
              obtain ⟨k1, k2, k3⟩ := gok_fix gD2 (v := val (D2.take p2) / 2) (by omega)
              refine gt (s_callH (Con.rekeyR 902 rfl (c_r01_halve D2 p2 gD2.1 gD2.2.1 (by have := gD2.2.2.1; unfold big; omega))) (.cons (.tmp rfl) .nil) (by first | exact hH0 | exact hH1 rfl | exact hH2 rfl rfl) rfl rfl) ?_
              exact gK2 hK4 (wr D2 0 (fixw p2 (val (D2.take p2) / 2))) ((ofNat (val (D2.take p2) / 2)).length) ⟨k1, by rw [k2]; omega, by rw [k2]; omega, by rw [k2, Nat.gcd_comm, gcd_even1 xD2 xA2, Nat.gcd_comm, hg3]⟩ (by rw [k2]; omega)
            · have xD2 : val (D2.take p2) % 2 = 1 := by
                rw [(gok_par gD2 pD2).2]
                have := ht50
                simp [icmp] at this
                omega
              refine gt (s_callH (c_r01_compareO 901 902 (by omega) A2 D2 n2 p2 gA2.1 gD2.1 gA2.2.1 gD2.2.1) (.cons (.tmp rfl) (.cons (.tmp rfl) .nil)) (by first | exact hH0 | exact hH1 rfl | exact hH2 rfl rfl) rfl rfl) ?_
              refine gC (fun ht56 => ?_) (fun ht56 => ?_) (st1 := (17, 0)) (st2 := (77777, 0))
              · have hlt : val (A2.take n2) < val (D2.take p2) := by
                  rcases Nat.lt_or_ge (val (A2.take n2)) (val (D2.take p2)) with h | h
                  · exact h
                  · rw [if_neg (by omega)] at ht56; split at ht56 <;> cases ht56
                refine gW (Wk.o (sl := [(0, some (.ms 902 1 0 p2)), (1, some (.ms 901 1 0 n2)), (5, some (i64 t))]) (hp := [(901, some (.row 1 (A2.map u32))), (902, some (.row 1 (D2.map u32)))])) ?_ (17, 0)
                refine gW (Wk.rekey (k := 901) (d := 903) rfl rfl) ?_ (17, 0)
                refine gW (Wk.rekey (k := 902) (d := 901) rfl rfl) ?_ (17, 0)
                refine gW (Wk.rekey (k := 903) (d := 902) rfl rfl) ?_ (17, 0)
                refine gW (Wk.of (sl := [(0, some (.ms 901 1 0 p2)), (1, some (.ms 902 1 0 n2)), (5, some (i64 t))]) (hp := [(901, some (.row 1 (D2.map u32))), (902, some (.row 1 (A2.map u32)))]) (.cons rfl (Sub.refl _) (.cons rfl (Sub.refl _) (.cons rfl (Sub.refl _) .nil))) (.cons rfl (.refl _) (.cons rfl (.refl _) .nil))) ?_ (17, 0)
                obtain ⟨A3, D3, n3, p3, gA3, gD3, xA3, xD3, hle3, hg4, hs3, e1, e2, e3, e4⟩ : ∃ A3 D3 n3 p3, GOk L A3 n3 ∧ GOk L D3 p3 ∧ val (A3.take n3) % 2 = 1 ∧ val (D3.take p3) % 2 = 1 ∧ val (D3.take p3) ≤ val (A3.take n3) ∧ Nat.gcd (val (A3.take n3)) (val (D3.take p3)) = Nat.gcd (val (A2.take n2)) (val (D2.take p2)) ∧ val (A3.take n3) + val (D3.take p3) = val (A2.take n2) + val (D2.take p2) ∧ A3 = D2 ∧ n3 = p2 ∧ D3 = A2 ∧ p3 = n2 := ⟨D2, A2, p2, n2, gD2, gA2, xD2, xA2, by omega, Nat.gcd_comm _ _, Nat.add_comm _ _, rfl, rfl, rfl, rfl⟩
                rw [← e1, ← e2, ← e3, ← e4]
                refine go ?_
                refine gt (s_callH (c_r01_takeO A3 D3 n3 p3 gA3.1 gD3.1 gA3.2.1 gD3.2.1 (by have := gA3.2.2.1; unfold big; omega) hle3) (.cons (.tmp rfl) (.cons (.tmp rfl) .nil)) (by first | exact hH0 | exact hH1 rfl | exact hH2 rfl rfl) rfl rfl) ?_
                refine gt (s_callH (Con.rekeyR 901 rfl (c_r01_cut (wr A3 0 (fixw n3 (val (A3.take n3) - val (D3.take p3)))) n3 (ws_wr gA3.1 (ws_fixw _ _)) (by rw [len_wr (by rw [len_fixw]; have := gA3.2.1; omega)]; exact gA3.2.1) (by rw [len_wr (by rw [len_fixw]; have := gA3.2.1; omega)]; have := gA3.2.2.1; unfold big; omega))) (.cons (.tmp rfl) .nil) (by first | exact hH0 | exact hH1 rfl | exact hH2 rfl rfl) rfl rfl) ?_
                exact gK4 hK2 (wr A3 0 (fixw n3 (val (A3.take n3) - val (D3.take p3)))) D3 ((ofNat (val (A3.take n3) - val (D3.take p3))).length) p3 ⟨(gok_fix gA3 (by omega)).1, gD3, by omega, .inr xD3, by rw [(gok_fix gA3 (v := val (A3.take n3) - val (D3.take p3)) (by omega)).2.1, gcd_sub hle3, hg4, hg3, hg2, hg1]⟩ (by rw [(gok_fix gA3 (v := val (A3.take n3) - val (D3.take p3)) (by omega)).2.1]; omega) (hw := Wk.of (.cons rfl (Sub.of (by rw [(gok_fix gA3 (v := val (A3.take n3) - val (D3.take p3)) (by omega)).2.2])) (.k (.k .nil))) (.cons rfl (.refl _) (.cons rfl (.refl _) .nil)))
              · have hlt : val (D2.take p2) ≤ val (A2.take n2) := by
                  rcases Nat.lt_or_ge (val (A2.take n2)) (val (D2.take p2)) with h | h
                  · rw [if_pos h] at ht56; cases ht56
                  · exact h
                refine gW (Wk.o (sl := [(0, some (.ms 901 1 0 n2)), (1, some (.ms 902 1 0 p2)), (5, some (i64 t))]) (hp := [(901, some (.row 1 (A2.map u32))), (902, some (.row 1 (D2.map u32)))])) ?_ (77777, 0)
                obtain ⟨A3, D3, n3, p3, gA3, gD3, xA3, xD3, hle3, hg4, hs3, e1, e2, e3, e4⟩ : ∃ A3 D3 n3 p3, GOk L A3 n3 ∧ GOk L D3 p3 ∧ val (A3.take n3) % 2 = 1 ∧ val (D3.take p3) % 2 = 1 ∧ val (D3.take p3) ≤ val (A3.take n3) ∧ Nat.gcd (val (A3.take n3)) (val (D3.take p3)) = Nat.gcd (val (A2.take n2)) (val (D2.take p2)) ∧ val (A3.take n3) + val (D3.take p3) = val (A2.take n2) + val (D2.take p2) ∧ A3 = A2 ∧ n3 = n2 ∧ D3 = D2 ∧ p3 = p2 := ⟨A2, D2, n2, p2, gA2, gD2, xA2, xD2, hlt, rfl, rfl, rfl, rfl, rfl, rfl⟩
                rw [← e1, ← e2, ← e3, ← e4]
                obtain ⟨k1, k2, k3⟩ := gok_fix gA3 (v := val (A3.take n3) - val (D3.take p3)) (by omega)
                refine go ?_
                refine gt (s_callH (c_r01_takeO A3 D3 n3 p3 gA3.1 gD3.1 gA3.2.1 gD3.2.1 (by have := gA3.2.2.1; unfold big; omega) hle3) (.cons (.tmp rfl) (.cons (.tmp rfl) .nil)) (by first | exact hH0 | exact hH1 rfl | exact hH2 rfl rfl) rfl rfl) ?_
                refine gt (s_callH (Con.rekeyR 901 rfl (c_r01_cut (wr A3 0 (fixw n3 (val (A3.take n3) - val (D3.take p3)))) n3 (ws_wr gA3.1 (ws_fixw _ _)) (by rw [len_wr (by rw [len_fixw]; have := gA3.2.1; omega)]; exact gA3.2.1) (by rw [len_wr (by rw [len_fixw]; have := gA3.2.1; omega)]; have := gA3.2.2.1; unfold big; omega))) (.cons (.tmp rfl) .nil) (by first | exact hH0 | exact hH1 rfl | exact hH2 rfl rfl) rfl rfl) ?_
                exact gK4 hK2 (wr A3 0 (fixw n3 (val (A3.take n3) - val (D3.take p3)))) D3 ((ofNat (val (A3.take n3) - val (D3.take p3))).length) p3 ⟨(gok_fix gA3 (by omega)).1, gD3, by omega, .inr xD3, by rw [(gok_fix gA3 (v := val (A3.take n3) - val (D3.take p3)) (by omega)).2.1, gcd_sub hle3, hg4, hg3, hg2, hg1]⟩ (by rw [(gok_fix gA3 (v := val (A3.take n3) - val (D3.take p3)) (by omega)).2.1]; omega) (hw := Wk.of (.cons rfl (Sub.of (by rw [(gok_fix gA3 (v := val (A3.take n3) - val (D3.take p3)) (by omega)).2.2])) (.k (.k .nil))) (.cons rfl (.refl _) (.cons rfl (.refl _) .nil)))
        · have zA1 : val (A1.take n1) = 0 := by
            have h3 : n1 = 0 := by have := ht38; simp [icmp] at this; omega
            exact (gok_zero gA1).1 h3
          rw [zA1, Nat.gcd_zero_left] at hg1
          refine gW ((Wk.freeze (k := 902) rfl).trans <| Wk.of (sl := [(1, some (ws (ofNat (val (D1.take p1))))), (5, some (i64 t))]) (hp := []) (.cons rfl (Sub.of (by rw [fz_ms (by rw [List.length_map]; have := gD1.2.1; omega), lst_take, ← gok_take gD1])) (.k .nil)) .nil) ?_
          refine gL1 [64] [] (fun (i : Nat) => [(1, some (ws (ofNat (2 ^ i * val (D1.take p1))))), (65, some (i64 i))]) (fun _ => []) (fun i => i ≤ t) (fun i => t - i) 0 (Nat.zero_le _) ?_ (h1 := (.cons rfl (Sub.of (by rw [Nat.pow_zero, Nat.one_mul])) (.k .nil)))
          rintro i hit K5 hK5
          refine gC (fun ht66 => ?_) (fun ht66 => ?_)
          · have hin : i < t := by simpa [icmp] using ht66
            have h3 : 2 ^ i * val (D1.take p1) ≤ G := by rw [hg1]; exact Nat.mul_le_mul_right _ (two_pow_le (by omega))
            have h4 : (ofNat (2 ^ i * val (D1.take p1))).length ≤ a.length := ofNat_length_le (by omega)
            have ht : t < 32 * a.length := c_pow_lt pD1 (by rw [← hg1]; exact hGa) vla
            refine gc (c_r01_plus _ _ (ws_ofNat _) (ws_ofNat _) (by unfold big; omega) (by unfold big; omega)) ?_
            refine ga (i64_addI (by omega)) ?_
            exact gK1 hK5 (i + 1) hin (hw := Wk.of (.cons rfl (Sub.of (by rw [val_ofNat, Nat.pow_succ]; congr 2; grind)) (.k (.k .nil))) .nil)
          · have hin : i = t := by have : t ≤ i := by simpa [icmp] using ht66
                                   omega
            subst hin
            refine gE1 ?_
            rw [hg1]
end Go.Lw
namespace Go.Lw
open Go.Proofs
theorem c_r01_Gcd (a b : Wh) (ha : a.ok) (hb : b.ok) (la : a.mag.length + b.mag.length < big) : FnC Tryz.prog 143 [a.av, b.av] (zA (Int.gcd a.z b.z)) := by
 have h1 := Wh.m_le (w := a)
 have h2 := Wh.m_le (w := b)
 have h3 : Int.gcd a.z b.z = Nat.gcd (val a.m) (val b.m) := by rw [Int.gcd, Wh.abs, Wh.abs]
 have h4 : (ofNat (Nat.gcd (val a.m) (val b.m))).length ≤ a.m.length + b.m.length := by
  rcases Nat.eq_zero_or_pos (val a.m) with h | h
  ·rw [h, Nat.gcd_zero_left, Wh.ofNat_m hb]; omega
  ·exact Nat.le_trans (ofNat_length_le (Nat.lt_of_le_of_lt (Nat.gcd_le_left _ h) (val_lt _ (Wh.ws ha)))) (by omega)
 refine gF0 Tryz.func143 ?_
 refine gc (c_r01_mag a ha) ?_
 refine gc (c_r01_mag b hb) ?_
 refine gc (c_r01_gcd a.m b.m (Wh.ws ha) (Wh.ws hb) a.nz b.nz (by omega)) ?_
 refine gc (c_r01_form false _ (ws_ofNat _) (by omega)) ?_
 refine gD ?_
 refine gE1 ?_
 rw [val_ofNat, h3]; rfl
theorem c_r01_Div (a b : Wh) (ha : a.ok) (hb : b.ok) (la : a.mag.length + 1 < big) (lb : b.mag.length < big) (h0 : b.z ≠ 0) : FnC Tryz.prog 168 [a.av, b.av] (.tup [zA (a.z / b.z), zA (a.z % b.z), i64 0]) := by
 have hm1 := Wh.m_le (w := a)
 have hm2 := Wh.m_le (w := b)
 have hb1 : val b.m ≠ 0 := by have := Wh.abs (w := b); omega
 have hl1 : (ofNat (val a.m / val b.m)).length ≤ a.m.length := ofNat_length_le (Nat.lt_of_le_of_lt (Nat.div_le_self _ _) (val_lt _ (Wh.ws ha)))
 have hmod := Nat.mod_lt (val a.m) (show 0 < val b.m by omega)
 have hl2 : (ofNat (val a.m % val b.m)).length ≤ b.m.length := ofNat_length_le (Nat.lt_trans hmod (val_lt _ (Wh.ws hb)))
 have hl3 : (ofNat (val a.m / val b.m + 1)).length ≤ a.m.length + 1 := ofNat_length_le (by have h7 := Nat.lt_of_le_of_lt (Nat.div_le_self (val a.m) (val b.m)) (val_lt _ (Wh.ws ha)); rw [Nat.pow_succ]; generalize val a.m / val b.m = m at *; omega)
 have hl4 : (ofNat (val b.m - val a.m % val b.m)).length ≤ b.m.length := ofNat_length_le (by have := val_lt _ (Wh.ws hb); omega)
 have hv1 : val [1] = 1 := rfl
 refine gF0 Tryz.func168 ?_
 refine gc (c_r01_Sign b hb) ?_
 refine gC (fun ht11 => ?_) (fun ht11 => ?_) (st1 := (2, 0))
 ·exact absurd (Int.sign_eq_zero_iff_zero.1 (by simpa [icmp] using ht11)) h0
 ·refine gc (c_r01_mag a ha) ?_
  refine gc (c_r01_mag b hb) ?_
  refine gc (c_r01_divide a.m b.m (Wh.ws ha) (Wh.ws hb) a.nz hb1 (by omega) (by omega)) ?_
  refine gD ?_
  refine gc (c_r01_neg a ha) ?_
  refine glG ?_
  refine gC (fun ht28 => ?_) (fun ht28 => ?_)
  ·have h1 : a.n = true ∧ 0 < val a.m % val b.m := div_cond.1 ht28
   obtain ⟨e1, e2⟩ := div_high hb1 h1.1 h1.2
   refine gc (c_r01_plus (ofNat (val a.m / val b.m)) [1] (ws_ofNat _) (ws_one (by omega)) (by omega) (by unfold big; simp)) ?_
   refine gc (c_r01_mag b hb) ?_
   refine gc (c_r01_minus b.m (ofNat (val a.m % val b.m)) (Wh.ws hb) (ws_ofNat _) (by omega) (by rw [val_ofNat]; omega)) ?_
   refine gD ?_ (6, 0)
   refine gW (Wk.of (sl := [(2, some (.ptr 2 0)), (3, some (.ptr 3 0)), (4, some (.ptr 4 0)), (5, some (.ptr 5 0)), (7, some (ws (ofNat (val a.m / val b.m + 1)))), (8, some (ws (ofNat (val b.m - val a.m % val b.m))))]) (hp := [(2, some (.box [bl a.neg, ws a.mag])), (3, some (.box [bl b.neg, ws b.mag])), (4, some (.box [.v (.bool false), .v (.slice none 0 0)])), (5, some (.box [.v (.bool false), .v (.slice none 0 0)]))]) (.k (.k (.k (.k (.cons rfl (Sub.of (by rw [val_ofNat, hv1])) (.cons rfl (Sub.of (by rw [val_ofNat])) .nil)))))) (.cons rfl (.refl _) (.cons rfl (.refl _) (.cons rfl (.refl _) (.cons rfl (.refl _) .nil))))) ?_
   refine gc (c_r01_neg a ha) ?_
   refine gc (c_r01_neg b hb) ?_
   refine gc (by apply c_r01_form _ _ (ws_ofNat _) (by omega)) ?_
   refine gc (by apply c_r01_form _ _ (ws_ofNat _) (by omega)) ?_
   refine gD ?_
   refine gR ?_
   exact fin_eq3 (by rw [val_ofNat, val_ofNat, e1, show sgn false _ = _ from e2]; rfl)
  ·have h1 : ¬ (a.n = true ∧ 0 < val a.m % val b.m) := fun h => Bool.eq_false_iff.1 ht28 (div_cond.2 h)
   obtain ⟨e1, e2⟩ := div_low hb1 h1
   refine gc (c_r01_neg a ha) ?_
   refine gc (c_r01_neg b hb) ?_
   refine gc (by apply c_r01_form _ _ (ws_ofNat _) (by omega)) ?_
   refine gc (by apply c_r01_form _ _ (ws_ofNat _) (by omega)) ?_
   refine gD ?_
   refine gR ?_
   exact fin_eq3 (by rw [val_ofNat, val_ofNat, e1, show sgn false _ = _ from e2]; rfl)
end Go.Lw
namespace Go.Lw
open Go.Proofs
theorem z_Sign {x : Int} (hx : Zs x) : FnC Tryz.prog 133 [zA x] (i64 x.sign) := by
 have h := c_integer_Sign (ofInt x) hx.ok
 rw [ofInt_z] at h
 exact h
theorem z_Neg {x : Int} (hx : Zs x) : FnC Tryz.prog 213 [zA x] (zA (-x)) := by
 have h := c_integer_Neg (ofInt x) hx.ok (by have := hx.len; unfold big; omega)
 rw [ofInt_z] at h
 exact h
theorem z_Cmp {x y : Int} (hx : Zs x) (hy : Zs y) : FnC Tryz.prog 129 [zA x, zA y] (i64 (cmp3 x y)) := by
 have h := c_integer_Cmp (ofInt x) (ofInt y) hx.ok hy.ok
 rw [ofInt_z, ofInt_z] at h
 exact h
theorem z_Add {x y : Int} (hx : Zs x) (hy : Zs y) : FnC Tryz.prog 210 [zA x, zA y] (zA (x + y)) := by
 have h := c_integer_Add (ofInt x) (ofInt y) hx.ok hy.ok (by have := hx.len; unfold big; omega) (by have := hy.len; unfold big; omega)
 rw [ofInt_z, ofInt_z] at h
 exact h
theorem z_Mul {x y : Int} (hx : Zs x) (hy : Zs y) : FnC Tryz.prog 211 [zA x, zA y] (zA (x * y)) := by
 have h := c_integer_Mul (ofInt x) (ofInt y) hx.ok hy.ok (by have := hx.len; have := hy.len; unfold big; omega)
 rw [ofInt_z, ofInt_z] at h
 exact h
theorem z_Gcd {x y : Int} (hx : Zs x) (hy : Zs y) : FnC Tryz.prog 130 [zA x, zA y] (zA (Int.gcd x y)) := by
 have h := c_integer_Gcd (ofInt x) (ofInt y) hx.ok hy.ok (by have := hx.len; unfold big; omega) (by have := hy.len; unfold big; omega)
 rw [ofInt_z, ofInt_z] at h
 exact h
theorem z_Div {x y : Int} (hx : Zs x) (hy : Zs y) (h0 : y ≠ 0) : FnC Tryz.prog 228 [zA x, zA y] (.tup [zA (x / y), zA (x % y), .v .nilIface]) := by
 have h := c_integer_Div (ofInt x) (ofInt y) hx.ok hy.ok (by have := hx.len; unfold big; omega) (by have := hy.len; unfold big; omega) (by rw [ofInt_z]; exact h0)
 rw [ofInt_z, ofInt_z] at h
 exact h
theorem zr_Sign {x : Int} (hx : Zs x) : FnC Tryz.prog 53 [zA x] (i64 x.sign) := by
 have h := c_r01_Sign (ofInt x) hx.ok
 rw [ofInt_z] at h
 exact h
theorem zr_Neg {x : Int} (hx : Zs x) : FnC Tryz.prog 167 [zA x] (zA (-x)) := by
 have h := c_r01_Neg (ofInt x) hx.ok (by have := hx.len; unfold big; omega)
 rw [ofInt_z] at h
 exact h
theorem zr_Cmp {x y : Int} (hx : Zs x) (hy : Zs y) : FnC Tryz.prog 142 [zA x, zA y] (i64 (cmp3 x y)) := by
 have h := c_r01_Cmp (ofInt x) (ofInt y) hx.ok hy.ok (by have := hx.len; unfold big; omega) (by have := hy.len; unfold big; omega)
 rw [ofInt_z, ofInt_z] at h
 exact h
theorem zr_Add {x y : Int} (hx : Zs x) (hy : Zs y) : FnC Tryz.prog 113 [zA x, zA y] (zA (x + y)) := by
 have h := c_r01_Add (ofInt x) (ofInt y) hx.ok hy.ok (by have := hx.len; unfold big; omega) (by have := hy.len; unfold big; omega)
 rw [ofInt_z, ofInt_z] at h
 exact h
theorem zr_Mul {x y : Int} (hx : Zs x) (hy : Zs y) : FnC Tryz.prog 114 [zA x, zA y] (zA (x * y)) := by
 have h := c_r01_Mul (ofInt x) (ofInt y) hx.ok hy.ok (by have := hx.len; have := hy.len; unfold big; omega)
 rw [ofInt_z, ofInt_z] at h
 exact h
theorem zr_Gcd {x y : Int} (hx : Zs x) (hy : Zs y) : FnC Tryz.prog 143 [zA x, zA y] (zA (Int.gcd x y)) := by
 have h := c_r01_Gcd (ofInt x) (ofInt y) hx.ok hy.ok (by have := hx.len; have := hy.len; unfold big; omega)
 rw [ofInt_z, ofInt_z] at h
 exact h
theorem zr_Div {x y : Int} (hx : Zs x) (hy : Zs y) (h0 : y ≠ 0) : FnC Tryz.prog 168 [zA x, zA y] (.tup [zA (x / y), zA (x % y), i64 0]) := by
 have h := c_r01_Div (ofInt x) (ofInt y) hx.ok hy.ok (by have := hx.len; unfold big; omega) (by have := hy.len; unfold big; omega) (by rw [ofInt_z]; exact h0)
 rw [ofInt_z, ofInt_z] at h
 exact h
end Go.Lw
namespace Go.Lw
open Go.Proofs
/-- The error of a number; 0: none. -/
def errV (e : Nat) : Value := match e with | 0 => .nilIface | e + 1 => .iface 97 (.int .i64 ((e + 1 : Nat) : Int))
def errA (e : Nat) : AV := .v (errV e)
theorem errV_or (e : Nat) : errV e = .nilIface ∨ ∃ T u, errV e = .iface T u := by cases e; exact .inl rfl; exact .inr ⟨_, _, rfl⟩
theorem isNil_err (e : Nat) : isNil (errV e) = decide (e = 0) := by cases e <;> simp [errV, isNil]
theorem isNil_t {e : Nat} (h : isNil (errV e) = true) : e = 0 := by rw [isNil_err] at h; exact of_decide_eq_true h
theorem isNil_f {e : Nat} (h : isNil (errV e) = false) : e ≠ 0 := by rw [isNil_err] at h; exact of_decide_eq_false h
theorem nNil_t {e : Nat} (h : (!isNil (errV e)) = true) : e ≠ 0 := isNil_f (by cases h' : isNil (errV e) <;> simp_all)
theorem nNil_f {e : Nat} (h : (!isNil (errV e)) = false) : e = 0 := isNil_t (by cases h' : isNil (errV e) <;> simp_all)
theorem c_fraction_one : FnC Tryz.prog 131 [] (zA 1) := by
 refine gF0 Tryz.func131 ?_
 refine gc (c_integer_Of 1 (by omega)) ?_
 refine gE1 ?_
 first | rfl | (simp; done)
theorem c_fraction_Valid (r : Rt) (h : r.ok) : FnC Tryz.prog 69 [r.av] (bl r.valid) := by
 have hn := h.n0
 have hd := h.d0
 refine gF0 Tryz.func69 ?_
 refine gl ?_
 refine glG ?_
 refine gC (fun ht14 => ?_) (fun ht14 => ?_)
 ·have h0 : r.num = [] ∧ r.den = [] := by simpa [icmp] using ht14
  refine gE1 ?_
  unfold Rt.valid; rw [if_pos h0]; rfl
 ·have h0 : ¬ (r.num = [] ∧ r.den = []) := by
   have := ht14
   simp [icmp] at this
   exact fun h => this h.1 h.2
  refine gD ?_
  refine gl ?_
  refine glG ?_
  refine gcG (fun _ => (c_integer_Valid r.n0 hn)) ?_
  refine gcG (fun _ => (c_integer_Valid r.d0 hd)) ?_
  refine gC (fun ht43 => ?_) (fun ht43 => ?_)
  ·have h1 : r.valid = false := valid_no h0 ht43
   refine gE1 ?_
   rw [h1]; rfl
  ·have h1 := valid_yes h0 ht43
   refine gc (c_integer_Gcd r.n0 r.d0 hn hd h.n0l h.d0l) ?_
   refine gc (by apply c_fraction_one) ?_
   refine gc (z_Cmp (Rt.gcd_zs h) zs1) ?_
   refine gE1 ?_
   rw [h1]; rfl
theorem c_fraction_Parts (r : Rt) (h : r.ok) : FnC Tryz.prog 132 [r.av] (.tup [zA r.q.num, zA r.q.den]) := by
 have hl1 : r.num.length ≤ 137438953472 := h.2.2.1
 have hl2 : r.den.length ≤ 137438953472 := h.2.2.2
 refine gF0 Tryz.func132 ?_
 refine gc (c_fraction_Valid r h) ?_
 refine glG ?_
 refine gC (fun ht12 => ?_) (fun ht12 => ?_)
 ·have h0 : ¬ (r.valid = true ∧ r.num ≠ []) := by
   have := ht12
   intro h'
   simp [icmp, h'.1, h'.2] at this
  refine gc c_fraction_one ?_
  refine gR ?_
  exact fin_sub (by rw [Rt.zero h0]; exact Sub.tup (.cons sub_zz (.cons (.refl _) .nil)))
 ·have h0 : r.valid = true ∧ r.num ≠ [] := by
   have := ht12
   cases hv : r.valid
   ·rw [hv] at this; cases this
   ·rw [hv] at this; exact ⟨rfl, by simpa [icmp] using this⟩
  obtain ⟨e1, e2, e3, e4, e5, e6⟩ := Rt.parts h h0.1 h0.2
  refine gs (s_buildMs0 T66 rfl T186 rfl rfl rfl) ?_
  refine gs (s_append (.tmp rfl) rfl rfl (.tmp rfl) T66 rfl T186 rfl rfl (by simp only [List.length_map]; omega) rfl rfl) ?_
  refine gD ?_ (4, 0)
  refine gW ((Wk.freeze (k := 20) rfl).trans <| Wk.of (sl := [(1, some (.ptr 1 0)), (2, some (.ptr 2 0)), (3, some (.ptr 3 0))]) (hp := [(1, some (.box [bl r.neg, ws r.num, ws r.den])), (2, some (.box [bl r.neg, ws r.num])), (3, some (.box [bl false, .v (.slice none 0 0)]))]) (by repeat (first | exact SlW.nil | refine SlW.k ?_)) (.cons rfl (.refl _) (.cons rfl (BlkSub.boxL (.cons (.refl _) (.cons (.of (fz_all (by simp))) .nil)) rfl) (.cons rfl (.refl _) .nil)))) ?_
  refine gs (s_buildMs0 T66 rfl T186 rfl rfl rfl) ?_
  refine gs (s_append (.tmp rfl) rfl rfl (.tmp rfl) T66 rfl T186 rfl rfl (by simp only [List.length_map]; omega) rfl rfl) ?_
  refine gD ?_ (77777, 0)
  refine gW ((Wk.freeze (k := 26) rfl).trans <| Wk.of (sl := [(2, some (.ptr 2 0)), (3, some (.ptr 3 0))]) (hp := [(2, some (.box [bl r.neg, ws r.num])), (3, some (.box [bl false, ws r.den]))]) (by repeat (first | exact SlW.nil | refine SlW.k ?_)) (.cons rfl (.refl _) (.cons rfl (BlkSub.boxL (.cons (.refl _) (.cons (.of (fz_all (by simp))) .nil)) rfl) .nil))) ?_
  refine gE2 ?_
  rw [e1, e2]; exact parts_av e3 e4 e5
theorem c_fraction_form {n d : Int} (hn : Zs n) (hd : Zs d) (h0 : d ≠ 0) : FnC Tryz.prog 191 [zA n, zA d] (qA (Rat.divInt n d)) := by
  refine gF0 Tryz.func191 ?_
  refine gc (z_Sign hn) ?_
  refine gC (fun ht9 => ?_) (fun ht9 => ?_)
  · have e0 : n = 0 := Int.sign_eq_zero_iff_zero.1 (by simpa [icmp] using ht9)
    refine gR ?_
    exact fin_sub1 (by rw [e0, Rat.zero_divInt]; exact sub_q0)
  · have e0 : n ≠ 0 := fun h => by rw [h] at ht9; cases ht9
    refine gc (z_Sign hd) ?_
    refine gJ2 [2, 3, 4] [4] (fun (n1 d1 : Int) => []) (fun n1 d1 => [(2, some (.box (zA n1).cells)), (3, some (.box (zA d1).cells))]) (fun n1 d1 => 0 < d1 ∧ n1 ≠ 0 ∧ Zs n1 ∧ Zs d1 ∧ Rat.divInt n1 d1 = Rat.divInt n d) ?_ ?_
    · intro K1 hK1
      refine gC (fun ht13 => ?_) (fun ht13 => ?_)
      · have e1 : d < 0 := Int.sign_eq_neg_one_iff_neg.1 (by have := Int.sign_trichotomy d; have h9 : d.sign < 0 := by simpa [icmp] using ht13
                                                             omega)
        refine gc (z_Neg hn) ?_
        refine gc (z_Neg hd) ?_
        refine gD ?_
        exact jK2 hK1 (-n) (-d) ⟨by omega, by omega, hn.neg, hd.neg, divInt_neg2 n d⟩
      · have e1 : 0 < d := by
          have h9 : 0 ≤ d.sign := by simpa [icmp] using ht13
          have := Int.sign_nonneg_iff.1 h9
          omega
        exact jK2 hK1 n d ⟨e1, e0, hn, hd, rfl⟩
    · rintro n1 d1 ⟨f1, f2, f3, f4, f5⟩
      refine gc (z_Gcd f3 f4) ?_
      refine gc (z_Sign f3) ?_
      refine gJ1 [2, 3, 4, 5] [3, 4, 5] (fun (n2 : Int) => [(6, some (bl (decide (n1 < 0))))]) (fun n2 => [(2, some (.box (zA n2).cells))]) (fun n2 => n2 = (n1.natAbs : Int)) ?_ ?_
      · intro K2 hK2
        refine gC (fun ht24 => ?_) (fun ht24 => ?_)
        · have e2 : n1 < 0 := Int.sign_eq_neg_one_iff_neg.1 (by have := Int.sign_trichotomy n1; have h9 : n1.sign < 0 := by simpa [icmp] using ht24
                                                                omega)
          refine gc (z_Neg f3) ?_
          exact jK1 hK2 (-n1) (by omega) (hw := Wk.of (.cons rfl (Sub.of (by rw [show icmp .lss n1.sign 0 = true from ht24, decide_eq_true e2]; rfl)) (.k (.k (.k (.k .nil))))) (.cons rfl (.refl _) (.cons rfl (.refl _) (.cons rfl (.refl _) (.cons rfl (.refl _) .nil)))))
        · have e2 : 0 < n1 := by
            have h9 : 0 ≤ n1.sign := by simpa [icmp] using ht24
            have := Int.sign_nonneg_iff.1 h9
            omega
          exact jK1 hK2 n1 (by omega) (hw := Wk.of (.cons rfl (Sub.of (by rw [show icmp .lss n1.sign 0 = false from ht24, decide_eq_false (by omega)]; rfl)) (.k (.k (.k (.k .nil))))) (.cons rfl (.refl _) (.cons rfl (.refl _) (.cons rfl (.refl _) (.cons rfl (.refl _) .nil)))))
      · rintro n2 g1
        have g2 : Zs (Int.gcd n1 d1 : Int) := f3.of_le (by rw [Int.natAbs_natCast]; exact Nat.le_of_dvd (by omega) (Int.gcd_dvd_natAbs_left _ _))
        have g3 : (Int.gcd n1 d1 : Int) ≠ 0 := by have := Int.gcd_pos_of_ne_zero_left d1 f2; omega
        have g4 : Zs n2 := f3.of_le (by omega)
        refine gc (z_Div g4 g2 g3) ?_
        refine gc (z_Div f4 g2 g3) ?_
        refine gE1 ?_
        rw [← f5, ← form_av f1 f2, ← g1]; rfl
theorem c_fraction_From {n d : Int} (hn : Zs n) (hd : Zs d) : FnC Tryz.prog 254 [zA n, zA d] (.tup [qA (Rat.divInt n d), errA (if d = 0 then 8 else 0)]) := by
 refine gF0 Tryz.func254 ?_
 refine gc (z_Sign hd) ?_
 refine gC (fun ht8 => ?_) (fun ht8 => ?_)
 ·have h0 : d = 0 := Int.sign_eq_zero_iff_zero.1 (by simpa [icmp] using ht8)
  refine gR ?_
  exact fin_sub (by rw [if_pos h0, h0, Rat.divInt_zero]; exact Sub.tup (.cons sub_q0 (.cons (.refl _) .nil)))
 ·have h0 : d ≠ 0 := fun h => by rw [h] at ht8; cases ht8
  refine gc (c_fraction_form hn hd h0) ?_
  refine gE2 ?_
  rw [if_neg h0]; rfl
theorem c_fraction_Of (n : Int) (h : -9223372036854775808 ≤ n ∧ n ≤ 9223372036854775807) : FnC Tryz.prog 137 [i64 n] (qA n) := by
 have hz : Zs n := ⟨2, by omega, by unfold Lz; simp only [Nat.reducePow]; omega⟩
 refine gF0 Tryz.func137 ?_
 refine gc (c_integer_Of n h) ?_
 refine gc c_fraction_one ?_
 refine gc (c_fraction_form hz zs1 (by omega)) ?_
 refine gE1 ?_
 exact congrArg qA (Rat.num_divInt_den (n : Rat))
theorem c_fraction_Neg (a : Rt) (ha : a.ok) : FnC Tryz.prog 161 [a.av] (qA (-a.q)) := by
 have za := ha.qs
 refine gF0 Tryz.func161 ?_
 refine gc (c_fraction_Parts a ha) ?_
 refine gc (z_Neg za.num) ?_
 refine gc (c_fraction_form za.num.neg za.den (by have := a.q.den_nz; omega)) ?_
 refine gD ?_
 refine gE1 ?_
 rw [rat_neg]; rfl
theorem c_fraction_Sign (a : Rt) (ha : a.ok) : FnC Tryz.prog 70 [a.av] (i64 (sgnQ a.q)) := by
 refine gF0 Tryz.func70 ?_
 refine gc (c_fraction_Parts a ha) ?_
 refine gc (z_Sign ha.qs.num) ?_
 refine gE1 ?_
 rw [rat_sign]
theorem c_fraction_Cmp (a b : Rt) (ha : a.ok) (hb : b.ok) : FnC Tryz.prog 182 [a.av, b.av] (i64 (sgnQ (a.q - b.q))) := by
 have za := ha.qs
 have zb := hb.qs
 have m1 := za.mul zb
 have m2 := zb.mul za
 refine gF0 Tryz.func182 ?_
 refine gc (c_fraction_Parts a ha) ?_
 refine gc (c_fraction_Parts b hb) ?_
 refine gc (z_Mul za.num zb.den) ?_
 refine gc (z_Mul zb.num za.den) ?_
 refine gc (z_Cmp m1.1 m2.1) ?_
 refine gD ?_
 refine gE1 ?_
 rw [rat_cmp]
theorem c_fraction_Add (a b : Rt) (ha : a.ok) (hb : b.ok) : FnC Tryz.prog 156 [a.av, b.av] (qA (a.q + b.q)) := by
 have za := ha.qs
 have zb := hb.qs
 have m1 := za.mul zb
 have m2 := zb.mul za
 refine gF0 Tryz.func156 ?_
 refine gc (c_fraction_Parts a ha) ?_
 refine gc (c_fraction_Parts b hb) ?_
 refine gc (z_Mul za.num zb.den) ?_
 refine gc (z_Mul zb.num za.den) ?_
 refine gc (z_Add m1.1 m2.1) ?_
 refine gc (z_Mul za.den zb.den) ?_
 refine gc (c_fraction_form (za.cross zb) m1.2.2.1 (Int.mul_ne_zero (by have := a.q.den_nz; omega) (by have := b.q.den_nz; omega))) ?_
 refine gD ?_
 refine gE1 ?_
 rw [rat_add]; rfl
theorem c_fraction_Sub (a b : Rt) (ha : a.ok) (hb : b.ok) : FnC Tryz.prog 209 [a.av, b.av] (qA (a.q - b.q)) := by
 refine gF0 Tryz.func209 ?_
 refine gc (c_fraction_Neg b hb) ?_
 refine gc (c_fraction_Add a (rt (-b.q)) ha hb.qs.neg.ok) ?_
 refine gD ?_
 refine gE1 ?_
 rw [rt_q, ← Rat.sub_eq_add_neg]; rfl
theorem c_fraction_Mul (a b : Rt) (ha : a.ok) (hb : b.ok) : FnC Tryz.prog 207 [a.av, b.av] (qA (a.q * b.q)) := by
 have za := ha.qs
 have zb := hb.qs
 have m1 := za.mul zb
 refine gF0 Tryz.func207 ?_
 refine gc (c_fraction_Parts a ha) ?_
 refine gc (c_fraction_Parts b hb) ?_
 refine gc (z_Mul za.num zb.num) ?_
 refine gc (z_Mul za.den zb.den) ?_
 refine gc (c_fraction_form m1.2.1 m1.2.2.1 (Int.mul_ne_zero (by have := a.q.den_nz; omega) (by have := b.q.den_nz; omega))) ?_
 refine gD ?_
 refine gE1 ?_
 rw [rat_mul]; rfl
theorem c_fraction_Div (a b : Rt) (ha : a.ok) (hb : b.ok) : FnC Tryz.prog 240 [a.av, b.av] (.tup [qA (a.q / b.q), errA (if b.q = 0 then 8 else 0)]) := by
 have za := ha.qs
 have zb := hb.qs
 have m1 := za.mul zb
 refine gF0 Tryz.func240 ?_
 refine gc (c_fraction_Parts a ha) ?_
 refine gc (c_fraction_Parts b hb) ?_
 refine gc (z_Mul za.num zb.den) ?_
 refine gc (z_Mul za.den zb.num) ?_
 refine gc (c_fraction_From m1.1 m1.2.2.2) ?_
 refine gD ?_
 refine gE2 ?_
 have e1 : ((a.q.den : Int) * b.q.num = 0) = (b.q = 0) := by
  apply propext
  rw [← Rat.num_eq_zero, Int.mul_eq_zero]
  exact ⟨fun h => h.resolve_left (by have := a.q.den_nz; omega), .inr⟩
 simp only [rat_div, e1]
 rfl
end Go.Lw
namespace Go.Lw
open Go.Proofs
theorem c_r02_plain (m : List Nat) (hm : Ws m) (hl : m.length ≤ lim) : FnC Tryz.prog 141 [ws m] (bl (!decide (m = []) && (⟨false, m⟩ : Wh).valid)) := by
 refine gF0 Tryz.func141 ?_
 refine gl ?_
 refine glG ?_
 refine gaG (fun h => (i64_sub1 (by simp [icmp] at h; omega) (by unfold lim at hl; unfold maxL; exact Nat.le_trans hl (by omega)))) ?_
 refine giG (fun h => (getw (i := m.length - 1) (by simp [icmp] at h; omega))) ?_
 refine gE1 ?_
 by_cases h : m = []
 ·subst h; rfl
 ·have h1 : 0 < m.length := List.length_pos_iff.2 h
  have h2 : icmp .gtr (m.length : Int) 0 = true := by simp [icmp, h1]
  simp only [bl, h, decide_false, Bool.not_false, Bool.true_and, Wh.valid, List.getLast?_eq_getElem?, word_get (show m.length - 1 < m.length by omega), icmp]
  congr 2
  generalize wordW m _ = x
  rw [Bool.eq_iff_iff]; simp [h1]
theorem c_r02_one : FnC Tryz.prog 106 [] (zA 1) := by
 refine gF0 Tryz.func106 ?_
 refine gc (c_r01_Of 1 (by omega)) ?_
 refine gE1 ?_
 first | rfl | (simp; done)
theorem c_r02_Valid (r : Rt) (h : r.ok) : FnC Tryz.prog 81 [r.av] (bl r.valid) := by
 have hr := h
 have hn := h.n0
 have hd := h.d0
 have hl1 : r.num.length ≤ 137438953472 := h.2.2.1
 have hl2 : r.den.length ≤ 137438953472 := h.2.2.2
 refine gF0 Tryz.func81 ?_
 refine gl ?_
 refine glG ?_
 refine gC (fun ht12 => ?_) (fun ht12 => ?_)
 ·have h0 : r.num = [] ∧ r.den = [] := by simpa [icmp] using ht12
  refine gE1 ?_
  unfold Rt.valid; rw [if_pos h0]; rfl
 ·have h0 : ¬ (r.num = [] ∧ r.den = []) := by
   have := ht12
   simp [icmp] at this
   exact fun h => this h.1 h.2
  refine gc (c_r02_plain r.num hr.1 hr.2.2.1) ?_
  refine gcG (fun _ => (c_r02_plain r.den hr.2.1 hr.2.2.2)) ?_
  refine gcG (fun _ => (c_r01_Gcd r.n0 r.d0 hn hd (by show r.num.length + r.den.length < _; unfold big; omega))) ?_
  refine gcG (fun _ => c_r02_one) ?_
  refine gcG (fun _ => (zr_Cmp (Rt.gcd_zs hr) zs1)) ?_
  refine gE1 ?_
  exact congrArg bl (valid_ref h0).symm
theorem c_r02_Parts (r : Rt) (h : r.ok) : FnC Tryz.prog 52 [r.av] (.tup [zA r.q.num, zA r.q.den]) := by
 have hl1 : r.num.length ≤ 137438953472 := h.2.2.1
 have hl2 : r.den.length ≤ 137438953472 := h.2.2.2
 refine gF0 Tryz.func52 ?_
 refine gc (c_r02_Valid r h) ?_
 refine glG ?_
 refine gC (fun ht12 => ?_) (fun ht12 => ?_)
 ·have h0 : ¬ (r.valid = true ∧ r.num ≠ []) := by
   have := ht12
   intro h'
   simp [icmp, h'.1, h'.2] at this
  refine gc c_r02_one ?_
  refine gR ?_
  exact fin_sub (by rw [Rt.zero h0]; exact Sub.tup (.cons sub_zz (.cons (.refl _) .nil)))
 ·have h0 : r.valid = true ∧ r.num ≠ [] := by
   have := ht12
   cases hv : r.valid
   ·rw [hv] at this; cases this
   ·rw [hv] at this; exact ⟨rfl, by simpa [icmp] using this⟩
  obtain ⟨e1, e2, e3, e4, e5, e6⟩ := Rt.parts h h0.1 h0.2
  refine gD ?_
  refine gE2 ?_
  rw [e1, e2]; exact parts_av e3 e4 e5
theorem c_r02_form {n d : Int} (hn : Zs n) (hd : Zs d) (h0 : d ≠ 0) : FnC Tryz.prog 112 [zA n, zA d] (qA (Rat.divInt n d)) := by
  refine gF0 Tryz.func112 ?_
  refine gc (zr_Sign hn) ?_
  refine gC (fun ht14 => ?_) (fun ht14 => ?_)
  · have e0 : n = 0 := Int.sign_eq_zero_iff_zero.1 (by simpa [icmp] using ht14)
    refine gR ?_
    exact fin_sub1 (by rw [e0, Rat.zero_divInt]; exact sub_q0)
  · have e0 : n ≠ 0 := fun h => by rw [h] at ht14; cases ht14
    refine gc (zr_Sign hd) ?_
    refine gJ2 [2, 3, 4] [4] (fun (n1 d1 : Int) => []) (fun n1 d1 => [(2, some (.box (zA n1).cells)), (3, some (.box (zA d1).cells))]) (fun n1 d1 => 0 < d1 ∧ n1 ≠ 0 ∧ Zs n1 ∧ Zs d1 ∧ Rat.divInt n1 d1 = Rat.divInt n d) ?_ ?_
    · intro K1 hK1
      refine gC (fun ht18 => ?_) (fun ht18 => ?_)
      · have e1 : d < 0 := Int.sign_eq_neg_one_iff_neg.1 (by have := Int.sign_trichotomy d; have h9 : d.sign < 0 := by simpa [icmp] using ht18
                                                             omega)
        refine gc (zr_Neg hn) ?_
        refine gc (zr_Neg hd) ?_
        refine gD ?_
        exact jK2 hK1 (-n) (-d) ⟨by omega, by omega, hn.neg, hd.neg, divInt_neg2 n d⟩
      · have e1 : 0 < d := by
          have h9 : 0 ≤ d.sign := by simpa [icmp] using ht18
          have := Int.sign_nonneg_iff.1 h9
          omega
        exact jK2 hK1 n d ⟨e1, e0, hn, hd, rfl⟩
    · rintro n1 d1 ⟨f1, f2, f3, f4, f5⟩
      have g2 : Zs (Int.gcd n1 d1 : Int) := f3.of_le (by rw [Int.natAbs_natCast]; exact Nat.le_of_dvd (by omega) (Int.gcd_dvd_natAbs_left _ _))
      have g3 : (Int.gcd n1 d1 : Int) ≠ 0 := by have := Int.gcd_pos_of_ne_zero_left d1 f2; omega
      refine gc (zr_Gcd f3 f4) ?_
      refine gc (zr_Div f3 g2 g3) ?_
      refine gc (zr_Div f4 g2 g3) ?_
      refine gE1 ?_
      rw [← f5, ← form_av2 f1 f2]; rfl
theorem c_r02_From {n d : Int} (hn : Zs n) (hd : Zs d) : FnC Tryz.prog 206 [zA n, zA d] (.tup [qA (Rat.divInt n d), i64 (if d = 0 then 8 else 0)]) := by
 refine gF0 Tryz.func206 ?_
 refine gc (zr_Sign hd) ?_
 refine gC (fun ht8 => ?_) (fun ht8 => ?_)
 ·have h0 : d = 0 := Int.sign_eq_zero_iff_zero.1 (by simpa [icmp] using ht8)
  refine gR ?_
  exact fin_sub (by rw [if_pos h0, h0, Rat.divInt_zero]; exact Sub.tup (.cons sub_q0 (.cons (.refl _) .nil)))
 ·have h0 : d ≠ 0 := fun h => by rw [h] at ht8; cases ht8
  refine gc (c_r02_form hn hd h0) ?_
  refine gE2 ?_
  rw [if_neg h0]; rfl
theorem c_r02_Of (n : Int) (h : -9223372036854775808 ≤ n ∧ n ≤ 9223372036854775807) : FnC Tryz.prog 56 [i64 n] (qA n) := by
 have hz : Zs n := ⟨2, by omega, by unfold Lz; simp only [Nat.reducePow]; omega⟩
 refine gF0 Tryz.func56 ?_
 refine gc (c_r01_Of n h) ?_
 refine gc c_r02_one ?_
 refine gc (c_r02_form hz zs1 (by omega)) ?_
 refine gE1 ?_
 exact congrArg qA (Rat.num_divInt_den (n : Rat))
theorem c_r02_Neg (a : Rt) (ha : a.ok) : FnC Tryz.prog 154 [a.av] (qA (-a.q)) := by
 have za := ha.qs
 refine gF0 Tryz.func154 ?_
 refine gc (c_r02_Parts a ha) ?_
 refine gc (zr_Neg za.num) ?_
 refine gc (c_r02_form za.num.neg za.den (by have := a.q.den_nz; omega)) ?_
 refine gD ?_
 refine gE1 ?_
 rw [rat_neg]; rfl
theorem c_r02_Sign (a : Rt) (ha : a.ok) : FnC Tryz.prog 21 [a.av] (i64 (sgnQ a.q)) := by
 refine gF0 Tryz.func21 ?_
 refine gc (c_r02_Parts a ha) ?_
 refine gc (zr_Sign ha.qs.num) ?_
 refine gE1 ?_
 rw [rat_sign]
theorem c_r02_Add (a b : Rt) (ha : a.ok) (hb : b.ok) : FnC Tryz.prog 55 [a.av, b.av] (qA (a.q + b.q)) := by
 have za := ha.qs
 have zb := hb.qs
 have m1 := za.mul zb
 have m2 := zb.mul za
 refine gF0 Tryz.func55 ?_
 refine gc (c_r02_Parts a ha) ?_
 refine gc (c_r02_Parts b hb) ?_
 refine gc (zr_Mul za.num zb.den) ?_
 refine gc (zr_Mul zb.num za.den) ?_
 refine gc (zr_Add m1.1 m2.1) ?_
 refine gc (zr_Mul za.den zb.den) ?_
 refine gc (c_r02_form (za.cross zb) m1.2.2.1 (Int.mul_ne_zero (by have := a.q.den_nz; omega) (by have := b.q.den_nz; omega))) ?_
 refine gD ?_
 refine gE1 ?_
 rw [rat_add]; rfl
theorem c_r02_Sub (a b : Rt) (ha : a.ok) (hb : b.ok) : FnC Tryz.prog 92 [a.av, b.av] (qA (a.q - b.q)) := by
 refine gF0 Tryz.func92 ?_
 refine gc (c_r02_Neg b hb) ?_
 refine gc (c_r02_Add a (rt (-b.q)) ha hb.qs.neg.ok) ?_
 refine gD ?_
 refine gE1 ?_
 rw [rt_q, ← Rat.sub_eq_add_neg]; rfl
theorem c_r02_Mul (a b : Rt) (ha : a.ok) (hb : b.ok) : FnC Tryz.prog 90 [a.av, b.av] (qA (a.q * b.q)) := by
 have za := ha.qs
 have zb := hb.qs
 have m1 := za.mul zb
 refine gF0 Tryz.func90 ?_
 refine gc (c_r02_Parts a ha) ?_
 refine gc (c_r02_Parts b hb) ?_
 refine gc (zr_Mul za.num zb.num) ?_
 refine gc (zr_Mul za.den zb.den) ?_
 refine gc (c_r02_form m1.2.1 m1.2.2.1 (Int.mul_ne_zero (by have := a.q.den_nz; omega) (by have := b.q.den_nz; omega))) ?_
 refine gD ?_
 refine gE1 ?_
 rw [rat_mul]; rfl
theorem c_r02_Div (a b : Rt) (ha : a.ok) (hb : b.ok) : FnC Tryz.prog 153 [a.av, b.av] (.tup [qA (a.q / b.q), i64 (if b.q = 0 then 8 else 0)]) := by
 have za := ha.qs
 have zb := hb.qs
 have m1 := za.mul zb
 refine gF0 Tryz.func153 ?_
 refine gc (c_r02_Parts a ha) ?_
 refine gc (c_r02_Parts b hb) ?_
 refine gc (zr_Mul za.num zb.den) ?_
 refine gc (zr_Mul za.den zb.num) ?_
 refine gc (c_r02_From m1.1 m1.2.2.2) ?_
 refine gD ?_
 refine gE2 ?_
 have e1 : ((a.q.den : Int) * b.q.num = 0) = (b.q = 0) := by
  apply propext
  rw [← Rat.num_eq_zero, Int.mul_eq_zero]
  exact ⟨fun h => h.resolve_left (by have := a.q.den_nz; omega), .inr⟩
 simp only [rat_div, e1]
 rfl
theorem c_r02_Cmp (a b : Rt) (ha : a.ok) (hb : b.ok) (hs : Qs (a.q - b.q)) : FnC Tryz.prog 177 [a.av, b.av] (i64 (sgnQ (a.q - b.q))) := by
 refine gF0 Tryz.func177 ?_
 refine gc (c_r02_Sub a b ha hb) ?_
 refine gc (c_r02_Sign (rt (a.q - b.q)) hs.ok) ?_
 refine gE1 ?_
 rw [rt_q]
end Go.Lw
namespace Go.Lw
open Go.Proofs
theorem c_tower_level {α : Type} (f : α → AV) (l : List α) (hl : l.length ≤ 281474976710656) : FnC Tryz.prog 157 [.lst 3 (l.map f)] (i64 (lvl l.length)) := by
 refine gF0 Tryz.func157 ?_
 refine gL1 [0] [] (fun (k : Nat) => [(3, some (i64 k))]) (fun _ => []) (fun k => k ≤ 48 ∧ ∀ j, j < k → 2 ^ j < l.length) (fun k => 48 - k) 0 ⟨by omega, fun j h => by omega⟩ ?_
 rintro k ⟨hk, hj⟩ K1 hK1
 refine gs (s_shlW (.const _) (.tmp rfl) (by omega) (i64_shl1 (by omega)) rfl) ?_
 refine gl ?_
 refine gC (fun ht8 => ?_) (fun ht8 => ?_)
 ·have h1 : 2 ^ k < l.length := by have := ht8; simp only [icmp, decide_eq_true_eq] at this; omega
  have h2 : k < 48 := by
   rcases Nat.lt_or_ge k 48 with h | h
   ·exact h
   ·have : 2 ^ 48 ≤ 2 ^ k := pow_le2 h
    have : (2 : Nat) ^ 48 = 281474976710656 := by decide
    omega
  refine ga (i64_addI (by omega)) ?_
  exact gK1 hK1 (k + 1) ⟨by omega, fun j h => by rcases Nat.lt_or_ge j k with h3 | h3; exact hj j h3; (have : j = k := by omega); subst this; exact h1⟩
 ·have h1 : l.length ≤ 2 ^ k := by have := ht8; simp only [icmp, decide_eq_false_iff_not] at this; omega
  have h2 := clog_eq hj h1
  refine gs (s_shlW (.const _) (.tmp rfl) (by omega) (i64_shl1 (by omega)) rfl) ?_
  refine gl ?_
  refine gC (fun ht15 => ?_) (fun ht15 => ?_)
  ·have h3 : 2 ^ k ≠ l.length := by have := ht15; simp only [icmp, bne_iff_ne, ne_eq] at this; omega
   refine gE1 ?_
   unfold lvl; rw [h2, if_neg h3]; rfl
  ·have h3 : 2 ^ k = l.length := by have := ht15; simp only [icmp, bne_eq_false_iff_eq] at this; omega
   refine gE1 ?_
   unfold lvl; rw [h2, if_pos h3]
theorem c_tower_number (ts : List (List Rt)) (a : List Rt) (ha : ∀ r ∈ a, r.ok) (hl : a.length ≤ 281474976710656) (ht : ts.length ≤ 281474976710656) : FnC Tryz.prog 97 [towR ts, nR a] (errA (numE ts.length a)) := by
  refine gF0 Tryz.func97 ?_
  refine gl ?_
  refine gJ0 [1, 4] [] [] [] (¬ (a ≠ [] ∧ (lvl a.length < 0 ∨ (ts.length : Int) < lvl a.length))) ?_ ?_
  · intro K1 hK1
    refine gC (fun ht10 => ?_) (fun ht10 => ?_)
    · have h0 : a ≠ [] := fun h => by rw [h] at ht10; simp [icmp] at ht10
      refine gc (c_tower_level Rt.av a hl) ?_
      refine glG ?_
      refine gC (fun ht21 => ?_) (fun ht21 => ?_)
      · have h1 : lvl a.length < 0 ∨ (ts.length : Int) < lvl a.length := by
          have h9 := ht21
          by_cases h : lvl a.length < 0
          · exact .inl h
          · simp only [icmp, decide_eq_false h, cond_false, decide_eq_true_eq] at h9; exact .inr h9
        refine gE1 ?_
        unfold numE; rw [if_pos ⟨h0, h1⟩]; rfl
      · have h1 : ¬ (lvl a.length < 0 ∨ (ts.length : Int) < lvl a.length) := by
          have h9 := ht21
          by_cases h : lvl a.length < 0
          · simp only [icmp, decide_eq_true h, cond_true] at h9; cases h9
          · simp only [icmp, decide_eq_false h, cond_false, decide_eq_false_iff_not] at h9
            exact fun h' => h'.elim h h9
        exact jK0 hK1 (fun h => h1 h.2)
    · have h0 : a = [] := by
        cases a with
        | nil => rfl
        | cons c l => simp [icmp] at ht10
      exact jK0 hK1 (fun h => h.1 h0)
  · rintro hn
    refine gl ?_
    refine gL1 [23, 24] [] (fun (i : Nat) => [(25, some (i64 i))]) (fun _ => []) (fun i => i ≤ a.length ∧ (a.take i).all Rt.valid = true) (fun i => a.length - i) 0 ⟨Nat.zero_le _, by simp⟩ ?_
    rintro i ⟨hi, hv⟩ K2 hK2
    refine gC (fun ht26 => ?_) (fun ht26 => ?_)
    · have hin : i < a.length := by simpa [icmp] using ht26
      obtain ⟨r, hr⟩ := getx hin
      have hrok := ha r (List.mem_of_getElem? hr)
      refine gi (getmap hr) ?_
      refine gc (c_fraction_Valid r hrok) ?_
      refine gC (fun ht31 => ?_) (fun ht31 => ?_)
      · have hrv : r.valid = false := by simpa using ht31
        refine gE1 ?_
        unfold numE
        rw [if_neg hn, if_neg]
        · rfl
        · rw [List.all_eq_true]
          intro h
          rw [h r (List.mem_of_getElem? hr)] at hrv; cases hrv
      · have hrv : r.valid = true := by simpa using ht31
        refine ga (i64_add1 (by unfold maxL; omega)) ?_
        exact gK1 hK2 (i + 1) ⟨by omega, by rw [take_succ_get hr, List.all_append, hv]; simp [hrv]⟩
    · have hin : i = a.length := by have : a.length ≤ i := by simpa [icmp] using ht26
                                    omega
      subst hin
      rw [List.take_length] at hv
      refine gE1 ?_
      unfold numE; rw [if_neg hn, if_pos hv]; rfl
theorem c_tower_zero (a : List Rat) (ha : ∀ q ∈ a, Qs q) (hl : a.length ≤ 281474976710656) : FnC Tryz.prog 244 [nA a] (bl (zeroL a)) := by
  refine gF0 Tryz.func244 ?_
  refine gl ?_
  refine gL1 [5, 6] [] (fun (i : Nat) => [(7, some (i64 i))]) (fun _ => []) (fun i => i ≤ a.length ∧ zeroL (a.take i) = true) (fun i => a.length - i) 0 ⟨Nat.zero_le _, by simp [zeroL]⟩ ?_
  rintro i ⟨hi, hv⟩ K1 hK1
  refine gC (fun ht8 => ?_) (fun ht8 => ?_)
  · have hin : i < a.length := by simpa [icmp] using ht8
    obtain ⟨q, hq⟩ := getx hin
    have hqs := ha q (List.mem_of_getElem? hq)
    refine gi (getmap hq) ?_
    refine gc (c_fraction_Sign (rt q) hqs.ok) ?_
    refine gC (fun ht13 => ?_) (fun ht13 => ?_)
    · have h0 : q ≠ 0 := by
        intro h
        have h9 := ht13
        rw [rt_q, h] at h9
        cases h9
      refine gE1 ?_
      have : zeroL a = false := by
        rw [Bool.eq_false_iff]
        intro h
        exact h0 (by simpa using List.all_eq_true.1 h q (List.mem_of_getElem? hq))
      rw [this]; rfl
    · have h0 : q = 0 := by
        have h9 : sgnQ q = 0 := by have := ht13; rw [rt_q] at this; simpa [icmp] using this
        exact sgnQ_zero h9
      refine ga (i64_add1 (by unfold maxL; omega)) ?_
      exact gK1 hK1 (i + 1) ⟨by omega, by rw [take_succ_get hq]; simp only [zeroL, List.all_append, Bool.and_eq_true]; exact ⟨hv, by simp [h0]⟩⟩
  · have hin : i = a.length := by have : a.length ≤ i := by simpa [icmp] using ht8
                                  omega
    subst hin
    rw [List.take_length] at hv
    refine gE1 ?_
    rw [hv]; rfl
theorem c_tower_empty (a : List Rat) (hl : a.length ≤ 281474976710656) : FnC Tryz.prog 160 [nA a] (bl (zeroL a)) := by
  refine gF0 Tryz.func160 ?_
  refine gl ?_
  refine gL1 [5, 6] [] (fun (i : Nat) => [(7, some (i64 i))]) (fun _ => []) (fun i => i ≤ a.length ∧ zeroL (a.take i) = true) (fun i => a.length - i) 0 ⟨Nat.zero_le _, by simp [zeroL]⟩ ?_
  rintro i ⟨hi, hv⟩ K1 hK1
  refine gC (fun ht8 => ?_) (fun ht8 => ?_)
  · have hin : i < a.length := by simpa [icmp] using ht8
    obtain ⟨q, hq⟩ := getx hin
    refine gi (getmap hq) ?_
    refine glG ?_
    refine glG ?_
    refine gC (fun ht24 => ?_) (fun ht24 => ?_)
    · have h0 : q ≠ 0 := empty_no ht24
      refine gE1 ?_
      have : zeroL a = false := by
        rw [Bool.eq_false_iff]
        intro h
        exact h0 (by simpa using List.all_eq_true.1 h q (List.mem_of_getElem? hq))
      rw [this]; rfl
    · have h0 : q = 0 := empty_yes ht24
      refine ga (i64_add1 (by unfold maxL; omega)) ?_
      exact gK1 hK1 (i + 1) ⟨by omega, by rw [take_succ_get hq]; simp only [zeroL, List.all_append, Bool.and_eq_true]; exact ⟨hv, by simp [h0]⟩⟩
  · have hin : i = a.length := by have : a.length ≤ i := by simpa [icmp] using ht8
                                  omega
    subst hin
    rw [List.take_length] at hv
    refine gE1 ?_
    rw [hv]; rfl
theorem c_tower_copied (a : List Rat) (ha : ∀ q ∈ a, Qs q) (hl : a.length ≤ 1099511627776) : FnC Tryz.prog 159 [nA a] (nA a) := by
  refine gF0 Tryz.func159 ?_
  refine gl ?_
  refine gW (Wk.virt 900 3 rfl) ?_
  refine gL1 [6, 7] [] (fun (i : Nat) => [(3, some (.ms 900 3 0 i)), (8, some (i64 i))]) (fun i => [(900, some (.row 3 ((a.take i).map qA)))]) (fun i => i ≤ a.length) (fun i => a.length - i) 0 (Nat.zero_le _) ?_
  rintro i hi K1 hK1
  refine gC (fun ht9 => ?_) (fun ht9 => ?_) (st2 := (7, 0))
  · have hin : i < a.length := by simpa [icmp] using ht9
    obtain ⟨q, hq⟩ := getx hin
    have hqs := (ha q (List.mem_of_getElem? hq)).ok
    have hl1 : (rt q).num.length ≤ 137438953472 := hqs.2.2.1
    have hl2 : (rt q).den.length ≤ 137438953472 := hqs.2.2.2
    refine gi (getmap hq) ?_
    refine gs (s_buildMs0 T66 rfl T186 rfl rfl rfl) ?_
    refine gs (s_appendF (.tmp rfl) rfl rfl (.tmp rfl) T66 rfl T186 rfl rfl (by simp only [List.length_map]; omega) rfl rfl) ?_
    refine gs (s_buildMs0 T66 rfl T186 rfl rfl rfl) ?_
    refine gs (s_appendF (.tmp rfl) rfl rfl (.tmp rfl) T66 rfl T186 rfl rfl (by simp only [List.length_map]; omega) rfl rfl) ?_
    refine gs (s_append (.tmp rfl) rfl (by simp; omega) (.tmp rfl) T60 rfl T68 rfl rfl (by simp; omega) rfl rfl) ?_
    refine gD ?_ (6, 0)
    refine gW (Wk.of (sl := [(3, some (.ms 25 3 0 (i + 1))), (6, some (nA a)), (7, some (i64 a.length)), (8, some (i64 i))]) (hp := [(25, some (.row 3 ((a.take (i + 1)).map qA)))]) (by repeat (first | exact SlW.nil | refine SlW.k ?_)) (.cons rfl (BlkSub.of (by rw [take_succ_get hq, List.map_append]; rfl)) .nil)) ?_ (6, 0)
    refine gW (Wk.rekey (k := 25) (d := 900) rfl rfl) ?_
    refine ga (i64_add1 (by unfold maxL; omega)) ?_
    exact gK1 hK1 (i + 1) hin
  · have hin : i = a.length := by have : a.length ≤ i := by simpa [icmp] using ht9
                                  omega
    subst hin
    refine gW ((Wk.freeze (k := 900) rfl).trans <| Wk.of (sl := [(3, some (nA a))]) (hp := []) (.cons rfl (Sub.of (by rw [fz_all (by simp), List.take_length]; rfl)) .nil) .nil) ?_
    refine gE1 ?_
    rfl
end Go.Lw
namespace Go.Lw
open Go.Proofs
theorem c_tower_Short {n : Nat} (a : List Rat) (hn : n ≤ 5) (ha : Nl n a) (hs : ∀ q ∈ a, Qs q) : FnC Tryz.prog 100 [nA a] (nA (sh n (dec n a))) := by
 have hl := ha.len5 hn
 rw [← shortL_sh ha hn]
 refine gF0 Tryz.func100 ?_
 refine gc (c_tower_level qA a (by omega)) ?_
 refine gl ?_
 refine gC (fun ht17 => ?_) (fun ht17 => ?_) (st1 := (3, 0))
 ·exact absurd ht17 (by rcases ha with rfl | ⟨j, hj, h⟩; (simp [icmp]); (rw [h, lvl_pow]; simp [icmp]; omega))
 ·refine gl ?_
  refine gL1 [0] [] (fun (m : Nat) => [(4, some (i64 m))]) (fun _ => []) (fun m => ShOk a m) (fun m => m) a.length (sh_init (ha.mono hn)) ?_
  rintro m hm K1 hK1
  refine gs (s_guard rfl rfl rfl (fun h => s_quoW (.opt rfl (o1 h)) (.const _) (by omega) (i64_half (by have := hm.le; omega)) rfl)) ?_
  refine gs (s_guard rfl rfl rfl (fun h => s_sliceLst (.opt rfl (o1 h)) (.some _ (.opt rfl (o1 h)) (by omega)) (.some _ (.opt rfl (o1 h)) (by omega)) T60 rfl T68 rfl (by omega) (by have := hm.le; simp; omega) rfl)) ?_
  refine gcG (fun _ => (by have h9 := c_tower_empty ((a.drop (m / 2)).take (m - m / 2)) (by simp; omega); rw [← nA_cut] at h9; exact h9)) ?_
  refine gC (fun ht31 => ?_) (fun ht31 => ?_)
  ·have h1 : 1 < m ∧ zeroL ((a.drop (m / 2)).take (m - m / 2)) = true := by
    have h9 := ht31
    by_cases h : (m : Int) > 1
    ·simp only [icmp, decide_eq_true h, cond_true] at h9; exact ⟨by omega, h9⟩
    ·simp only [icmp, decide_eq_false h, cond_false] at h9; cases h9
   refine gs (s_quoW (.tmp rfl) (.const _) (by omega) (i64_half (by have := hm.le; omega)) rfl) ?_
   exact gK1 hK1 (m / 2) (sh_step hm h1.1 h1.2)
  ·have h1 : 1 < m → zeroL ((a.drop (m / 2)).take (m - m / 2)) = false := by
    intro h
    have h9 := ht31
    simp only [icmp, decide_eq_true (show (m : Int) > 1 by omega), cond_true] at h9
    exact h9
   refine gs (s_guard rfl rfl rfl (fun h => s_sliceLst (.opt rfl (o1 h)) (.none _) (.some _ (.const _) (by omega)) T60 rfl T68 rfl (by omega) (by have h8 : (m : Int) = 1 := (by simpa [icmp] using h); have := hm.le; simp only [List.length_map]; omega) rfl)) ?_
   refine gcG (fun _ => (by have h9 := c_tower_empty ((a.drop 0).take 1) (by simp; omega); rw [← nA_cut] at h9; exact h9)) ?_
   refine gC (fun ht40 => ?_) (fun ht40 => ?_)
   ·have h2 : m = 1 ∧ zeroL (a.take 1) = true := by
     have h9 := ht40
     by_cases h : m = 1
     ·rw [h] at h9; exact ⟨h, h9⟩
     ·rw [show icmp .eql (m : Int) 1 = false by simp [icmp]; omega] at h9; cases h9
    obtain ⟨rfl, h3⟩ := h2
    refine gR ?_
    exact fin_sub1 (by rw [sh_end1 hm h3]; exact Sub.nil _ _ _)
   ·have h2 : m = 1 → zeroL (a.take 1) = false := by
     intro h
     have h9 := ht40
     rw [h] at h9; exact h9
    have h3 := sh_end2 hm h1 h2
    refine gs (s_sliceLst (.tmp rfl) (.none _) (.some _ (.tmp rfl) (by omega)) T60 rfl T68 rfl (by omega) (by have := hm.le; simp; omega) rfl) ?_
    refine gc (by have h9 := c_tower_copied ((a.drop 0).take m) (fun q hq => hs q (List.mem_of_mem_drop (List.mem_of_mem_take hq))) (by simp; omega); have h8 := h9; rw [← nA_cut] at h9; exact h9) ?_
    refine gE1 ?_
    rw [h3]
    simp [nA, List.map_take]
theorem c_tower_wideO (d : Nat) (hd : Nat.blt d 1000 = true) (a : List Rat) (n : Nat) (hl : a.length ≤ n) (hn : n ≤ 1099511627776) :
  Con Tryz.prog 162 [nA a, i64 n] [] (.ms d 3 0 n) [(d, some (.row 3 ((wideL a n).map qA)))] := by
 refine gF Tryz.func162 (fun k z h => by cases h) ?_
 refine gs (s_make (.tmp rfl) T60 rfl T68 rfl rfl (by omega) (by dsimp only; omega) rfl) ?_
 refine gs (s_copy (.tmp rfl) rfl (by simp) (.tmp rfl) T60 rfl T68 rfl rfl (by simp; omega) rfl) ?_ (3, 0)
 refine gW (Wk.of (sl := [(5, some (.ms 7 3 0 n))]) (hp := [(7, some (.row 3 ((wideL a n).map qA)))]) (.cons rfl (Sub.of (by simp)) .nil) (.cons rfl (wide_row a n hl) .nil)) ?_
 refine gR ?_
 exact Fin.own1 rfl hd rfl
theorem c_tower_wide (a : List Rat) (n : Nat) (hl : a.length ≤ n) (hn : n ≤ 1099511627776) : FnC Tryz.prog 162 [nA a, i64 n] (nA (wideL a n)) := by
 have h := Con.freeze (by rw [List.length_map, len_wide hl]; omega) (c_tower_wideO 0 rfl a n hl hn)
 rw [List.drop_zero, List.take_of_length_le (by rw [List.length_map, len_wide hl]; exact Nat.le_refl _)] at h
 exact h
theorem c_tower_plus (a b : List Rat) (ha : ∀ q ∈ a, Qs q) (hb : ∀ q ∈ b, Qs q) (la : a.length ≤ 1099511627776) (lb : b.length ≤ 1099511627776) : FnC Tryz.prog 102 [nA a, nA b] (nA (plusL a b)) := by
  obtain ⟨n, hn⟩ : ∃ n, n = max a.length b.length := ⟨_, rfl⟩
  have hwa := len_wide (show a.length ≤ n by omega)
  have hwb := len_wide (show b.length ≤ n by omega)
  have hp := len_plus (a := a) (b := b)
  rw [← hn] at hp
  have qa : ∀ q ∈ wideL a n, Qs q := fun q hq => by rcases List.mem_append.1 hq with h | h; exact ha q h; (rw [(List.mem_replicate.1 h).2]; exact Qs.zero)
  have qb : ∀ q ∈ wideL b n, Qs q := fun q hq => by rcases List.mem_append.1 hq with h | h; exact hb q h; (rw [(List.mem_replicate.1 h).2]; exact Qs.zero)
  refine gF0 Tryz.func102 ?_
  refine gl ?_
  refine gl ?_
  refine gs (s_max (.tmp rfl) (.tmp rfl) rfl) ?_ (2, 0)
  refine gW (Wk.of (sl := [(0, some (nA a)), (1, some (nA b)), (5, some (i64 n))]) (hp := []) (.cons rfl (.refl _) (.cons rfl (.refl _) (.cons rfl (Sub.int (by omega)) .nil))) .nil) ?_
  refine go ?_
  refine gt (s_callH (c_tower_wideO 900 rfl a n (by omega) (by omega)) (.cons (.tmp rfl) (.cons (.tmp rfl) .nil)) (by first | exact hH0 | exact hH1 rfl | exact hH2 rfl rfl) rfl rfl) ?_
  refine gc (c_tower_wide b n (by omega) (by omega)) ?_
  refine gL1 [1, 19] [] (fun (i : Nat) => [(0, some (.ms 900 3 0 n)), (20, some (i64 i))]) (fun i => [(900, some (.row 3 (((plusL a b).take i ++ (wideL a n).drop i).map qA)))]) (fun i => i ≤ n) (fun i => n - i) 0 (Nat.zero_le _) ?_
  rintro i hi K1 hK1
  refine gC (fun ht21 => ?_) (fun ht21 => ?_) (st2 := (8, 0))
  · have hin : i < n := by simpa [icmp] using ht21
    have hmx := mix_get (p := plusL a b) (w := wideL a n) (i := i) (by omega) (by omega)
    have hqa := (qa _ (getD_mem (i := i) (by omega))).ok
    have hqb := (qb _ (getD_mem (i := i) (by omega))).ok
    refine gs (s_idxMs0 (n := i) (.tmp rfl) (.tmp rfl) T60 rfl T68 rfl (by omega) (by omega) rfl) ?_
    refine gs (s_loadEptr (.tmp rfl) rfl (getmap hmx) T68 rfl rfl rfl) ?_
    refine gi (getmap (getD_some (i := i) (l := wideL b n) (by omega))) ?_
    refine gc (c_fraction_Add (rt ((wideL a n).getD i 0)) (rt ((wideL b n).getD i 0)) hqa hqb) ?_
    refine gs (s_idxMs0 (n := i) (.tmp rfl) (.tmp rfl) T60 rfl T68 rfl (by omega) (by omega) rfl) ?_
    refine gs (s_stElem (.tmp rfl) rfl (getmap hmx) rfl (.tmp rfl) rfl rfl T68 rfl rfl) ?_
    refine gD ?_ (7, 0)
    refine gW (Wk.of (sl := [(0, some (.ms 900 3 0 n)), (1, some (nA (wideL b n))), (19, some (i64 n)), (20, some (i64 i))]) (hp := [(900, some (.row 3 (((plusL a b).take (i + 1) ++ (wideL a n).drop (i + 1)).map qA)))]) (by repeat (first | exact SlW.nil | refine SlW.k ?_)) (.cons rfl (BlkSub.of (by rw [set_step (by omega) (by omega) (by rw [plus_get, ← hn, rt_q, rt_q])])) .nil)) ?_
    refine ga (i64_add1 (by unfold maxL; omega)) ?_
    exact gK1 hK1 (i + 1) hin
  · have hin : i = n := by have : n ≤ i := by simpa [icmp] using ht21
                           omega
    refine gW ((Wk.freeze (k := 900) rfl).trans <| Wk.of (sl := [(0, some (nA (plusL a b)))]) (hp := []) (.cons rfl (Sub.of (by rw [fz_all (by simp; omega), hin, List.drop_of_length_le (by omega), List.take_of_length_le (by omega), List.append_nil]; rfl)) .nil) .nil) ?_
    refine gE1 ?_
    rfl
theorem c_tower_minus (a : List Rat) (ha : ∀ q ∈ a, Qs q) (la : a.length ≤ 1099511627776) : FnC Tryz.prog 101 [nA a] (nA (minusL a)) := by
  obtain ⟨n, hn⟩ : ∃ n, n = a.length := ⟨_, rfl⟩
  refine gF0 Tryz.func101 ?_
  refine gl ?_
  refine gs (s_make (.tmp rfl) T60 rfl T68 rfl rfl (by omega) (by dsimp only; omega) rfl) ?_ (2, 0)
  refine gW (Wk.of (sl := [(0, some (nA a)), (3, some (.ms 7 3 0 n))]) (hp := [(7, some (.row 3 ((wideL [] n).map qA)))]) (.k (.cons rfl (Sub.of (by simp [hn])) .nil)) (.cons rfl (BlkSub.of_ (wide_row [] n (by simp)) (by rw [hn]; rfl)) .nil)) ?_
  refine gl ?_
  refine gL1 [0] [] (fun (i : Nat) => [(3, some (.ms 7 3 0 n)), (9, some (i64 n)), (10, some (i64 i))]) (fun i => [(7, some (.row 3 (((minusL a).take i ++ (wideL [] n).drop i).map qA)))]) (fun i => i ≤ n) (fun i => n - i) 0 (Nat.zero_le _) ?_ (h1 := (.k (.cons rfl (Sub.int (by omega)) (.k .nil))))
  rintro i hi K1 hK1
  refine gC (fun ht11 => ?_) (fun ht11 => ?_) (st2 := (7, 0))
  · have hin : i < n := by simpa [icmp] using ht11
    have hm1 := len_minus (a := a)
    have hm2 := len_wide (a := []) (n := n) (by simp)
    have hmx := mix_get (p := minusL a) (w := wideL [] n) (i := i) (by omega) (by omega)
    have hqa := (ha _ (getD_mem (i := i) (by omega))).ok
    refine gi (getmap (getD_some (i := i) (by omega))) ?_
    refine gc (c_fraction_Neg (rt (a.getD i 0)) hqa) ?_
    refine gs (s_idxMs0 (n := i) (.tmp rfl) (.tmp rfl) T60 rfl T68 rfl (by omega) (by omega) rfl) ?_
    refine gs (s_stElem (.tmp rfl) rfl (getmap hmx) rfl (.tmp rfl) rfl rfl T68 rfl rfl) ?_ (6, 0)
    refine gW (Wk.of (sl := [(0, some (nA a)), (3, some (.ms 7 3 0 n)), (9, some (i64 n)), (10, some (i64 i))]) (hp := [(7, some (.row 3 (((minusL a).take (i + 1) ++ (wideL [] n).drop (i + 1)).map qA)))]) (by repeat (first | exact SlW.nil | refine SlW.k ?_)) (.cons rfl (BlkSub.of (by rw [set_step (by omega) (by omega) (by rw [minus_get, rt_q])])) .nil)) ?_
    refine ga (i64_add1 (by unfold maxL; omega)) ?_
    exact gK1 hK1 (i + 1) hin
  · have hin : i = n := by have : n ≤ i := by simpa [icmp] using ht11
                           omega
    have hm1 := len_minus (a := a)
    have hm2 := len_wide (a := []) (n := n) (by simp)
    refine gW ((Wk.freeze (k := 7) rfl).trans <| Wk.of (sl := [(3, some (nA (minusL a)))]) (hp := []) (.cons rfl (Sub.of (by rw [fz_all (by simp; omega), hin, List.drop_of_length_le (by omega), List.take_of_length_le (by omega), List.append_nil]; rfl)) .nil) .nil) ?_
    refine gE1 ?_
    rfl
theorem c_tower_join (a b : List Rat) (n : Nat) (la : a.length ≤ n) (lb : b.length ≤ n) (hn : n ≤ 274877906944) : FnC Tryz.prog 245 [nA a, nA b, i64 n] (nA (joinL a b n)) := by
 refine gF0 Tryz.func245 ?_
 refine gt (s_callH (c_tower_wideO 900 rfl a n la (by omega)) (.cons (.tmp rfl) (.cons (.tmp rfl) .nil)) (by first | exact hH0 | exact hH1 rfl | exact hH2 rfl rfl) rfl rfl) ?_
 refine gc (c_tower_wide b n lb (by omega)) ?_
 refine gs (s_appendF (.tmp rfl) rfl (by simp [len_wide la]) (.tmp rfl) T60 rfl T68 rfl rfl (by simp [len_wide lb]; omega) rfl rfl) ?_
 refine gE1 ?_
 rw [← List.map_append]; rfl
end Go.Lw
namespace Go.Lw
open Go.Proofs
theorem c_tower_times (ts : List (List Rat)) (m r : Nat) (ht : TsOk ts m r) (hm : m ≤ 5) (hml : m ≤ ts.length) (k : Nat) : ∀ (j : Nat) (a b : List Rat) (e f : Nat), j ≤ m → j ≤ k → Nl j a → Nl j b → Cb e a → Cb f b → e + f + eB r j < 4398046511104 →
  FnC Tryz.prog 212 [towA ts, nA a, nA b] (nA (pT ts k a b)) := by
 induction k using Nat.strongRecOn
 rename_i k ih
 intro j a b e f hj hjk ha hb ca cb hs
 have hla := ha.len5 (by omega)
 have hlb := hb.len5 (by omega)
 refine gF0 Tryz.func212 ?_
 refine gl ?_
 refine gl ?_
 refine gJ4 [3] [3] (fun (x y : List Rat) (e1 f1 : Nat) => [(1, some (nA x)), (2, some (nA y))]) (fun _ _ _ _ => []) (fun x y e1 f1 => y.length ≤ x.length ∧ Nl j x ∧ Nl j y ∧ Cb e1 x ∧ Cb f1 y ∧ e1 + f1 = e + f ∧ pT ts k a b = pT ts k x y) ?_ ?_
 ·intro K1 hK1
  refine gC (fun ht18 => ?_) (fun ht18 => ?_)
  ·have h1 : a.length < b.length := by have := ht18; simp only [icmp, decide_eq_true_eq] at this; omega
   exact jK4 hK1 b a f e ⟨by omega, hb, ha, cb, ca, by omega, pT_comm ts k a b h1⟩
  ·have h1 : b.length ≤ a.length := by have := ht18; simp only [icmp, decide_eq_false_iff_not] at this; omega
   exact jK4 hK1 a b e f ⟨h1, ha, hb, ca, cb, rfl, rfl⟩
 ·rintro x y e1 f1 ⟨hyx, hx, hy, cx, cy, hef, hp⟩
  have hlx := hx.len5 (by omega)
  have hly := hy.len5 (by omega)
  have qx : ∀ q ∈ x, Qs q := fun q hq => cx.qs (by omega) hq
  have qy : ∀ q ∈ y, Qs q := fun q hq => cy.qs (by omega) hq
  rw [hp]
  refine gc (c_tower_zero x qx (by omega)) ?_
  refine gcG (fun _ => (c_tower_zero y qy (by omega))) ?_
  refine gC (fun ht21 => ?_) (fun ht21 => ?_)
  ·have h1 : zeroL x = true ∨ zeroL y = true := by
    have := ht21
    cases hz : zeroL x
    ·rw [hz] at this; exact .inr this
    ·exact .inl rfl
   refine gR ?_
   exact fin_sub1 (by rw [pT_zero hyx h1]; exact Sub.nil _ _ _)
  ·have h1 : ¬ (zeroL x = true ∨ zeroL y = true) := by
    have := ht21
    cases hz : zeroL x
    ·rw [hz] at this; intro h; rcases h with h | h; cases h; (rw [show zeroL y = false from this] at h; cases h)
    ·rw [hz] at this; cases this
   refine gl ?_
   refine gC (fun ht28 => ?_) (fun ht28 => ?_)
   ·have h2 : x.length = 1 := by have := ht28; simp only [icmp, beq_iff_eq] at this; omega
    obtain ⟨p, rfl⟩ := List.length_eq_one_iff.1 h2
    have h3 : y ≠ [] := fun h => h1 (.inr (by rw [h]; rfl))
    obtain ⟨q, rfl⟩ : ∃ q, y = [q] := List.length_eq_one_iff.1 (by have := List.length_pos_iff.2 h3; simp at hyx; omega)
    refine gi rfl ?_
    refine gi rfl ?_
    refine gc (c_fraction_Mul (rt p) (rt q) (qx p (by simp)).ok (qy q (by simp)).ok) ?_
    refine gD ?_
    refine gE1 ?_
    rw [pT_one h1, rt_q, rt_q]; rfl
   ·have h2 : x.length ≠ 1 := by have := ht28; simp only [icmp, beq_eq_false_iff_ne, ne_eq] at this; omega
    have h3 : x ≠ [] := fun h => h1 (.inl (by rw [h]; rfl))
    obtain ⟨i, hij, hxl⟩ : ∃ i, i + 1 ≤ j ∧ x.length = 2 ^ (i + 1) := by
     rcases nl_cases hx with h | h | h
     ·exact absurd (List.length_eq_zero_iff.1 h) h3
     ·exact absurd h h2
     ·exact h
    obtain ⟨k', rfl⟩ : ∃ k', k = k' + 1 := ⟨k - 1, by omega⟩
    have hp2 := Nat.two_pow_pos i
    have hpi : 2 ^ i ≤ 32 := pow_le2 (b := 5) (by omega)
    have hps : 2 ^ (i + 1) = 2 * 2 ^ i := by rw [Nat.pow_succ]; omega
    have hes : eB r (i + 1) ≤ eB r j := eB_lev r hij
    have hee : eB r (i + 1) = 2 * eB r i + r + 2 := rfl
    have n1 : Nl i (x.take (2 ^ i)) := .inr ⟨i, Nat.le_refl _, nl_take hxl⟩
    have n2 : Nl i (x.drop (2 ^ i)) := .inr ⟨i, Nat.le_refl _, nl_drop hxl⟩
    refine gl ?_
    refine gs (s_quoW (.tmp rfl) (.const _) (by omega) (show _ = ((2 ^ i : Nat) : Int) by rw [i64_half (by omega), hxl, half_pow]) rfl) ?_
    refine gs (s_sliceLst (.tmp rfl) (.none _) (.some _ (.tmp rfl) (by omega)) T60 rfl T68 rfl (by omega) (by simp only [List.length_map]; omega) rfl) ?_
    refine gs (s_sliceLst (.tmp rfl) (.some _ (.tmp rfl) (by omega)) (.none _) T60 rfl T68 rfl (by simp only [List.length_map]; omega) (by omega) rfl) ?_
    refine gD ?_ (9, 0)
    refine gW (Wk.of (sl := [(1, some (nA x)), (2, some (nA y)), (3, some (.ptr 3 0)), (7, some (i64 ((2 ^ i : Nat) : Int))), (8, some (nA (x.take (2 ^ i)))), (9, some (nA (x.drop (2 ^ i))))]) (hp := [(3, some (.box [.lst 1 (ts.map nA)]))]) (.k (.k (.k (.k (.cons rfl (Sub.of (cut_low x (2 ^ i))) (.cons rfl (Sub.of (cut_high x (2 ^ i))) .nil)))))) (.cons rfl (.refl _) .nil)) ?_
    refine gl ?_
    refine gC (fun ht52 => ?_) (fun ht52 => ?_)
    ·have h4 : y.length ≤ 2 ^ i := by have := ht52; simp only [icmp, decide_eq_true_eq] at this; omega
     have n3 : Nl i y := nl_of_len hy h4
     have s1 := pT_spec ts m ht.1 i k' _ _ (by omega) (by omega) n1 n3
     have s2 := pT_spec ts m ht.1 i k' _ _ (by omega) (by omega) n2 n3
     refine gc (ih k' (by omega) i _ _ e1 f1 (by omega) (by omega) n1 n3 cx.take cy (by omega)) ?_
     refine gc (ih k' (by omega) i _ _ e1 f1 (by omega) (by omega) n2 n3 cx.drop cy (by omega)) ?_
     refine gc (c_tower_join _ _ (2 ^ i) s1.1.le s2.1.le (by omega)) ?_
     refine gD ?_
     refine gE1 ?_
     rw [pT_half hxl h4 h1]
    ·have h4 : ¬ y.length ≤ 2 ^ i := by have := ht52; simp only [icmp, decide_eq_false_iff_not] at this; omega
     have hyl := nl_full hy h4 (by omega)
     have n3 : Nl i (y.take (2 ^ i)) := .inr ⟨i, Nat.le_refl _, nl_take hyl⟩
     have n4 : Nl i (y.drop (2 ^ i)) := .inr ⟨i, Nat.le_refl _, nl_drop hyl⟩
     have nd := ht.1 i (by omega)
     have cd := ht.2.cb i
     have s1 := pT_spec ts m ht.1 i k' _ _ (by omega) (by omega) n1 n3
     have s2 := pT_spec ts m ht.1 i k' _ _ (by omega) (by omega) n2 n4
     have s3 := pT_spec ts m ht.1 i k' _ _ (by omega) (by omega) s2.1 nd
     have s4 := pT_spec ts m ht.1 i k' _ _ (by omega) (by omega) n1 n4
     have s5 := pT_spec ts m ht.1 i k' _ _ (by omega) (by omega) n2 n3
     have c1 := Cb.mul ht (k := k') (show i ≤ m by omega) (by omega) n1 n3 cx.take cy.take
     have c2 := Cb.mul ht (k := k') (show i ≤ m by omega) (by omega) n2 n4 cx.drop cy.drop
     have c3 := Cb.mul ht (k := k') (show i ≤ m by omega) (by omega) s2.1 nd c2 cd
     have c4 := Cb.mul ht (k := k') (show i ≤ m by omega) (by omega) n1 n4 cx.take cy.drop
     have c5 := Cb.mul ht (k := k') (show i ≤ m by omega) (by omega) n2 n3 cx.drop cy.take
     have hpT := pT_full (ts := ts) (k := k') hxl h4 hyx h1
     refine gs (s_sliceLst (.tmp rfl) (.none _) (.some _ (.tmp rfl) (by omega)) T60 rfl T68 rfl (by omega) (by simp only [List.length_map]; omega) rfl) ?_
     refine gs (s_sliceLst (.tmp rfl) (.some _ (.tmp rfl) (by omega)) (.none _) T60 rfl T68 rfl (by simp only [List.length_map]; omega) (by omega) rfl) ?_
     refine gD ?_ (12, 0)
     refine gW (Wk.of (sl := [(1, some (nA x)), (3, some (.ptr 3 0)), (7, some (i64 ((2 ^ i : Nat) : Int))), (8, some (nA (x.take (2 ^ i)))), (9, some (nA (x.drop (2 ^ i)))), (10, some (nA (y.take (2 ^ i)))), (11, some (nA (y.drop (2 ^ i))))]) (hp := [(3, some (.box [.lst 1 (ts.map nA)]))]) (.k (.k (.k (.k (.k (.cons rfl (Sub.of (cut_low y (2 ^ i))) (.cons rfl (Sub.of (cut_high y (2 ^ i))) .nil))))))) (.cons rfl (.refl _) .nil)) ?_
     refine gc (c_tower_level qA x (by omega)) ?_
     refine ga (show _ = (i : Int) by rw [hxl, lvl_pow, i64_subI (by omega)]; omega) ?_
     refine gi (rootAt (j := i) (by omega)) ?_
     refine gD ?_
     refine gc (ih k' (by omega) i _ _ e1 f1 (by omega) (by omega) n1 n3 cx.take cy.take (by omega)) ?_
     refine gc (ih k' (by omega) i _ _ e1 f1 (by omega) (by omega) n2 n4 cx.drop cy.drop (by omega)) ?_
     refine gc (ih k' (by omega) i _ _ _ _ (by omega) (by omega) s2.1 nd c2 cd (by omega)) ?_
     refine gc (c_tower_plus _ _ (fun q hq => c1.qs (by omega) hq) (fun q hq => c3.qs (by omega) hq) (by have := s1.1.le; omega) (by have := s3.1.le; omega)) ?_
     refine gD ?_
     refine gc (ih k' (by omega) i _ _ e1 f1 (by omega) (by omega) n1 n4 cx.take cy.drop (by omega)) ?_
     refine gc (ih k' (by omega) i _ _ e1 f1 (by omega) (by omega) n2 n3 cx.drop cy.take (by omega)) ?_
     refine gc (c_tower_plus _ _ (fun q hq => c4.qs (by omega) hq) (fun q hq => c5.qs (by omega) hq) (by have := s4.1.le; omega) (by have := s5.1.le; omega)) ?_
     refine gc (c_tower_join _ _ (2 ^ i) (by have := s1.1.le; have := s3.1.le; rw [len_plus]; omega) (by have := s4.1.le; have := s5.1.le; rw [len_plus]; omega) (by omega)) ?_
     refine gD ?_
     refine gE1 ?_
     rw [hpT]
theorem c_tower_norm (ts : List (List Rat)) (m r : Nat) (ht : TsOk ts m r) (hm : m ≤ 5) (hml : m ≤ ts.length) (i : Nat) (a : List Rat) (e : Nat) (hi : i + 1 ≤ m) (hal : a.length = 2 ^ (i + 1)) (ca : Cb e a) (hs : 4 * e + 3 * eB r i + r + 1 < 4398046511104) :
  FnC Tryz.prog 158 [towA ts, nA a] (nA (normL ts i a)) := by
 have hp2 := Nat.two_pow_pos i
 have hpi : 2 ^ i ≤ 32 := pow_le2 (b := 5) (by omega)
 have hps : 2 ^ (i + 1) = 2 * 2 ^ i := by rw [Nat.pow_succ]; omega
 have n1 : Nl i (a.take (2 ^ i)) := .inr ⟨i, Nat.le_refl _, nl_take hal⟩
 have n2 : Nl i (a.drop (2 ^ i)) := .inr ⟨i, Nat.le_refl _, nl_drop hal⟩
 have nd := ht.1 i (by omega)
 have cd := ht.2.cb i
 have s1 := pT_spec ts m ht.1 i i _ _ (by omega) (by omega) n1 n1
 have s2 := pT_spec ts m ht.1 i i _ _ (by omega) (by omega) n2 n2
 have s3 := pT_spec ts m ht.1 i i _ _ (by omega) (by omega) s2.1 nd
 have c1 := Cb.mul ht (k := i) (show i ≤ m by omega) (by omega) n1 n1 ca.take ca.take
 have c2 := Cb.mul ht (k := i) (show i ≤ m by omega) (by omega) n2 n2 ca.drop ca.drop
 have c3 := Cb.mul ht (k := i) (show i ≤ m by omega) (by omega) s2.1 nd c2 cd
 refine gF0 Tryz.func158 ?_
 refine gl ?_
 refine gs (s_quoW (.tmp rfl) (.const _) (by omega) (show _ = ((2 ^ i : Nat) : Int) by rw [i64_half (by omega), hal, half_pow]) rfl) ?_
 refine gs (s_sliceLst (.tmp rfl) (.none _) (.some _ (.tmp rfl) (by omega)) T60 rfl T68 rfl (by omega) (by simp only [List.length_map]; omega) rfl) ?_
 refine gs (s_sliceLst (.tmp rfl) (.some _ (.tmp rfl) (by omega)) (.none _) T60 rfl T68 rfl (by simp only [List.length_map]; omega) (by omega) rfl) ?_
 refine gD ?_ (3, 0)
 refine gW (Wk.of (sl := [(1, some (nA a)), (2, some (.ptr 2 0)), (6, some (nA (a.take (2 ^ i)))), (7, some (nA (a.drop (2 ^ i))))]) (hp := [(2, some (.box [.lst 1 (ts.map nA)]))]) (.k (.k (.cons rfl (Sub.of (cut_low a (2 ^ i))) (.cons rfl (Sub.of (cut_high a (2 ^ i))) .nil)))) (.cons rfl (.refl _) .nil)) ?_
 refine gc (c_tower_times ts m r ht hm hml i i _ _ e e (by omega) (by omega) n1 n1 ca.take ca.take (by omega)) ?_
 refine gc (c_tower_times ts m r ht hm hml i i _ _ e e (by omega) (by omega) n2 n2 ca.drop ca.drop (by omega)) ?_
 refine gc (c_tower_level qA a (by omega)) ?_
 refine ga (show _ = (i : Int) by rw [hal, lvl_pow, i64_subI (by omega)]; omega) ?_
 refine gi (rootAt (j := i) (by omega)) ?_
 refine gc (c_tower_times ts m r ht hm hml i i _ _ _ _ (by omega) (by omega) s2.1 nd c2 cd (by omega)) ?_
 refine gc (c_tower_minus _ (fun q hq => c3.qs (by omega) hq) (by have := s3.1.le; omega)) ?_
 refine gc (c_tower_plus _ _ (fun q hq => c1.qs (by omega) hq) (fun q hq => c3.minus.qs (by omega) hq) (by have := s1.1.le; omega) (by have := s3.1.le; rw [len_minus]; omega)) ?_
 refine gD ?_
 refine gE1 ?_
 rfl
theorem c_tower_sign (ts : List (List Rat)) (m r : Nat) (ht : TsOk ts m r) (hm : m ≤ 5) (hml : m ≤ ts.length) (j : Nat) : ∀ (a : List Rat) (e : Nat), j ≤ m → Nl j a → Cb e a → sB r j e < 4398046511104 →
  FnC Tryz.prog 98 [towA ts, nA a] (i64 (T.sgn (rtsOf ts) j (dec j a))) := by
 induction j using Nat.strongRecOn
 rename_i j ih
 intro a e hj ha ca hs
 have hse := sB_le r j e
 have qa : ∀ q ∈ a, Qs q := fun q hq => ca.qs (by omega) hq
 obtain ⟨s, hsa⟩ : ∃ s, s = sh j (dec j a) := ⟨_, rfl⟩
 have hsd : dec j s = dec j a := by rw [hsa, dec_sh]
 have hsn : Nl j s := by rw [hsa]; exact sh_nl j _
 have cs : Cb e s := by rw [hsa]; exact ca.sh ha
 have hls := hsn.len5 (by omega)
 rw [← hsd]
 refine gF0 Tryz.func98 ?_
 refine gc (hsa ▸ c_tower_Short a (by omega) ha qa) ?_
 refine gl ?_
 refine gC (fun ht12 => ?_) (fun ht12 => ?_)
 ·have h1 : s = [] := List.length_eq_zero_iff.1 (by have := ht12; simp only [icmp, beq_iff_eq] at this; omega)
  refine gE1 ?_
  rw [h1, dec_nil, T.sgn_zero]; rfl
 ·have h1 : s.length ≠ 0 := by have := ht12; simp only [icmp, beq_eq_false_iff_ne, ne_eq] at this; omega
  refine gl ?_
  refine gC (fun ht15 => ?_) (fun ht15 => ?_)
  ·have h2 : s.length = 1 := by have := ht15; simp only [icmp, beq_iff_eq] at this; omega
   obtain ⟨q, rfl⟩ := List.length_eq_one_iff.1 h2
   refine gi rfl ?_
   refine gc (c_fraction_Sign (rt q) (cs.qs (by omega) (by simp : q ∈ [q])).ok) ?_
   refine gE1 ?_
   rw [dec_one, T.sgn_ofQ, rt_q]
  ·have h2 : s.length ≠ 1 := by have := ht15; simp only [icmp, beq_eq_false_iff_ne, ne_eq] at this; omega
   obtain ⟨i, hij, hsl⟩ : ∃ i, i + 1 ≤ j ∧ s.length = 2 ^ (i + 1) := by
    rcases nl_cases hsn with h | h | h
    ·exact absurd h h1
    ·exact absurd h h2
    ·exact h
   have hp2 := Nat.two_pow_pos i
   have hpi : 2 ^ i ≤ 32 := pow_le2 (b := 5) (by omega)
   have hps : 2 ^ (i + 1) = 2 * 2 ^ i := by rw [Nat.pow_succ]; omega
   have n1 : Nl i (s.take (2 ^ i)) := .inr ⟨i, Nat.le_refl _, nl_take hsl⟩
   have n2 : Nl i (s.drop (2 ^ i)) := .inr ⟨i, Nat.le_refl _, nl_drop hsl⟩
   have nd := ht.1 i (by omega)
   have cd := ht.2.cb i
   obtain ⟨nn, dn, cn⟩ := normL_spec ht (by omega) hsl cs
   have b1 : sB r i (4 * e + 3 * eB r i + r + 1) ≤ sB r j e := sB_lev r e hij
   have b2 : sB r i e ≤ sB r i (4 * e + 3 * eB r i + r + 1) := sB_mono r i (by omega)
   have b3 : sB r i r ≤ sB r i (4 * e + 3 * eB r i + r + 1) := sB_mono r i (by omega)
   have b4 := sB_le r i (4 * e + 3 * eB r i + r + 1)
   have k1 := ih i (by omega) (s.take (2 ^ i)) e (by omega) n1 cs.take (by omega)
   have k2 := ih i (by omega) (s.drop (2 ^ i)) e (by omega) n2 cs.drop (by omega)
   have k3 := ih i (by omega) _ r (by omega) nd cd (by omega)
   have k4 := ih i (by omega) _ _ (by omega) nn cn (by omega)
   have hres : T.sgn (rtsOf ts) j (dec j s) = T.sgn3 (T.sgn (rtsOf ts) i (dec i (s.take (2 ^ i)))) (T.sgn (rtsOf ts) i (dec i (s.drop (2 ^ i)))) (T.sgn (rtsOf ts) i (dec i (ts.getD i []))) (T.sgn (rtsOf ts) i (dec i (normL ts i s))) := by
    rw [sgn_lev _ (by omega) hij, dn]; rfl
   have v1 := T.sgn_cases (rtsOf ts) i (dec i (s.take (2 ^ i)))
   have v4 := T.sgn_cases (rtsOf ts) i (dec i (normL ts i s))
   refine gl ?_
   refine gs (s_quoW (.tmp rfl) (.const _) (by omega) (show _ = ((2 ^ i : Nat) : Int) by rw [i64_half (by omega), hsl, half_pow]) rfl) ?_
   refine gs (s_sliceLst (.tmp rfl) (.none _) (.some _ (.tmp rfl) (by omega)) T60 rfl T68 rfl (by omega) (by simp only [List.length_map]; omega) rfl) ?_
   refine gc (by have h9 := k1; rw [← cut_low] at h9; exact h9) ?_
   refine gs (s_sliceLst (.tmp rfl) (.some _ (.tmp rfl) (by omega)) (.none _) T60 rfl T68 rfl (by simp only [List.length_map]; omega) (by omega) rfl) ?_
   refine gc (by have h9 := k2; rw [← cut_high] at h9; exact h9) ?_
   refine gD ?_
   refine gc (c_tower_level qA s (by omega)) ?_
   refine ga (show _ = (i : Int) by rw [hsl, lvl_pow, i64_subI (by omega)]; omega) ?_
   refine gi (rootAt (j := i) (by omega)) ?_
   refine gc k3 ?_
   refine gD ?_
   refine gC (fun ht42 => ?_) (fun ht42 => ?_)
   ·have e1 : T.sgn (rtsOf ts) i (dec i (ts.getD i [])) = 0 := by simpa [icmp] using ht42
    refine gE1 ?_
    rw [hres]; unfold T.sgn3; rw [if_pos e1]
   ·have e1 : ¬ T.sgn (rtsOf ts) i (dec i (ts.getD i [])) = 0 := by simpa [icmp] using ht42
    refine gC (fun ht44 => ?_) (fun ht44 => ?_)
    ·have e2 : T.sgn (rtsOf ts) i (dec i (s.take (2 ^ i))) = T.sgn (rtsOf ts) i (dec i (s.drop (2 ^ i))) ∨ T.sgn (rtsOf ts) i (dec i (s.drop (2 ^ i))) = 0 := pick_or ht44
     refine gE1 ?_
     rw [hres]; unfold T.sgn3; rw [if_neg e1, if_pos e2]
    ·have e2 : ¬ (T.sgn (rtsOf ts) i (dec i (s.take (2 ^ i))) = T.sgn (rtsOf ts) i (dec i (s.drop (2 ^ i))) ∨ T.sgn (rtsOf ts) i (dec i (s.drop (2 ^ i))) = 0) := pick_nor ht44
     refine gC (fun ht53 => ?_) (fun ht53 => ?_)
     ·have e3 : T.sgn (rtsOf ts) i (dec i (s.take (2 ^ i))) = 0 := by simpa [icmp] using ht53
      refine gE1 ?_
      rw [hres]; unfold T.sgn3; rw [if_neg e1, if_neg e2, if_pos e3]
     ·have e3 : ¬ T.sgn (rtsOf ts) i (dec i (s.take (2 ^ i))) = 0 := by simpa [icmp] using ht53
      refine gc (c_tower_norm ts m r ht hm hml i s e (by omega) hsl cs (by omega)) ?_
      refine gc k4 ?_
      refine ga (mul_small v1 v4) ?_
      refine gD ?_
      refine gE1 ?_
      rw [hres]; unfold T.sgn3; rw [if_neg e1, if_neg e2, if_neg e3]; rfl
end Go.Lw
namespace Go.Lw
open Go.Proofs
theorem c_tower_Check (rs : List (List Rt)) (r : Nat) (h : TR rs r) : FnC Tryz.prog 45 [towR rs] (errA (chkE rs)) := by
  have hll := h.ll
  have hr := h.le
  refine gF0 Tryz.func45 ?_
  refine gl ?_
  refine gC (fun ht10 => ?_) (fun ht10 => ?_)
  · have h5 : 5 < rs.length := by have := ht10; simp only [icmp, decide_eq_true_eq] at this; omega
    refine gE1 ?_
    rw [chkE_big h5]; rfl
  · have h5 : rs.length ≤ 5 := by have := ht10; simp only [icmp, decide_eq_false_iff_not] at this; omega
    refine gl ?_
    refine gL1 [1, 13, 14] [1] (fun (k : Nat) => [(15, some (i64 k))]) (fun _ => []) (fun k => k ≤ rs.length ∧ ∀ j, j < k → RtOk rs j) (fun k => rs.length - k) 0 ⟨Nat.zero_le _, fun j hj => by omega⟩ ?_
    rintro k ⟨hk, hj⟩ K1 hK1
    refine gC (fun ht16 => ?_) (fun ht16 => ?_)
    · have hin : k < rs.length := by simpa [icmp] using ht16
      obtain ⟨d, hd⟩ := getx hin
      have hdm := List.mem_of_getElem? hd
      have hdl := h.len d hdm
      refine gi (getmap hd) ?_
      refine gl ?_
      refine gs (s_shlW (.const _) (.tmp rfl) (by omega) (i64_shl1 (by omega)) rfl) ?_
      refine gC (fun ht24 => ?_) (fun ht24 => ?_)
      · have h1 : d.length ≠ 2 ^ k := by have := ht24; simp only [icmp, bne_iff_ne, ne_eq] at this; omega
        refine gE1 ?_
        rw [chkE_len h5 hd hj h1]; rfl
      · have h1 : d.length = 2 ^ k := by have := ht24; simp only [icmp, bne_eq_false_iff_eq] at this; omega
        have htl : (rs.take k).length = k := by simp; omega
        have hnu := c_tower_number (rs.take k) d (h.ok d hdm) hdl (by omega)
        rw [htl] at hnu
        refine gs (s_sliceLst (.tmp rfl) (.none _) (.some _ (.tmp rfl) (by omega)) T28 rfl T60 rfl (by omega) (by simp only [List.length_map]; omega) rfl) ?_ (9, 0)
        refine gW (Wk.of (sl := [(1, some (.ptr 1 0)), (3, some (i64 k)), (4, some (nR d)), (5, some (.ptr 5 0)), (13, some (.lst 1 (rs.map nR))), (14, some (i64 rs.length)), (15, some (i64 k))]) (hp := [(1, some (.box [.lst 1 (rs.map nR)])), (5, some (.box [.lst 1 ((rs.take k).map nR)]))]) (by repeat (first | exact SlW.nil | refine SlW.k ?_)) (.cons rfl (.refl _) (.cons rfl (BlkSub.boxL (.cons (.of (cut_take nR rs k)) .nil) rfl) .nil))) ?_
        refine gc hnu ?_
        refine gC (fun ht35 => ?_) (fun ht35 => ?_)
        · have h2 := nNil_t ht35
          refine gE1 ?_
          rw [chkE_num h5 hd hj h1 h2]
        · have h2 := nNil_f ht35
          have hts := tsok_take (ts := llq rs) (fun j hjk => (hj j hjk).nl) h.rb
          have hq := numE_ok h2 (h.ok d hdm)
          have hcb : Cb r (lq d) := by have := h.rb.cb k; rw [llq_getD, List.getD_eq_getElem?_getD, hd] at this; exact this
          have hsg : FnC Tryz.prog 98 [towR (rs.take k), nR d] (i64 (T.sgn (rtsOf (llq rs)) k (dec k (lq d)))) := by
            have h9 := c_tower_sign ((llq rs).take k) k r hts (by omega) (by simp; omega) k (lq d) r (Nat.le_refl _) hq.2 hcb (sB_tw (by omega) hr (by omega))
            rw [T.sgn_congr k (fun j hjk => rtsOf_take hjk)] at h9
            rw [towR_take h.ok (by omega) hj, hq.1, nR_rt]
            rw [← hq.1]; exact h9
          refine gc hsg ?_
          refine gC (fun ht40 => ?_) (fun ht40 => ?_)
          · have h3 : T.sgn (rtsOf (llq rs)) k (dec k (lq d)) < 0 := by simpa [icmp] using ht40
            refine gE1 ?_
            rw [chkE_sgn h5 hd hj h1 h2 h3]; rfl
          · have h3 : ¬ T.sgn (rtsOf (llq rs)) k (dec k (lq d)) < 0 := by simpa [icmp] using ht40
            refine ga (i64_add1 (by unfold maxL; omega)) ?_
            exact gK1 hK1 (k + 1) ⟨hin, fun j hjk => by rcases Nat.lt_or_ge j k with h9 | h9; exact hj j h9; (have : j = k := by omega); subst this; exact rtok_of hd h1 h2 h3⟩
    · have hin : k = rs.length := by have : rs.length ≤ k := by simpa [icmp] using ht16
                                     omega
      subst hin
      refine gE1 ?_
      rw [chkE_all h5 hj]; rfl
theorem c_tower_checks (rs : List (List Rt)) (r : Nat) (h : TR rs r) (xs : List (List Rt)) (hx : ∀ a ∈ xs, (∀ x ∈ a, x.ok) ∧ a.length ≤ 281474976710656) (hl : xs.length ≤ 281474976710656) : FnC Tryz.prog 99 [towR rs, .lst 1 (xs.map nR)] (errA (chksE rs xs)) := by
  refine gF0 Tryz.func99 ?_
  refine gc (c_tower_Check rs r h) ?_
  refine gC (fun ht12 => ?_) (fun ht12 => ?_)
  · have h1 := nNil_t ht12
    refine gE1 ?_
    rw [chks_chk h1]
  · have h1 := nNil_f ht12
    refine gl ?_
    refine gL1 [2, 14, 15] [2] (fun (i : Nat) => [(16, some (i64 i))]) (fun _ => []) (fun i => i ≤ xs.length ∧ ∀ x ∈ xs.take i, numE rs.length x = 0) (fun i => xs.length - i) 0 ⟨Nat.zero_le _, fun x hx => by simp at hx⟩ ?_
    rintro i ⟨hi, hj⟩ K1 hK1
    refine gC (fun ht17 => ?_) (fun ht17 => ?_)
    · have hin : i < xs.length := by simpa [icmp] using ht17
      obtain ⟨a, ha⟩ := getx hin
      have hok := hx a (List.mem_of_getElem? ha)
      refine gi (getmap ha) ?_
      refine gc (c_tower_number rs a hok.1 hok.2 h.ll) ?_
      refine gC (fun ht24 => ?_) (fun ht24 => ?_)
      · have h2 := nNil_t ht24
        refine gE1 ?_
        rw [chks_at h1 ha hj h2]
      · have h2 := nNil_f ht24
        refine ga (i64_add1 (by unfold maxL; omega)) ?_
        exact gK1 hK1 (i + 1) ⟨hin, fun x hx => by rw [take_succ_get ha] at hx; rcases List.mem_append.1 hx with h9 | h9; exact hj x h9; (rw [List.mem_singleton.1 h9]; exact h2)⟩
    · have hin : i = xs.length := by have : xs.length ≤ i := by simpa [icmp] using ht17
                                     omega
      subst hin
      rw [List.take_length] at hj
      refine gE1 ?_
      rw [chks_of h1 hj]; rfl
theorem c_tower_Valid (rs : List (List Rt)) (r : Nat) (h : TR rs r) (a : List Rt) (e : Nat) (ha : NR a e) : FnC Tryz.prog 134 [towR rs, nR a] (bl (decide (chksE rs [a] = 0))) := by
 refine gF0 Tryz.func134 ?_
 refine gc (c_tower_checks rs r h [a] (fun x hx => by rw [List.mem_singleton.1 hx]; exact ⟨ha.ok, ha.len⟩) (by simp)) ?_
 refine gE1 ?_
 rw [isNil_err]; rfl
theorem c_tower_Neg (rs : List (List Rt)) (r : Nat) (h : TR rs r) (a : List Rt) (e : Nat) (ha : NR a e) (he : e ≤ 1000000000) :
  FnC Tryz.prog 46 [towR rs, nR a] (.tup [nA (if chksE rs [a] = 0 then sh rs.length (T.neg rs.length (dec rs.length (lq a))) else []), errA (chksE rs [a])]) := by
 refine gF0 Tryz.func46 ?_
 refine gc (c_tower_checks rs r h [a] (fun x hx => by rw [List.mem_singleton.1 hx]; exact ⟨ha.ok, ha.len⟩) (by simp)) ?_
 refine gC (fun ht12 => ?_) (fun ht12 => ?_) (st2 := (77777, 0))
 ·have h1 := nNil_t ht12
  refine gR ?_
  exact fin_sub (by rw [if_neg h1]; exact Sub.tup (.cons (.nil _ _ _) (.cons (.refl _) .nil)))
 ·have h1 := nNil_f ht12
  obtain ⟨h2, h3⟩ := chks_ok h1
  obtain ⟨tw, _⟩ := chk_tw h h2
  obtain ⟨e1, na⟩ := ha.num (h3 a (by simp))
  have h5 : rs.length ≤ 5 := by have := tw.five; rwa [List.length_map] at this
  have hl := na.len5 h5
  have qa : ∀ q ∈ lq a, Qs q := fun q hq => ha.cb.qs (by omega) hq
  have qm : ∀ q ∈ minusL (lq a), Qs q := fun q hq => ha.cb.minus.qs (by omega) hq
  have nm := nl_minus na
  refine gW (Wk.of (sl := [(1, some (nA (lq a))), (2, some (.ptr 2 0)), (6, some (errA (chksE rs [a])))]) (hp := [(2, some (.box [.lst 1 (rs.map nR)]))]) (.cons rfl (Sub.of e1) (.k (.k .nil))) (.cons rfl (.refl _) .nil)) ?_
  refine gc (c_tower_minus _ qa (by omega)) ?_
  refine gc (c_tower_Short _ h5 nm qm) ?_
  refine gE2 ?_
  rw [if_pos h1, h1, dec_minus]; rfl
theorem c_tower_Add (rs : List (List Rt)) (r : Nat) (h : TR rs r) (a b : List Rt) (e f : Nat) (ha : NR a e) (hb : NR b f) (he : e + f ≤ 1000000000) :
  FnC Tryz.prog 250 [towR rs, nR a, nR b] (.tup [nA (if chksE rs [a, b] = 0 then sh rs.length (T.add rs.length (dec rs.length (lq a)) (dec rs.length (lq b))) else []), errA (chksE rs [a, b])]) := by
 refine gF0 Tryz.func250 ?_
 refine gc (c_tower_checks rs r h [a, b] (two_ok ha hb) (by simp)) ?_
 refine gC (fun ht15 => ?_) (fun ht15 => ?_) (st2 := (77777, 0))
 ·have h1 := nNil_t ht15
  refine gR ?_
  exact fin_sub (by rw [if_neg h1]; exact Sub.tup (.cons (.nil _ _ _) (.cons (.refl _) .nil)))
 ·have h1 := nNil_f ht15
  obtain ⟨h2, h3⟩ := chks_ok h1
  obtain ⟨tw, e0⟩ := chk_tw h h2
  obtain ⟨e1, na⟩ := ha.num (h3 a (by simp))
  obtain ⟨e2, nb⟩ := hb.num (h3 b (by simp))
  have h5 : rs.length ≤ 5 := by have := tw.five; rwa [List.length_map] at this
  have hla := na.len5 h5
  have hlb := nb.len5 h5
  have qa : ∀ q ∈ lq a, Qs q := fun q hq => ha.cb.qs (by omega) hq
  have qb : ∀ q ∈ lq b, Qs q := fun q hq => hb.cb.qs (by omega) hq
  have qp : ∀ q ∈ plusL (lq a) (lq b), Qs q := fun q hq => (ha.cb.plus hb.cb).qs (by omega) hq
  have np := nl_plus na nb
  refine gW (Wk.of (sl := [(1, some (nA (lq a))), (2, some (nA (lq b))), (3, some (.ptr 3 0)), (8, some (errA (chksE rs [a, b])))]) (hp := [(3, some (.box [.lst 1 (rs.map nR)]))]) (.cons rfl (Sub.of e1) (.cons rfl (Sub.of e2) (.k (.k .nil)))) (.cons rfl (.refl _) .nil)) ?_
  refine gc (c_tower_plus _ _ qa qb (by omega) (by omega)) ?_
  refine gc (c_tower_Short _ h5 np qp) ?_
  refine gE2 ?_
  rw [if_pos h1, h1, dec_plus]; rfl
theorem c_tower_Sub (rs : List (List Rt)) (r : Nat) (h : TR rs r) (a b : List Rt) (e f : Nat) (ha : NR a e) (hb : NR b f) (he : e + f ≤ 1000000000) :
  FnC Tryz.prog 255 [towR rs, nR a, nR b] (.tup [nA (if chksE rs [a, b] = 0 then sh rs.length (T.add rs.length (dec rs.length (lq a)) (T.neg rs.length (dec rs.length (lq b)))) else []), errA (chksE rs [a, b])]) := by
 refine gF0 Tryz.func255 ?_
 refine gc (c_tower_checks rs r h [a, b] (two_ok ha hb) (by simp)) ?_
 refine gC (fun ht15 => ?_) (fun ht15 => ?_) (st2 := (77777, 0))
 ·have h1 := nNil_t ht15
  refine gR ?_
  exact fin_sub (by rw [if_neg h1]; exact Sub.tup (.cons (.nil _ _ _) (.cons (.refl _) .nil)))
 ·have h1 := nNil_f ht15
  obtain ⟨h2, h3⟩ := chks_ok h1
  obtain ⟨tw, e0⟩ := chk_tw h h2
  obtain ⟨e1, na⟩ := ha.num (h3 a (by simp))
  obtain ⟨e2, nb⟩ := hb.num (h3 b (by simp))
  have h5 : rs.length ≤ 5 := by have := tw.five; rwa [List.length_map] at this
  have hla := na.len5 h5
  have hlb := nb.len5 h5
  have qa : ∀ q ∈ lq a, Qs q := fun q hq => ha.cb.qs (by omega) hq
  have qb : ∀ q ∈ lq b, Qs q := fun q hq => hb.cb.qs (by omega) hq
  have qm : ∀ q ∈ minusL (lq b), Qs q := fun q hq => hb.cb.minus.qs (by omega) hq
  have qp : ∀ q ∈ plusL (lq a) (minusL (lq b)), Qs q := fun q hq => (ha.cb.plus hb.cb.minus).qs (by omega) hq
  have np := nl_plus na (nl_minus nb)
  refine gW (Wk.of (sl := [(1, some (nA (lq a))), (2, some (nA (lq b))), (3, some (.ptr 3 0)), (8, some (errA (chksE rs [a, b])))]) (hp := [(3, some (.box [.lst 1 (rs.map nR)]))]) (.cons rfl (Sub.of e1) (.cons rfl (Sub.of e2) (.k (.k .nil)))) (.cons rfl (.refl _) .nil)) ?_
  refine gc (c_tower_minus _ qb (by omega)) ?_
  refine gc (c_tower_plus _ _ qa qm (by omega) (by rw [len_minus]; omega)) ?_
  refine gc (c_tower_Short _ h5 np qp) ?_
  refine gE2 ?_
  rw [if_pos h1, h1, dec_plus, dec_minus]; rfl
theorem c_tower_Mul (rs : List (List Rt)) (r : Nat) (h : TR rs r) (a b : List Rt) (e f : Nat) (ha : NR a e) (hb : NR b f) (he : e + f ≤ 1000000000) :
  FnC Tryz.prog 251 [towR rs, nR a, nR b] (.tup [nA (if chksE rs [a, b] = 0 then sh rs.length (T.mul (rtsOf (llq rs)) rs.length (dec rs.length (lq a)) (dec rs.length (lq b))) else []), errA (chksE rs [a, b])]) := by
 have hr := h.le
 refine gF0 Tryz.func251 ?_
 refine gc (c_tower_checks rs r h [a, b] (two_ok ha hb) (by simp)) ?_
 refine gC (fun ht15 => ?_) (fun ht15 => ?_) (st2 := (77777, 0))
 ·have h1 := nNil_t ht15
  refine gR ?_
  exact fin_sub (by rw [if_neg h1]; exact Sub.tup (.cons (.nil _ _ _) (.cons (.refl _) .nil)))
 ·have h1 := nNil_f ht15
  obtain ⟨h2, h3⟩ := chks_ok h1
  obtain ⟨tw, e0⟩ := chk_tw h h2
  obtain ⟨e1, na⟩ := ha.num (h3 a (by simp))
  obtain ⟨e2, nb⟩ := hb.num (h3 b (by simp))
  have hlen : (llq rs).length = rs.length := List.length_map _
  have h5 : rs.length ≤ 5 := by have := tw.five; omega
  have hla := na.len5 h5
  have hlb := nb.len5 h5
  have htw := tw.ok
  rw [hlen] at htw
  have hE := eB_five r h5
  have np := pT_spec (llq rs) rs.length htw.1 rs.length rs.length _ _ (Nat.le_refl _) (Nat.le_refl _) na nb
  have cp := Cb.mul htw (k := rs.length) (Nat.le_refl rs.length) (Nat.le_refl _) na nb ha.cb hb.cb
  have hti := c_tower_times (llq rs) rs.length r htw h5 (by omega) rs.length rs.length _ _ e f (Nat.le_refl _) (Nat.le_refl _) na nb ha.cb hb.cb (by omega)
  refine gW (Wk.of (sl := [(1, some (nA (lq a))), (2, some (nA (lq b))), (3, some (.ptr 3 0)), (8, some (errA (chksE rs [a, b])))]) (hp := [(3, some (.box [.lst 1 ((llq rs).map nA)]))]) (.cons rfl (Sub.of e1) (.cons rfl (Sub.of e2) (.k (.k .nil)))) (.cons rfl (BlkSub.boxL (.cons (.of (towR_in e0)) .nil) rfl) .nil)) ?_
  refine gc hti ?_
  refine gc (c_tower_Short _ h5 np.1 (fun q hq => cp.qs (by omega) hq)) ?_
  refine gE2 ?_
  rw [if_pos h1, h1, np.2]; rfl
theorem c_tower_Cmp (rs : List (List Rt)) (r : Nat) (h : TR rs r) (a b : List Rt) (e f : Nat) (ha : NR a e) (hb : NR b f) (he : e + f ≤ 900000000) :
  FnC Tryz.prog 47 [towR rs, nR a, nR b] (.tup [i64 (if chksE rs [a, b] = 0 then T.sgn (rtsOf (llq rs)) rs.length (T.add rs.length (dec rs.length (lq a)) (T.neg rs.length (dec rs.length (lq b)))) else 0), errA (chksE rs [a, b])]) := by
 have hr := h.le
 refine gF0 Tryz.func47 ?_
 refine gc (c_tower_checks rs r h [a, b] (two_ok ha hb) (by simp)) ?_
 refine gC (fun ht15 => ?_) (fun ht15 => ?_) (st2 := (77777, 0))
 ·have h1 := nNil_t ht15
  refine gE2 ?_
  rw [if_neg h1]; rfl
 ·have h1 := nNil_f ht15
  obtain ⟨h2, h3⟩ := chks_ok h1
  obtain ⟨tw, e0⟩ := chk_tw h h2
  obtain ⟨e1, na⟩ := ha.num (h3 a (by simp))
  obtain ⟨e2, nb⟩ := hb.num (h3 b (by simp))
  have hlen : (llq rs).length = rs.length := List.length_map _
  have h5 : rs.length ≤ 5 := by have := tw.five; omega
  have hla := na.len5 h5
  have hlb := nb.len5 h5
  have htw := tw.ok
  rw [hlen] at htw
  have qa : ∀ q ∈ lq a, Qs q := fun q hq => ha.cb.qs (by omega) hq
  have qb : ∀ q ∈ lq b, Qs q := fun q hq => hb.cb.qs (by omega) hq
  have qm : ∀ q ∈ minusL (lq b), Qs q := fun q hq => hb.cb.minus.qs (by omega) hq
  have np := nl_plus na (nl_minus nb)
  have hsg := c_tower_sign (llq rs) rs.length r htw h5 (by omega) rs.length _ _ (Nat.le_refl _) np (ha.cb.plus hb.cb.minus) (sB_tw h5 hr (by omega))
  refine gW (Wk.of (sl := [(1, some (nA (lq a))), (2, some (nA (lq b))), (3, some (.ptr 3 0)), (8, some (errA (chksE rs [a, b])))]) (hp := [(3, some (.box [.lst 1 ((llq rs).map nA)]))]) (.cons rfl (Sub.of e1) (.cons rfl (Sub.of e2) (.k (.k .nil)))) (.cons rfl (BlkSub.boxL (.cons (.of (towR_in e0)) .nil) rfl) .nil)) ?_
  refine gc (c_tower_minus _ qb (by omega)) ?_
  refine gc (c_tower_plus _ _ qa qm (by omega) (by rw [len_minus]; omega)) ?_
  refine gc hsg ?_
  refine gD ?_
  refine gE2 ?_
  rw [if_pos h1, h1, dec_plus, dec_minus]; rfl
theorem c_tower_Sign (rs : List (List Rt)) (r : Nat) (h : TR rs r) (a : List Rt) (e : Nat) (ha : NR a e) (he : e ≤ 1000000000) :
  FnC Tryz.prog 196 [towR rs, nR a] (.tup [i64 (if chksE rs [a] = 0 then T.sgn (rtsOf (llq rs)) rs.length (dec rs.length (lq a)) else 0), errA (chksE rs [a])]) := by
 have hr := h.le
 refine gF0 Tryz.func196 ?_
 refine gc (c_tower_checks rs r h [a] (fun x hx => by rw [List.mem_singleton.1 hx]; exact ⟨ha.ok, ha.len⟩) (by simp)) ?_
 refine gC (fun ht12 => ?_) (fun ht12 => ?_) (st2 := (77777, 0))
 ·have h1 := nNil_t ht12
  refine gE2 ?_
  rw [if_neg h1]; rfl
 ·have h1 := nNil_f ht12
  obtain ⟨h2, h3⟩ := chks_ok h1
  obtain ⟨tw, e0⟩ := chk_tw h h2
  obtain ⟨e1, na⟩ := ha.num (h3 a (by simp))
  have hlen : (llq rs).length = rs.length := List.length_map _
  have h5 : rs.length ≤ 5 := by have := tw.five; omega
  have htw := tw.ok
  rw [hlen] at htw
  have hsg := c_tower_sign (llq rs) rs.length r htw h5 (by omega) rs.length _ _ (Nat.le_refl _) na ha.cb (sB_tw h5 hr (by omega))
  refine gW (Wk.of (sl := [(1, some (nA (lq a))), (2, some (.ptr 2 0)), (6, some (errA (chksE rs [a])))]) (hp := [(2, some (.box [.lst 1 ((llq rs).map nA)]))]) (.cons rfl (Sub.of e1) (.k (.k .nil))) (.cons rfl (BlkSub.boxL (.cons (.of (towR_in e0)) .nil) rfl) .nil)) ?_
  refine gc hsg ?_
  refine gE2 ?_
  rw [if_pos h1, h1]; rfl
theorem c_tower_Of (x : Rt) (hx : x.ok) (hs : Qs x.q) : FnC Tryz.prog 96 [x.av] (nA (sh 0 (x.q : Rat))) := by
 have hadd := c_fraction_Add x (rt 0) hx Qs.zero.ok
 rw [ofsum] at hadd
 refine gF0 Tryz.func96 ?_
 refine gc (Con.subA (.cons (.refl _) (.cons sub_q0 .nil)) hadd) ?_
 refine gc (c_tower_Short (n := 0) [x.q] (by omega) (.inr ⟨0, Nat.le_refl _, rfl⟩) (fun q hq => by rw [List.mem_singleton.1 hq]; exact hs)) ?_
 refine gE1 ?_
 rfl
end Go.Lw
namespace Go.Lw
open Go.Proofs
theorem c_r04_power (n : Nat) (hn : n ≤ 281474976710656) : FnC Tryz.prog 165 [i64 n] (.tup [i64 (pwk n), bl (pwb n)]) := by
 refine gF0 Tryz.func165 ?_
 refine gL1 [0] [] (fun (k : Nat) => [(5, some (i64 k))]) (fun _ => []) (fun k => k ≤ 6 ∧ ∀ j, j < k → n ≠ 2 ^ j) (fun k => 6 - k) 0 ⟨by omega, fun j h => by omega⟩ ?_
 rintro k ⟨hk, hj⟩ K1 hK1
 refine gC (fun ht6 => ?_) (fun ht6 => ?_)
 ·have h1 : k < 6 := by have := ht6; simp only [icmp, decide_eq_true_eq] at this; omega
  refine gs (s_shlW (.const _) (.tmp rfl) (by omega) (i64_shl1 (by omega)) rfl) ?_
  refine gC (fun ht11 => ?_) (fun ht11 => ?_)
  ·have h2 : n = 2 ^ k := by have := ht11; simp only [icmp, beq_iff_eq] at this; omega
   refine gE2 ?_
   rw [h2, (pw_of (by omega)).1, (pw_of (by omega)).2]; rfl
  ·have h2 : n ≠ 2 ^ k := by have := ht11; simp only [icmp, beq_eq_false_iff_ne, ne_eq] at this; omega
   refine ga (i64_addI (by omega)) ?_
   exact gK1 hK1 (k + 1) ⟨by omega, fun j h => by rcases Nat.lt_or_ge j k with h3 | h3; exact hj j h3; (have : j = k := by omega); subst this; exact h2⟩
 ·have h1 : k = 6 := by have := ht6; simp only [icmp, decide_eq_false_iff_not] at this; omega
  subst h1
  refine gE2 ?_
  rw [(pw_none hj).1, (pw_none hj).2]; rfl
theorem c_r04_Number (m : Nat) (hm : m ≤ 5) (a : List Rt) (ha : ∀ r ∈ a, r.ok) (hl : a.length ≤ 281474976710656) : FnC Tryz.prog 144 [i64 m, nR a] (i64 (numE m a)) := by
  refine gF0 Tryz.func144 ?_
  refine gl ?_
  refine gc (c_r04_power a.length hl) ?_
  refine gl ?_
  refine gC (fun ht26 => ?_) (fun ht26 => ?_)
  · have h1 : a ≠ [] ∧ (lvl a.length < 0 ∨ (m : Int) < lvl a.length) := (numE_ref hm a).2 (num_yes ht26)
    refine gE1 ?_
    unfold numE; rw [if_pos h1]; rfl
  · have hn : ¬ (a ≠ [] ∧ (lvl a.length < 0 ∨ (m : Int) < lvl a.length)) := fun h => num_no ht26 ((numE_ref hm a).1 h)
    refine gl ?_
    refine gL1 [27, 28] [] (fun (i : Nat) => [(29, some (i64 i))]) (fun _ => []) (fun i => i ≤ a.length ∧ (a.take i).all Rt.valid = true) (fun i => a.length - i) 0 ⟨Nat.zero_le _, by simp⟩ ?_
    rintro i ⟨hi, hv⟩ K1 hK1
    refine gC (fun ht30 => ?_) (fun ht30 => ?_)
    · have hin : i < a.length := by simpa [icmp] using ht30
      obtain ⟨r, hr⟩ := getx hin
      have hrok := ha r (List.mem_of_getElem? hr)
      refine gi (getmap hr) ?_
      refine gc (c_r02_Valid r hrok) ?_
      refine gC (fun ht35 => ?_) (fun ht35 => ?_)
      · have hrv : r.valid = false := by simpa using ht35
        refine gE1 ?_
        unfold numE
        rw [if_neg hn, if_neg]
        · rfl
        · rw [List.all_eq_true]
          intro h
          rw [h r (List.mem_of_getElem? hr)] at hrv; cases hrv
      · have hrv : r.valid = true := by simpa using ht35
        refine ga (i64_add1 (by unfold maxL; omega)) ?_
        exact gK1 hK1 (i + 1) ⟨by omega, by rw [take_succ_get hr, List.all_append, hv]; simp [hrv]⟩
    · have hin : i = a.length := by have : a.length ≤ i := by simpa [icmp] using ht30
                                    omega
      subst hin
      rw [List.take_length] at hv
      refine gE1 ?_
      unfold numE; rw [if_neg hn, if_pos hv]; rfl
theorem c_r04_plain (a : List Rat) (hl : a.length ≤ 281474976710656) : FnC Tryz.prog 166 [nA a] (bl (zeroL a)) := by
  refine gF0 Tryz.func166 ?_
  refine gl ?_
  refine gL1 [5, 6] [] (fun (i : Nat) => [(7, some (i64 i))]) (fun _ => []) (fun i => i ≤ a.length ∧ zeroL (a.take i) = true) (fun i => a.length - i) 0 ⟨Nat.zero_le _, by simp [zeroL]⟩ ?_
  rintro i ⟨hi, hv⟩ K1 hK1
  refine gC (fun ht8 => ?_) (fun ht8 => ?_)
  · have hin : i < a.length := by simpa [icmp] using ht8
    obtain ⟨q, hq⟩ := getx hin
    refine gi (getmap hq) ?_
    refine glG ?_
    refine glG ?_
    refine gC (fun ht24 => ?_) (fun ht24 => ?_)
    · have h0 : q ≠ 0 := plain_no ht24
      refine gE1 ?_
      have : zeroL a = false := by
        rw [Bool.eq_false_iff]
        intro h
        exact h0 (by simpa using List.all_eq_true.1 h q (List.mem_of_getElem? hq))
      rw [this]; rfl
    · have h0 : q = 0 := plain_yes ht24
      refine ga (i64_add1 (by unfold maxL; omega)) ?_
      exact gK1 hK1 (i + 1) ⟨by omega, by rw [take_succ_get hq]; simp only [zeroL, List.all_append, Bool.and_eq_true]; exact ⟨hv, by simp [h0]⟩⟩
  · have hin : i = a.length := by have : a.length ≤ i := by simpa [icmp] using ht8
                                  omega
    subst hin
    rw [List.take_length] at hv
    refine gE1 ?_
    rw [hv]; rfl
theorem c_r04_Short {n : Nat} (a : List Rat) (hn : n ≤ 5) (ha : Nl n a) : FnC Tryz.prog 110 [nA a] (nA (sh n (dec n a))) := by
 have hl := ha.len5 hn
 rw [← shortL_sh ha hn]
 refine gF0 Tryz.func110 ?_
 refine gl ?_
 refine gc (c_r04_power a.length (by omega)) ?_
 refine gC (fun ht13 => ?_) (fun ht13 => ?_)
 ·have h0 : a = [] := by
   rcases ha with h | ⟨j, hj, h⟩
   ·exact h
   ·have h9 := ht13
    rw [h, (pw_of (by omega)).2] at h9; cases h9
  refine gs (s_buildMs0 T60 rfl T68 rfl rfl rfl) ?_
  refine gs (s_appendF (.tmp rfl) rfl rfl (.tmp rfl) T60 rfl T68 rfl rfl (by simp [h0]) rfl rfl) ?_
  refine gE1 ?_
  subst h0; rfl
 ·refine gl ?_
  refine gL1 [0] [] (fun (m : Nat) => [(5, some (i64 m))]) (fun _ => []) (fun m => ShOk a m) (fun m => m) a.length (sh_init (ha.mono hn)) ?_
  rintro m hm K1 hK1
  refine gs (s_guard rfl rfl rfl (fun h => s_quoW (.opt rfl (o1 h)) (.const _) (by omega) (i64_half (by have := hm.le; omega)) rfl)) ?_
  refine gs (s_guard rfl rfl rfl (fun h => s_sliceLst (.opt rfl (o1 h)) (.some _ (.opt rfl (o1 h)) (by omega)) (.some _ (.opt rfl (o1 h)) (by omega)) T60 rfl T68 rfl (by omega) (by have := hm.le; simp; omega) rfl)) ?_
  refine gcG (fun _ => (by have h9 := c_r04_plain ((a.drop (m / 2)).take (m - m / 2)) (by simp; omega); rw [← nA_cut] at h9; exact h9)) ?_
  refine gC (fun ht28 => ?_) (fun ht28 => ?_)
  ·have h1 : 1 < m ∧ zeroL ((a.drop (m / 2)).take (m - m / 2)) = true := by
    have h9 := ht28
    by_cases h : (m : Int) > 1
    ·simp only [icmp, decide_eq_true h, cond_true] at h9; exact ⟨by omega, h9⟩
    ·simp only [icmp, decide_eq_false h, cond_false] at h9; cases h9
   refine gs (s_quoW (.tmp rfl) (.const _) (by omega) (i64_half (by have := hm.le; omega)) rfl) ?_
   exact gK1 hK1 (m / 2) (sh_step hm h1.1 h1.2)
  ·have h1 : 1 < m → zeroL ((a.drop (m / 2)).take (m - m / 2)) = false := by
    intro h
    have h9 := ht28
    simp only [icmp, decide_eq_true (show (m : Int) > 1 by omega), cond_true] at h9
    exact h9
   refine gs (s_guard rfl rfl rfl (fun h => s_sliceLst (.opt rfl (o1 h)) (.none _) (.some _ (.const _) (by omega)) T60 rfl T68 rfl (by omega) (by have h8 : (m : Int) = 1 := (by simpa [icmp] using h); have := hm.le; simp only [List.length_map]; omega) rfl)) ?_
   refine gcG (fun _ => (by have h9 := c_r04_plain ((a.drop 0).take 1) (by simp; omega); rw [← nA_cut] at h9; exact h9)) ?_
   refine gC (fun ht37 => ?_) (fun ht37 => ?_)
   ·have h2 : m = 1 ∧ zeroL (a.take 1) = true := by
     have h9 := ht37
     by_cases h : m = 1
     ·rw [h] at h9; exact ⟨h, h9⟩
     ·rw [show icmp .eql (m : Int) 1 = false by simp [icmp]; omega] at h9; cases h9
    obtain ⟨rfl, h3⟩ := h2
    refine gR ?_
    exact fin_sub1 (by rw [sh_end1 hm h3]; exact Sub.nil _ _ _)
   ·have h2 : m = 1 → zeroL (a.take 1) = false := by
     intro h
     have h9 := ht37
     rw [h] at h9; exact h9
    have h3 := sh_end2 hm h1 h2
    refine gs (s_buildMs0 T60 rfl T68 rfl rfl rfl) ?_
    refine gs (s_sliceLst (.tmp rfl) (.none _) (.some _ (.tmp rfl) (by omega)) T60 rfl T68 rfl (by omega) (by have := hm.le; simp; omega) rfl) ?_
    refine gs (s_appendF (.tmp rfl) rfl rfl (.tmp rfl) T60 rfl T68 rfl rfl (by simp only [List.length_take, List.length_drop, List.length_map]; omega) rfl rfl) ?_
    refine gE1 ?_
    rw [h3]
    simp [nA, List.map_take]
theorem c_r04_wideO (d : Nat) (hd : Nat.blt d 1000 = true) (a : List Rat) (n : Nat) (hl : a.length ≤ n) (hn : n ≤ 1099511627776) :
  Con Tryz.prog 146 [nA a, i64 n] [] (.ms d 3 0 n) [(d, some (.row 3 ((wideL a n).map qA)))] := by
 refine gF Tryz.func146 (fun k z h => by cases h) ?_
 refine gs (s_buildMs0 T60 rfl T68 rfl rfl rfl) ?_
 refine gs (s_append (.tmp rfl) rfl rfl (.tmp rfl) T60 rfl T68 rfl rfl (by simp only [List.length_map]; omega) rfl rfl) ?_
 refine gW (Wk.of (sl := [(1, some (i64 n)), (5, some (.ms 8 3 0 a.length))]) (hp := [(8, some (.row 3 ((wideL a a.length).map qA)))]) (.k (.cons rfl (Sub.of (by simp)) .nil)) (.cons rfl (BlkSub.of (by simp [wideL])) .nil)) ?_ (99999, 0)
 refine gW (Wk.rekey (k := 8) (d := 900) rfl rfl) ?_
 refine gL1 [1] [] (fun (i : Nat) => [(5, some (.ms 900 3 0 i))]) (fun i => [(900, some (.row 3 ((wideL a i).map qA)))]) (fun i => a.length ≤ i ∧ i ≤ n) (fun i => n - i) a.length ⟨Nat.le_refl _, hl⟩ ?_
 rintro i ⟨hi, hin⟩ K1 hK1
 refine gC (fun ht12 => ?_) (fun ht12 => ?_)
 ·have h1 : i < n := by have := ht12; simp only [icmp, decide_eq_true_eq] at this; omega
  refine gs (s_append (.tmp rfl) rfl (by rw [List.length_map, len_wide hi]) (.tmp rfl) T60 rfl T68 rfl rfl (by simp; omega) rfl rfl) ?_
  exact gK1 hK1 (i + 1) ⟨by omega, h1⟩ (hw := (Wk.of (sl := [(1, some (i64 n)), (5, some (.ms 16 3 0 (i + 1)))]) (hp := [(16, some (.row 3 ((wideL a (i + 1)).map qA)))]) (by repeat (first | exact SlW.nil | refine SlW.k ?_)) (.cons rfl (wide_app a i hi) .nil)).trans <| (Wk.rekey (k := 16) (d := 900) rfl rfl).trans <| Wk.o)
 ·have h1 : i = n := by have := ht12; simp only [icmp, decide_eq_false_iff_not] at this; omega
  subst h1
  refine gR ?_
  exact Fin.own1 rfl hd rfl
theorem c_r04_wide (a : List Rat) (n : Nat) (hl : a.length ≤ n) (hn : n ≤ 1099511627776) : FnC Tryz.prog 146 [nA a, i64 n] (nA (wideL a n)) := by
 have h := Con.freeze (by rw [List.length_map, len_wide hl]; omega) (c_r04_wideO 0 rfl a n hl hn)
 rw [List.drop_zero, List.take_of_length_le (by rw [List.length_map, len_wide hl]; exact Nat.le_refl _)] at h
 exact h
theorem c_r04_plus (a b : List Rat) (ha : ∀ q ∈ a, Qs q) (hb : ∀ q ∈ b, Qs q) (la : a.length ≤ 1099511627776) (lb : b.length ≤ 1099511627776) : FnC Tryz.prog 111 [nA a, nA b] (nA (plusL a b)) := by
  obtain ⟨n, hn⟩ : ∃ n, n = max a.length b.length := ⟨_, rfl⟩
  have hwa := len_wide (show a.length ≤ n by omega)
  have hwb := len_wide (show b.length ≤ n by omega)
  have hp := len_plus (a := a) (b := b)
  rw [← hn] at hp
  have qa : ∀ q ∈ wideL a n, Qs q := fun q hq => by rcases List.mem_append.1 hq with h | h; exact ha q h; (rw [(List.mem_replicate.1 h).2]; exact Qs.zero)
  have qb : ∀ q ∈ wideL b n, Qs q := fun q hq => by rcases List.mem_append.1 hq with h | h; exact hb q h; (rw [(List.mem_replicate.1 h).2]; exact Qs.zero)
  refine gF0 Tryz.func111 ?_
  refine gl ?_
  refine gl ?_
  refine gs (s_max (.tmp rfl) (.tmp rfl) rfl) ?_ (2, 0)
  refine gW (Wk.of (sl := [(0, some (nA a)), (1, some (nA b)), (5, some (i64 n))]) (hp := []) (.cons rfl (.refl _) (.cons rfl (.refl _) (.cons rfl (Sub.int (by omega)) .nil))) .nil) ?_
  refine go ?_
  refine gt (s_callH (c_r04_wideO 900 rfl a n (by omega) (by omega)) (.cons (.tmp rfl) (.cons (.tmp rfl) .nil)) (by first | exact hH0 | exact hH1 rfl | exact hH2 rfl rfl) rfl rfl) ?_
  refine gc (c_r04_wide b n (by omega) (by omega)) ?_
  refine gL1 [1, 19] [] (fun (i : Nat) => [(0, some (.ms 900 3 0 n)), (20, some (i64 i))]) (fun i => [(900, some (.row 3 (((plusL a b).take i ++ (wideL a n).drop i).map qA)))]) (fun i => i ≤ n) (fun i => n - i) 0 (Nat.zero_le _) ?_
  rintro i hi K1 hK1
  refine gC (fun ht21 => ?_) (fun ht21 => ?_) (st2 := (8, 0))
  · have hin : i < n := by simpa [icmp] using ht21
    have hmx := mix_get (p := plusL a b) (w := wideL a n) (i := i) (by omega) (by omega)
    have hqa := (qa _ (getD_mem (i := i) (by omega))).ok
    have hqb := (qb _ (getD_mem (i := i) (by omega))).ok
    refine gs (s_idxMs0 (n := i) (.tmp rfl) (.tmp rfl) T60 rfl T68 rfl (by omega) (by omega) rfl) ?_
    refine gs (s_loadEptr (.tmp rfl) rfl (getmap hmx) T68 rfl rfl rfl) ?_
    refine gi (getmap (getD_some (i := i) (l := wideL b n) (by omega))) ?_
    refine gc (c_r02_Add (rt ((wideL a n).getD i 0)) (rt ((wideL b n).getD i 0)) hqa hqb) ?_
    refine gs (s_idxMs0 (n := i) (.tmp rfl) (.tmp rfl) T60 rfl T68 rfl (by omega) (by omega) rfl) ?_
    refine gs (s_stElem (.tmp rfl) rfl (getmap hmx) rfl (.tmp rfl) rfl rfl T68 rfl rfl) ?_
    refine gD ?_ (7, 0)
    refine gW (Wk.of (sl := [(0, some (.ms 900 3 0 n)), (1, some (nA (wideL b n))), (19, some (i64 n)), (20, some (i64 i))]) (hp := [(900, some (.row 3 (((plusL a b).take (i + 1) ++ (wideL a n).drop (i + 1)).map qA)))]) (by repeat (first | exact SlW.nil | refine SlW.k ?_)) (.cons rfl (BlkSub.of (by rw [set_step (by omega) (by omega) (by rw [plus_get, ← hn, rt_q, rt_q])])) .nil)) ?_
    refine ga (i64_add1 (by unfold maxL; omega)) ?_
    exact gK1 hK1 (i + 1) hin
  · have hin : i = n := by have : n ≤ i := by simpa [icmp] using ht21
                           omega
    refine gW ((Wk.freeze (k := 900) rfl).trans <| Wk.of (sl := [(0, some (nA (plusL a b)))]) (hp := []) (.cons rfl (Sub.of (by rw [fz_all (by simp; omega), hin, List.drop_of_length_le (by omega), List.take_of_length_le (by omega), List.append_nil]; rfl)) .nil) .nil) ?_
    refine gE1 ?_
    rfl
theorem c_r04_less (a : List Rat) (ha : ∀ q ∈ a, Qs q) (hl : a.length ≤ 1099511627776) : FnC Tryz.prog 152 [nA a] (nA (minusL a)) := by
  refine gF0 Tryz.func152 ?_
  refine gl ?_
  refine gW (Wk.virt 900 3 rfl) ?_
  refine gL1 [6, 7] [] (fun (i : Nat) => [(3, some (.ms 900 3 0 i)), (8, some (i64 i))]) (fun i => [(900, some (.row 3 ((minusL (a.take i)).map qA)))]) (fun i => i ≤ a.length) (fun i => a.length - i) 0 (Nat.zero_le _) ?_
  rintro i hi K1 hK1
  refine gC (fun ht9 => ?_) (fun ht9 => ?_) (st2 := (7, 0))
  · have hin : i < a.length := by simpa [icmp] using ht9
    obtain ⟨q, hq⟩ := getx hin
    have hqs := (ha q (List.mem_of_getElem? hq)).ok
    refine gi (getmap hq) ?_
    refine gc (c_r02_Neg (rt q) hqs) ?_
    refine gs (s_append (.tmp rfl) rfl (by simp [minusL]; omega) (.tmp rfl) T60 rfl T68 rfl rfl (by simp; omega) rfl rfl) ?_ (6, 0)
    refine gW (Wk.of (sl := [(3, some (.ms 16 3 0 (i + 1))), (6, some (nA a)), (7, some (i64 a.length)), (8, some (i64 i))]) (hp := [(16, some (.row 3 ((minusL (a.take (i + 1))).map qA)))]) (by repeat (first | exact SlW.nil | refine SlW.k ?_)) (.cons rfl (BlkSub.of (by rw [take_succ_get hq]; simp only [minusL, List.map_append, rt_q]; rfl)) .nil)) ?_ (6, 0)
    refine gW (Wk.rekey (k := 16) (d := 900) rfl rfl) ?_
    refine ga (i64_add1 (by unfold maxL; omega)) ?_
    exact gK1 hK1 (i + 1) hin
  · have hin : i = a.length := by have : a.length ≤ i := by simpa [icmp] using ht9
                                  omega
    subst hin
    refine gW ((Wk.freeze (k := 900) rfl).trans <| Wk.of (sl := [(3, some (nA (minusL a)))]) (hp := []) (.cons rfl (Sub.of (by rw [fz_all (by simp [minusL]), List.take_length]; rfl)) .nil) .nil) ?_
    refine gE1 ?_
    rfl
end Go.Lw
