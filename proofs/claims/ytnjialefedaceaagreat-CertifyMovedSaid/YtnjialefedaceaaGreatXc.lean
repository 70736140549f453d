/- CertifyMoved: for anything drawn, any body and shift the law returns true and leaves its arguments as they were. No condition. Part 3 of 6: what the later parts need -/
import Derived.Test.YtnjialefedaceaaGreatXb
import Derived.Laws.Strings
import Derived.Test.YtnjialefedaceaaGreatRows
set_option linter.unusedVariables false
namespace Go.Lw
def fixw : Nat → Nat → List Nat
  | 0, _ => []
  | k + 1, v => v % 4294967296 :: fixw k (v / 4294967296)
theorem len_fixw : ∀ k v, (fixw k v).length = k
  | 0, _ => rfl
  | k + 1, v => by simp [fixw, len_fixw k]
theorem ws_fixw : ∀ k v, Ws (fixw k v)
  | 0, _ => ws_nil
  | k + 1, v => by
    intro x hx
    rcases List.mem_cons.1 hx with h | h
    · omega
    · exact ws_fixw k _ x h
theorem val_fixw : ∀ k v, v < 4294967296 ^ k → val (fixw k v) = v
  | 0, v, h => by simp at h; subst h; rfl
  | k + 1, v, h => by
    rw [Nat.pow_succ] at h
    simp only [fixw, val]
    rw [val_fixw k _ (by omega)]
    omega
theorem eq_fixw : ∀ (l : List Nat), Ws l → l = fixw l.length (val l)
  | [], _ => rfl
  | x :: l, h => by
    have hx := h x (by simp)
    have ih := eq_fixw l (fun y hy => h y (by simp [hy]))
    simp only [List.length_cons, fixw, val]
    rw [show (x + 4294967296 * val l) % 4294967296 = x by omega, show (x + 4294967296 * val l) / 4294967296 = val l by omega, ← ih]
theorem fixw_of {l : List Nat} {k v : Nat} (h : Ws l) (hk : l.length = k) (hv : val l = v) : l = fixw k v := by
  subst hk; subst hv; exact eq_fixw l h
/-! ### Shifts -/
theorem val_div {l : List Nat} (h : Ws l) (i : Nat) (hi : i ≤ l.length) : val l / 4294967296 ^ i = val (l.drop i) := by
  rw [val_split l i, Nat.min_eq_left hi]
  have h1 := val_lt (l.take i) (ws_take h i)
  rw [List.length_take, Nat.min_eq_left hi] at h1
  rw [Nat.add_mul_div_left _ _ (by omega), Nat.div_eq_of_lt h1, Nat.zero_add]
theorem pow_split {n k : Nat} (h : n ≤ k) : 2 ^ k = 2 ^ (k - n) * 2 ^ n := by rw [← Nat.pow_add]; congr 1; omega
theorem up_or {x w n : Nat} (hn : n < 32) (hw : w < 2 ^ n) : w ||| x * 2 ^ n % 4294967296 = w + x * 2 ^ n % 4294967296 := by
  have h1 : x * 2 ^ n % 4294967296 = (x % 2 ^ (32 - n)) * 2 ^ n := by
    rw [show 4294967296 = 2 ^ 32 from rfl, pow_split (show n ≤ 32 by omega), Nat.mul_mod_mul_right]
  rw [h1]; exact or_add' hw
theorem up_hi {x n : Nat} (hx : x < 4294967296) : x * 2 ^ n / 4294967296 < 2 ^ n := by
  rw [Nat.div_lt_iff_lt_mul (by omega), Nat.mul_comm]
  exact Nat.mul_lt_mul_of_pos_left hx (Nat.pow_pos (by omega))
theorem two_pow_le {n k : Nat} (h : n ≤ k) : 2 ^ n ≤ 2 ^ k := Nat.pow_le_pow_right (by omega) h
theorem up_word {x w n : Nat} (hn : n < 32) (hw : w < 2 ^ n) : w + x * 2 ^ n % 4294967296 < 4294967296 := by
  have h1 : x * 2 ^ n % 4294967296 = (x % 2 ^ (32 - n)) * 2 ^ n := by
    rw [show 4294967296 = 2 ^ 32 from rfl, pow_split (show n ≤ 32 by omega), Nat.mul_mod_mul_right]
  have h2 : x % 2 ^ (32 - n) + 1 ≤ 2 ^ (32 - n) := Nat.mod_lt _ (Nat.pow_pos (by omega))
  have h3 := Nat.mul_le_mul_right (2 ^ n) h2
  rw [← pow_split (show n ≤ 32 by omega), Nat.add_mul] at h3
  omega
theorem up_step {a out : List Nat} {i n : Nat} (hi : i + 1 < out.length) (h : val (out.take (i + 1)) = 2 ^ n * val (a.take i)) :
    val (((out.set i (wordW out i + wordW a i * 2 ^ n % 4294967296)).set (i + 1) (wordW a i * 2 ^ n / 4294967296)).take (i + 1 + 1)) = 2 ^ n * val (a.take (i + 1)) := by
  rw [val_set_take (by simpa using hi), val_set_take (by omega), val_take_word (l := a)]
  rw [val_take_word] at h
  have := Nat.div_add_mod (wordW a i * 2 ^ n) 4294967296
  generalize wordW a i * 2 ^ n % 4294967296 = r at *
  generalize wordW a i * 2 ^ n / 4294967296 = q at *
  rw [Nat.pow_succ]
  grind
theorem down_word {a : List Nat} {i n : Nat} (h : Ws a) (hi : i < a.length) (hn : n ≤ 32) :
    (wordW a i + wordW a (i + 1) * 2 ^ 32) / 2 ^ n % 4294967296 = (val a / 2 ^ n / 4294967296 ^ i) % 4294967296 := by
  rw [Nat.div_div_eq_div_mul, Nat.mul_comm (2 ^ n), ← Nat.div_div_eq_div_mul, val_div h i (by omega), val_drop hi]
  have h1 : val (a.drop (i + 1)) = wordW a (i + 1) + 4294967296 * val (a.drop (i + 2)) := by
    rcases Nat.lt_or_ge (i + 1) a.length with h | h
    · exact val_drop h
    · rw [word_out h, List.drop_eq_nil_of_le (by omega), List.drop_eq_nil_of_le (by omega)]; rfl
  rw [h1]
  generalize val (a.drop (i + 2)) = R
  have h2 : wordW a i + 4294967296 * (wordW a (i + 1) + 4294967296 * R) = (wordW a i + wordW a (i + 1) * 2 ^ 32) + 2 ^ n * (2 ^ (32 - n) * R * 4294967296) := by
    have h3 := pow_split hn
    rw [show (2 : Nat) ^ n * (2 ^ (32 - n) * R * 4294967296) = (2 ^ (32 - n) * 2 ^ n) * R * 4294967296 by grind, ← h3]
    omega
  rw [h2, Nat.add_mul_div_left _ _ (Nat.pow_pos (by omega)), Nat.add_mul_mod_self_right]
theorem down_step {a out : List Nat} {i n : Nat} (h : Ws a) (hi : i < a.length) (ho : i < out.length) (hn : n ≤ 32) (hv : val (out.take i) = val a / 2 ^ n % 4294967296 ^ i) :
    val ((out.set i ((wordW a i + wordW a (i + 1) * 2 ^ 32) / 2 ^ n % 4294967296)).take (i + 1)) = val a / 2 ^ n % 4294967296 ^ (i + 1) := by
  rw [val_set_take ho, down_word h hi hn, Nat.pow_succ, Nat.mod_mul, hv]
theorem down_end {a out : List Nat} {n : Nat} (h : Ws a) (ho : out.length = a.length) (hv : val (out.take a.length) = val a / 2 ^ n % 4294967296 ^ a.length) : val out = val a / 2 ^ n := by
  rw [val_take_ge (by omega)] at hv
  rw [hv, Nat.mod_eq_of_lt]
  exact Nat.lt_of_le_of_lt (Nat.div_le_self _ _) (val_lt a h)
/-- A step of the division by a word. -/
theorem short_step {a o : List Nat} {i r w : Nat} (hi : i < a.length) (ho : i < o.length) (h : val (a.drop (i + 1)) = w * val (o.drop (i + 1)) + r) :
    val (a.drop i) = w * val ((o.set i ((r * 2 ^ 32 + wordW a i) / w)).drop i) + (r * 2 ^ 32 + wordW a i) % w := by
  rw [val_set_drop ho, val_drop hi, h]
  have := Nat.div_add_mod (r * 2 ^ 32 + wordW a i) w
  generalize (r * 2 ^ 32 + wordW a i) % w = r' at *
  generalize (r * 2 ^ 32 + wordW a i) / w = q at *
  grind
theorem short_lt {r w x : Nat} (hr : r < w) (hx : x < 4294967296) : (r * 2 ^ 32 + x) / w < 4294967296 := by
  rw [Nat.div_lt_iff_lt_mul (by omega)]
  have := Nat.mul_le_mul_left 4294967296 (show r + 1 ≤ w from hr)
  omega
theorem div_mod_of {a q w r : Nat} (h : a = w * q + r) (hr : r < w) : a / w = q ∧ a % w = r := by
  subst h
  rw [Nat.mul_add_div (by omega), Nat.mul_add_mod, Nat.div_eq_of_lt hr, Nat.mod_eq_of_lt hr]
  simp
theorem wordW_set {l : List Nat} {i x : Nat} (h : i < l.length) : wordW (l.set i x) i = x := by simp [wordW, h]
end Go.Lw
namespace Go.Lw
theorem Fin.own2 {s : AS} {k : Nat} {y z : Blk} {x r : AV} (h : lk s.hp k = some y) (hz : y = z) (hx : x = r) : Fin s x r [(k, some z)] := by
  subst hz; subst hx
  refine Fin.keep ?_
  intro k' z' h'
  rw [lk_cons] at h'
  split at h'
  · rename_i e; cases h'; rw [e]; exact h
  · cases h'
def win (u : List Nat) (j n : Nat) : List Nat := (u.drop j).take n
/-- Words are written into the middle. -/
def wr (u : List Nat) (j : Nat) (l : List Nat) : List Nat := u.take j ++ l ++ u.drop (j + l.length)
theorem wr_of {u o : List Nat} {j n : Nat} (h1 : o.take j = u.take j) (h2 : o.drop (j + n) = u.drop (j + n)) (hn : j + n ≤ o.length) : o = wr u j (win o j n) := by
  have hl : (win o j n).length = n := by simp [win]; omega
  unfold wr
  rw [hl, ← h1, ← h2]
  conv => lhs; rw [← List.take_append_drop j o]
  rw [List.append_assoc]
  congr 1
  unfold win
  conv => lhs; rw [← List.take_append_drop n (o.drop j)]
  rw [List.drop_drop]
theorem len_wr {u l : List Nat} {j : Nat} (h : j + l.length ≤ u.length) : (wr u j l).length = u.length := by simp [wr]; omega
theorem ws_app {a b : List Nat} (ha : Ws a) (hb : Ws b) : Ws (a ++ b) := fun x hx => (List.mem_append.1 hx).elim (ha x) (hb x)
theorem ws_drop {l : List Nat} (h : Ws l) (n : Nat) : Ws (l.drop n) := fun x hx => h x (List.mem_of_mem_drop hx)
theorem ws_win {l : List Nat} (h : Ws l) (i n : Nat) : Ws (win l i n) := ws_take (ws_drop h i) n
theorem ws_wr {u l : List Nat} {j : Nat} (hu : Ws u) (hl : Ws l) : Ws (wr u j l) := ws_app (ws_app (ws_take hu _) hl) (ws_drop hu _)
theorem len_win {u : List Nat} {j n : Nat} (h : j + n ≤ u.length) : (win u j n).length = n := by simp [win]; omega
theorem val_wr_drop {u l : List Nat} {j : Nat} (h : j + l.length ≤ u.length) : val ((wr u j l).drop j) = val l + 4294967296 ^ l.length * val (u.drop (j + l.length)) := by
  unfold wr
  rw [List.append_assoc, List.drop_append_of_le_length (by simp; omega), List.drop_eq_nil_of_le (by simp; omega), List.nil_append, val_append]
theorem val_drop_win {u : List Nat} {j n : Nat} (h : j + n ≤ u.length) : val (u.drop j) = val (win u j n) + 4294967296 ^ n * val (u.drop (j + n)) := by
  rw [val_split (u.drop j) n, List.drop_drop, Nat.min_eq_left (by simp; omega)]; rfl
theorem val_take_drop {u : List Nat} {j : Nat} (h : j ≤ u.length) : val u = val (u.take j) + 4294967296 ^ j * val (u.drop j) := by
  rw [val_split u j, Nat.min_eq_left h]
theorem wr_take {u l : List Nat} {j : Nat} (h : j ≤ u.length) : (wr u j l).take j = u.take j := by
  unfold wr
  rw [List.append_assoc, List.take_append_of_le_length (by simp; omega), List.take_of_length_le (by simp; omega)]
theorem wr_drop {u l : List Nat} {j : Nat} (h : j ≤ u.length) : (wr u j l).drop (j + l.length) = u.drop (j + l.length) := by
  unfold wr
  rw [List.drop_append, List.drop_eq_nil_of_le (by simp; omega)]
  simp [Nat.min_eq_left h]
/-! ### Steps -/
theorem wordW_drop {l : List Nat} {j i : Nat} : wordW (l.drop j) i = wordW l (j + i) := by simp [wordW]
theorem word_of_drop {u o : List Nat} {k : Nat} (h : o.drop k = u.drop k) : wordW o k = wordW u k := by
  have h1 := wordW_drop (l := o) (j := k) (i := 0)
  have h2 := wordW_drop (l := u) (j := k) (i := 0)
  rw [h] at h1
  simpa using h1.symm.trans h2
theorem drop_set_next {u o : List Nat} {k x : Nat} (h : o.drop k = u.drop k) : (o.set k x).drop (k + 1) = u.drop (k + 1) := by
  rw [List.drop_set_of_lt (by omega)]
  have h1 : (o.drop k).drop 1 = (u.drop k).drop 1 := by rw [h]
  rwa [List.drop_drop, List.drop_drop] at h1
theorem val_win_set {o : List Nat} {j i x : Nat} (h : j + i < o.length) : val (win (o.set (j + i) x) j (i + 1)) = val (win o j i) + 4294967296 ^ i * x := by
  unfold win
  rw [List.drop_set, if_neg (by omega), Nat.add_sub_cancel_left, val_set_take (by simp; omega)]
theorem val_win_word {u : List Nat} {j i : Nat} : val (win u j (i + 1)) = val (win u j i) + 4294967296 ^ i * wordW u (j + i) := by
  unfold win
  rw [val_take_word, wordW_drop]
theorem carry_step {lo c P n V w : Nat} (h : lo + c * P = n * V) : (lo + P * ((c + n * w) % 4294967296)) + ((c + n * w) / 4294967296) * (P * 4294967296) = n * (V + P * w) := by
  have := Nat.div_add_mod (c + n * w) 4294967296
  generalize (c + n * w) % 4294967296 = r at *
  generalize (c + n * w) / 4294967296 = q at *
  grind
def remW (n V W len : Nat) : Nat := if n * V ≤ W then W - n * V else W + 4294967296 ^ len - n * V
theorem remove_end {u o v : List Nat} {off len n c b lo : Nat} (hu : Ws u) (ho : Ws o) (hl : o.length = u.length) (hj : off + len ≤ u.length) (hv : Ws v) (hvl : v.length + 1 ≤ len) (hn : n < 4294967296)
    (h1 : o.take off = u.take off) (h2 : o.drop (off + len) = u.drop (off + len)) (hb : b ≤ 1) (h3 : lo + c * 4294967296 ^ len = n * val (v.take len))
    (h4 : val (win o off len) + lo = val (win u off len) + b * 4294967296 ^ len) :
    o = wr u off (fixw len (remW n (val v) (val (win u off len)) len)) ∧ (b = 1 ↔ val (win u off len) < n * val v) := by
  rw [val_take_ge (by omega)] at h3
  have hV : n * val v < 4294967296 ^ len := by
    have h5 := val_lt v hv
    have h6 : 4294967296 ^ (v.length + 1) ≤ 4294967296 ^ len := Nat.pow_le_pow_right (by omega) hvl
    rw [Nat.pow_succ, Nat.mul_comm] at h6
    exact Nat.lt_of_lt_of_le (Nat.mul_lt_mul'' hn h5) h6
  have hc : c = 0 := by
    cases c with
    | zero => rfl
    | succ c => rw [Nat.succ_mul] at h3; omega
  subst hc
  rw [Nat.zero_mul, Nat.add_zero] at h3
  subst h3
  have ho' := val_lt (win o off len) (ws_win ho _ _)
  have hu' := val_lt (win u off len) (ws_win hu _ _)
  rw [len_win (by omega)] at ho' hu'
  have hb' : b = 0 ∨ b = 1 := by omega
  refine ⟨?_, ?_⟩
  · have h7 : win o off len = fixw len (remW n (val v) (val (win u off len)) len) := by
      refine fixw_of (ws_win ho _ _) (len_win (by omega)) ?_
      unfold remW
      rcases hb' with rfl | rfl
      · rw [if_pos (by omega)]; omega
      · rw [if_neg (by omega)]; omega
    rw [← h7]
    exact wr_of h1 h2 (by omega)
  · rcases hb' with rfl | rfl <;> omega
theorem back_end {u o v : List Nat} {off len c : Nat} (ho : Ws o) (hl : o.length = u.length) (hj : off + len ≤ u.length) (hvl : v.length ≤ len)
    (h1 : o.take off = u.take off) (h2 : o.drop (off + len) = u.drop (off + len)) 
    (h4 : val (win o off len) + c * 4294967296 ^ len = val (win u off len) + val (v.take len)) :
    o = wr u off (fixw len ((val (win u off len) + val v) % 4294967296 ^ len)) := by
  rw [val_take_ge (by omega)] at h4
  have ho' := val_lt (win o off len) (ws_win ho _ _)
  rw [len_win (by omega)] at ho'
  have h7 : win o off len = fixw len ((val (win u off len) + val v) % 4294967296 ^ len) := by
    refine fixw_of (ws_win ho _ _) (len_win (by omega)) ?_
    rw [← h4, Nat.add_mul_mod_self_right, Nat.mod_eq_of_lt ho']
  rw [← h7]
  exact wr_of h1 h2 (by omega)
end Go.Lw
namespace Go.Lw
def blen (x : Nat) : Nat := if x = 0 then 0 else x.log2 + 1
theorem u8_in {x : Nat} (h : x < 256) : IntKind.u8.wrap (x : Int) = (x : Int) := by
  simp only [IntKind.wrap, IntKind.signed, IntKind.bits, Bool.false_and, if_false, Bool.false_eq_true]
  omega
theorem blen_lt {x : Nat} : x < 2 ^ blen x := by
  unfold blen
  split
  · next h => subst h; decide
  · exact Nat.lt_log2_self
theorem blen_le {x : Nat} (h : x ≠ 0) : 2 ^ (blen x - 1) ≤ x := by
  unfold blen
  rw [if_neg h, Nat.add_sub_cancel]
  exact Nat.log2_self_le h
theorem blen_of {x k : Nat} (h1 : 2 ^ k ≤ x) (h2 : x < 2 ^ (k + 1)) : blen x = k + 1 := by
  have hx : x ≠ 0 := by intro h; subst h; have := Nat.pow_pos (n := k) (show 0 < 2 by omega); omega
  unfold blen
  rw [if_neg hx, (Nat.log2_eq_iff hx).2 ⟨h1, h2⟩]
theorem blen_shr {x k : Nat} (h : 2 ^ k ≤ x) : blen x = k + blen (x / 2 ^ k) := by
  have h0 : x / 2 ^ k ≠ 0 := by
    have := Nat.div_pos h (Nat.pow_pos (by omega)); omega
  have h1 := blen_le h0
  have h2 := blen_lt (x := x / 2 ^ k)
  have h3 : 1 ≤ blen (x / 2 ^ k) := by unfold blen; rw [if_neg h0]; omega
  generalize blen (x / 2 ^ k) = m at *
  obtain ⟨n, rfl⟩ : ∃ n, m = n + 1 := ⟨m - 1, by omega⟩
  rw [Nat.add_sub_cancel] at h1
  rw [Nat.le_div_iff_mul_le (Nat.pow_pos (by omega)), ← Nat.pow_add] at h1
  rw [Nat.div_lt_iff_lt_mul (Nat.pow_pos (by omega)), ← Nat.pow_add] at h2
  rw [show k + (n + 1) = (n + k) + 1 by omega]
  exact blen_of h1 (by rw [show n + k + 1 = n + 1 + k by omega]; exact h2)
/-- How far a number is from the highest bit. -/
theorem lead_le {x : Nat} (h : x ≠ 0) (hx : x < 4294967296) : blen x ≤ 32 ∧ 1 ≤ blen x ∧ 2147483648 ≤ 2 ^ (32 - blen x) * x ∧ 2 ^ (32 - blen x) * x < 4294967296 := by
  have h1 := blen_le h
  have h2 := blen_lt (x := x)
  have h3 : 1 ≤ blen x := by unfold blen; rw [if_neg h]; omega
  have h4 : blen x ≤ 32 := by
    rcases Nat.lt_or_ge 32 (blen x) with h5 | h5
    · have : 2 ^ 32 ≤ 2 ^ (blen x - 1) := two_pow_le (by omega)
      omega
    · exact h5
  refine ⟨h4, h3, ?_, ?_⟩
  · have := Nat.mul_le_mul_left (2 ^ (32 - blen x)) h1
    rw [← Nat.pow_add, show 32 - blen x + (blen x - 1) = 31 by omega] at this
    omega
  · have := (Nat.mul_lt_mul_left (a := 2 ^ (32 - blen x)) (Nat.pow_pos (by omega))).2 h2
    rw [← Nat.pow_add, show 32 - blen x + blen x = 32 by omega] at this
    omega
def tabOk (b : ByteArray) : Bool := Nat.beq b.data.toList.length 256 && (List.range 256).all fun y => Nat.beq (b.data.toList.getD y 0).toNat (blen y)
theorem s_idxTab {P : Program} {N : Nat} {R : Array Oper} {s : AS} {d : Nat} {x ix : Operand} {kk : IntKind} {i : Int} {y : Nat} {b : ByteArray} {T t : TypeId} {ti : TI} {pos : String} {after : Array Edge}
    (hx : Ev s x (.v (.string b))) (hi : Ev s ix (.v (.int kk i))) (hT : tinfo P T = some ti) (hk : ti.k = .string)
    (hb : tabOk b = true) (h0 : i = (y : Int)) (hy : y < 256) (hN : Nat.blt d N = true) :
    Step P N R s ⟨some d, .index T x ix, t, pos, after, none⟩ ⟨some (.v (.int .u8 (blen y))), [], rtOf x ++ rtOf ix, []⟩ := by
  subst h0
  simp only [tabOk, Bool.and_eq_true, List.all_eq_true, List.mem_range] at hb
  have hs : b.size = 256 := by have := Nat.eq_of_beq_eq_true hb.1; rw [Array.length_toList] at this; exact this
  have h1 := Nat.eq_of_beq_eq_true (hb.2 y hy)
  have := s_idxStr (R := R) (N := N) (t := t) (pos := pos) (after := after) hx hi hT hk (by omega) (by omega) hN
  rw [Int.toNat_natCast] at this
  rw [List.getD_eq_getElem?_getD, Array.getElem?_toList, ← Array.getD_eq_getD_getElem?] at h1
  rwa [h1] at this
theorem blen_le8 {x : Nat} (h : x < 256) : blen x ≤ 8 := by
  rcases Nat.lt_or_ge 8 (blen x) with h5 | h5
  · have h0 : x ≠ 0 := by intro h0; subst h0; simp [blen] at h5
    have h1 := blen_le h0
    have : 2 ^ 8 ≤ 2 ^ (blen x - 1) := two_pow_le (by omega)
    omega
  · exact h5
end Go.Lw
namespace Go.Lw
/-- What the digit is guessed from. -/
structure Dig (V W P V' W' top next third head : Nat) : Prop where
  hV : V = V' + P * (next + 4294967296 * top)
  hW : W = W' + P * (third + 4294967296 * head)
  hV' : V' < P
  hW' : W' < P
  hnext : next < 4294967296
  hthird : third < 4294967296
  htop : 2147483648 ≤ top
  htopB : top < 4294967296
  hlt : W < V * 4294967296
namespace Dig
variable {V W P V' W' top next third head : Nat}
theorem vpos (h : Dig V W P V' W' top next third head) : 0 < V := by
  have := h.hlt; omega
theorem q_lt (h : Dig V W P V' W' top next third head) : W / V < 4294967296 := by
  rw [Nat.div_lt_iff_lt_mul h.vpos, Nat.mul_comm]; exact h.hlt
theorem mul_le (h : Dig V W P V' W' top next third head) {q : Nat} (hq : q * V ≤ W) : q * (next + 4294967296 * top) ≤ third + 4294967296 * head := by
  have h1 : q * (P * (next + 4294967296 * top)) ≤ q * V := Nat.mul_le_mul_left _ (by have := h.hV; omega)
  have h2 := h.hW
  have h3 := h.hW'
  have h4 : P * (q * (next + 4294967296 * top)) < P * (third + 4294967296 * head + 1) := by
    rw [Nat.mul_add P _ 1, Nat.mul_one]
    have : P * (q * (next + 4294967296 * top)) = q * (P * (next + 4294967296 * top)) := by grind
    omega
  have := Nat.lt_of_mul_lt_mul_left h4
  omega
theorem up (h : Dig V W P V' W' top next third head) {q : Nat} (hq : q * V ≤ W) : q * top ≤ head := by
  have h1 := h.mul_le hq
  have h2 := h.hthird
  rw [Nat.mul_add, show q * (4294967296 * top) = 4294967296 * (q * top) by grind] at h1
  omega
theorem first (h : Dig V W P V' W' top next third head) : W / V ≤ head / top := by
  have := h.htop
  rw [Nat.le_div_iff_mul_le (by omega)]
  exact h.up (Nat.div_mul_le_self W V)
theorem head_le (h : Dig V W P V' W' top next third head) : head ≤ 4294967296 * top + next := by
  have h1 := h.hlt
  have h2 := h.hV
  have h3 := h.hW
  have h4 := h.hV'
  have h5 : P * (third + 4294967296 * head) < P * (4294967296 * (next + 4294967296 * top + 1)) := by
    have : V * 4294967296 < P * (4294967296 * (next + 4294967296 * top + 1)) := by
      rw [h2, Nat.add_mul, show P * (next + 4294967296 * top) * 4294967296 = P * (4294967296 * (next + 4294967296 * top)) by grind, Nat.mul_add 4294967296 _ 1, Nat.mul_add P]
      omega
    omega
  have := Nat.lt_of_mul_lt_mul_left h5
  omega
theorem step (h : Dig V W P V' W' top next third head) {g r : Nat} (hg : W / V ≤ g) (he : g * top + r = head) (hc : 4294967296 ≤ g ∨ r * 4294967296 + third < g * next) : W / V < g := by
  rcases hc with hc | hc
  · have := h.q_lt; omega
  · refine Nat.lt_of_le_of_ne hg ?_
    intro hq
    have h1 := h.mul_le (Nat.div_mul_le_self W V)
    rw [hq, ← he, Nat.mul_add, Nat.mul_add, show g * (4294967296 * top) = 4294967296 * (g * top) by grind] at h1
    omega
theorem last (h : Dig V W P V' W' top next third head) {g r : Nat} (he : g * top + r = head) (hc : ¬ (r < 4294967296 ∧ (4294967296 ≤ g ∨ r * 4294967296 + third < g * next))) :
    g < 4294967296 ∧ g ≤ W / V + 1 := by
  have hh := h.head_le
  have hn := h.hnext
  have htop := h.htop
  have hg : g < 4294967296 ∧ g * next ≤ r * 4294967296 + third := by
    rcases Nat.lt_or_ge r 4294967296 with hr | hr
    · have h1 : ¬ (4294967296 ≤ g ∨ r * 4294967296 + third < g * next) := fun h' => hc ⟨hr, h'⟩
      omega
    · have h1 : g < 4294967296 := by
        rcases Nat.lt_or_ge g 4294967296 with h2 | h2
        · exact h2
        · have := Nat.mul_le_mul_right top h2
          omega
      refine ⟨h1, ?_⟩
      have h2 : g * next ≤ 4294967296 * 4294967296 := Nat.mul_le_mul (by omega) (by omega)
      have h3 : 4294967296 * 4294967296 ≤ r * 4294967296 := Nat.mul_le_mul_right _ hr
      omega
  refine ⟨hg.1, ?_⟩
  have h1 : g * (next + 4294967296 * top) ≤ third + 4294967296 * head := by
    rw [← he, Nat.mul_add, Nat.mul_add, show g * (4294967296 * top) = 4294967296 * (g * top) by grind]
    omega
  have h2 : g * V ≤ W + V := by
    have h3 : g * V' ≤ 4294967296 * P := Nat.mul_le_mul (by omega) (by have := h.hV'; omega)
    have h4 : P * (g * (next + 4294967296 * top)) ≤ P * (third + 4294967296 * head) := Nat.mul_le_mul_left _ h1
    have h5 : P * 4294967296 ≤ P * (next + 4294967296 * top) := Nat.mul_le_mul_left _ (by omega)
    have h6 := h.hV
    have h7 := h.hW
    have h8 : g * V = g * V' + P * (g * (next + 4294967296 * top)) := by rw [h6]; grind
    omega
  have h9 : (g - 1) * V ≤ W := by rw [Nat.sub_mul]; omega
  have := (Nat.le_div_iff_mul_le h.vpos).2 h9
  omega
end Dig
theorem val_two {l : List Nat} {n : Nat} : val (l.take (n + 2)) = val (l.take n) + 4294967296 ^ n * (wordW l n + 4294967296 * wordW l (n + 1)) := by
  rw [val_take_word, val_take_word, Nat.pow_succ]; grind
theorem val_three {l : List Nat} {n : Nat} : val (l.take (n + 3)) = val (l.take n) + 4294967296 ^ n * (wordW l n + 4294967296 * (wordW l (n + 2) * 4294967296 + wordW l (n + 1))) := by
  rw [val_take_word, val_two, Nat.pow_add]; grind
theorem val_take_lt {l : List Nat} (h : Ws l) (n : Nat) : val (l.take n) < 4294967296 ^ n := by
  have h1 := val_lt (l.take n) (ws_take h n)
  exact Nat.lt_of_lt_of_le h1 (Nat.pow_le_pow_right (by omega) (by simp; omega))
/-- The words of the divisor and of the part. -/
theorem dig_of {v p : List Nat} {n : Nat} (hv : Ws v) (hp : Ws p) (hl : v.length = n + 2) (hpl : p.length = n + 3) (ht : 2147483648 ≤ wordW v (n + 1)) (h : val p < val v * 4294967296) :
    Dig (val v) (val p) (4294967296 ^ n) (val (v.take n)) (val (p.take n)) (wordW v (n + 1)) (wordW v n) (wordW p n) (wordW p (n + 2) * 4294967296 + wordW p (n + 1)) where
  hV := by rw [← val_two, val_take_ge (by omega)]
  hW := by rw [← val_three, val_take_ge (by omega)]
  hV' := val_take_lt hv n
  hW' := val_take_lt hp n
  hnext := wordW_lt hv n
  hthird := wordW_lt hp n
  htop := ht
  htopB := wordW_lt hv (n + 1)
  hlt := h
theorem win_wr {u l : List Nat} {j : Nat} (h : j ≤ u.length) : win (wr u j l) j l.length = l := by
  unfold win wr
  rw [List.append_assoc, List.drop_append, List.drop_eq_nil_of_le (by simp; omega)]
  simp [Nat.min_eq_left h]
theorem wr_wr {u l l' : List Nat} {j : Nat} (h : j ≤ u.length) (hl : l.length = l'.length) : wr (wr u j l) j l' = wr u j l' := by
  have h1 := wr_take (l := l) h
  have h2 := wr_drop (l := l) h
  rw [hl] at h2
  rw [wr, h1, h2, ← wr]
/-- The part after the digit's product was taken from it. -/
theorem part_end {W V g len : Nat} (hV : 0 < V) (hVl : V ≤ 4294967296 ^ len) (hW : W < 4294967296 ^ len) (h1 : W / V ≤ g) (h2 : g ≤ W / V + 1) :
    (W < g * V → (remW g V W len + V) % 4294967296 ^ len = W % V ∧ g - 1 = W / V ∧ 1 ≤ g) ∧ (¬ W < g * V → remW g V W len = W % V ∧ g = W / V) := by
  have h3 := Nat.div_add_mod W V
  have h4 := Nat.mod_lt W hV
  generalize W / V = q at *
  generalize W % V = r at *
  have h5 : V * q = q * V := Nat.mul_comm _ _
  refine ⟨fun h => ?_, fun h => ?_⟩
  · have hg : g = q + 1 := by
      rcases Nat.lt_or_ge q g with h6 | h6
      · omega
      · have : g = q := by omega
        subst this; omega
    subst hg
    rw [Nat.succ_mul] at h
    refine ⟨?_, by omega, by omega⟩
    unfold remW
    rw [Nat.succ_mul, if_neg (by omega), show W + 4294967296 ^ len - (q * V + V) + V = r + 4294967296 ^ len by omega, Nat.add_mod_right, Nat.mod_eq_of_lt (by omega)]
  · have hg : g = q := by
      rcases Nat.lt_or_ge q g with h6 | h6
      · have : g = q + 1 := by omega
        subst this; rw [Nat.succ_mul] at h; omega
      · omega
    subst hg
    refine ⟨?_, rfl⟩
    unfold remW
    rw [if_pos (by omega)]; omega
/-- A step of the long division. -/
theorem div_step {u q : List Nat} {k lv V U : Nat} (hu : Ws u) (hk : k + lv + 1 ≤ u.length) (hq : k < q.length) (hV : V < 4294967296 ^ lv) (h1 : val (u.drop (k + 1)) < V) (h2 : U = V * (4294967296 ^ (k + 1) * val (q.drop (k + 1))) + val u) :
    val (win u k (lv + 1)) < V * 4294967296 ∧ val ((wr u k (fixw (lv + 1) (val (win u k (lv + 1)) % V))).drop k) < V ∧
    U = V * (4294967296 ^ k * val ((q.set k (val (win u k (lv + 1)) / V)).drop k)) + val (wr u k (fixw (lv + 1) (val (win u k (lv + 1)) % V))) := by
  have h0 : val (u.drop (k + (lv + 1))) = 0 := by
    have h3 := val_drop_win (u := u) (j := k + 1) (n := lv) (by omega)
    rw [show k + 1 + lv = k + (lv + 1) by omega] at h3
    rcases Nat.eq_zero_or_pos (val (u.drop (k + (lv + 1)))) with h4 | h4
    · exact h4
    · have := Nat.mul_le_mul_left (4294967296 ^ lv) h4
      omega
  have hd := val_drop_win (u := u) (j := k) (n := lv + 1) (by omega)
  rw [h0, Nat.mul_zero, Nat.add_zero] at hd
  have hw := wordW_lt hu k
  have hd2 := val_drop (l := u) (i := k) (by omega)
  have hW : val (win u k (lv + 1)) < V * 4294967296 := by rw [← hd, hd2]; omega
  have hVp : 0 < V := by omega
  have hr := Nat.mod_lt (val (win u k (lv + 1))) hVp
  have hm := Nat.div_add_mod (val (win u k (lv + 1))) V
  have hlen : (fixw (lv + 1) (val (win u k (lv + 1)) % V)).length = lv + 1 := len_fixw _ _
  have hx : val (win u k (lv + 1)) % V < 4294967296 ^ (lv + 1) := by rw [Nat.pow_succ]; omega
  have hwd : val ((wr u k (fixw (lv + 1) (val (win u k (lv + 1)) % V))).drop k) = val (win u k (lv + 1)) % V := by
    rw [val_wr_drop (by omega), hlen, h0, val_fixw _ _ hx]; omega
  refine ⟨hW, by omega, ?_⟩
  rw [val_take_drop (u := wr u k _) (j := k) (by rw [len_wr (by omega)]; omega), wr_take (by omega), hwd, val_set_drop hq, h2, val_take_drop (u := u) (j := k) (by omega), hd]
  generalize val (win u k (lv + 1)) % V = r at *
  generalize val (win u k (lv + 1)) / V = d at *
  rw [← hm, Nat.pow_succ]
  grind
theorem div_end {A Bv n Q R : Nat} (h : 2 ^ n * A = 2 ^ n * Bv * Q + R) (hR : R < 2 ^ n * Bv) : Q = A / Bv ∧ R / 2 ^ n = A % Bv := by
  obtain ⟨h1, h2⟩ := div_mod_of h hR
  rw [Nat.mul_div_mul_left _ _ (Nat.pow_pos (by omega))] at h1
  rw [Nat.mul_mod_mul_left] at h2
  rw [← h1, ← h2, Nat.mul_div_cancel_left _ (Nat.pow_pos (by omega))]
  exact ⟨rfl, rfl⟩
end Go.Lw
namespace Go.Lw
theorem fixw_take : ∀ k v, (fixw (k + 1) v).take k = fixw k v
  | 0, _ => by simp [fixw]
  | k + 1, v => by
    rw [fixw, List.take_succ_cons, fixw_take k]
    rfl
theorem wordW_win {u : List Nat} {j n i : Nat} (h : i < n) : wordW (win u j n) i = wordW u (j + i) := by
  rw [← wordW_drop]
  simp [win, wordW, h]
theorem getwin {u : List Nat} {j n i : Nat} (h : i < n) (h2 : j + n ≤ u.length) : (u.map u32)[j + i]? = some (u32 (wordW (win u j n) i)) := by
  rw [wordW_win h]; exact getw (by omega)
theorem norm_b {b : List Nat} {n : Nat} (hb : Ws b) (nb : Nz b) (hl : b.length = n + 2) :
    ∃ sh v, sh = 32 - blen (wordW b (n + 1)) ∧ sh < 32 ∧ v = fixw (n + 2) (2 ^ sh * val b) ∧ Ws v ∧ v.length = n + 2 ∧ val v = 2 ^ sh * val b ∧ 2147483648 ≤ wordW v (n + 1) ∧ wordW b (n + 1) ≠ 0 ∧
      4294967296 ^ (n + 1) ≤ val b := by
  have ht : wordW b (n + 1) ≠ 0 := by
    refine nb _ ?_
    rw [List.getLast?_eq_getElem?, hl]
    exact word_get (by omega)
  have htB := wordW_lt hb (n + 1)
  obtain ⟨h1, h2, h3, h4⟩ := lead_le ht htB
  have h5 := blen_lt (x := wordW b (n + 1))
  have hv : val b = val (b.take (n + 1)) + 4294967296 ^ (n + 1) * wordW b (n + 1) := by
    rw [← val_take_word, val_take_ge (by omega)]
  have hlt := val_take_lt hb (n + 1)
  have hmul : 2 ^ (32 - blen (wordW b (n + 1))) * (wordW b (n + 1) + 1) ≤ 4294967296 := by
    have := Nat.mul_le_mul_left (2 ^ (32 - blen (wordW b (n + 1)))) (show wordW b (n + 1) + 1 ≤ 2 ^ blen (wordW b (n + 1)) from h5)
    rw [← Nat.pow_add, show 32 - blen (wordW b (n + 1)) + blen (wordW b (n + 1)) = 32 by omega] at this
    exact this
  have hlo : 4294967296 ^ (n + 1) ≤ val b := by
    have := Nat.mul_le_mul_left (4294967296 ^ (n + 1)) (show 1 ≤ wordW b (n + 1) by omega)
    omega
  generalize hsh : 32 - blen (wordW b (n + 1)) = sh at *
  have hX : 2 ^ sh * val b < 4294967296 ^ (n + 2) := by
    have e1 : val b < 4294967296 ^ (n + 1) * (wordW b (n + 1) + 1) := by rw [Nat.mul_add]; omega
    have e2 : 2 ^ sh * val b < 2 ^ sh * (4294967296 ^ (n + 1) * (wordW b (n + 1) + 1)) := (Nat.mul_lt_mul_left (Nat.pow_pos (by omega))).2 e1
    have e3 : 2 ^ sh * (4294967296 ^ (n + 1) * (wordW b (n + 1) + 1)) = 4294967296 ^ (n + 1) * (2 ^ sh * (wordW b (n + 1) + 1)) := by grind
    have e4 := Nat.mul_le_mul_left (4294967296 ^ (n + 1)) hmul
    rw [← Nat.pow_succ] at e4
    rw [e3] at e2
    exact Nat.lt_of_lt_of_le e2 e4
  refine ⟨sh, _, rfl, by omega, rfl, ws_fixw _ _, len_fixw _ _, val_fixw _ _ hX, ?_, ht, hlo⟩
  have hv2 : val (fixw (n + 2) (2 ^ sh * val b)) = val ((fixw (n + 2) (2 ^ sh * val b)).take (n + 1)) + 4294967296 ^ (n + 1) * wordW (fixw (n + 2) (2 ^ sh * val b)) (n + 1) := by
    rw [← val_take_word, val_take_ge (by rw [len_fixw]; omega)]
  rw [val_fixw _ _ hX] at hv2
  have hlt2 := val_take_lt (ws_fixw (n + 2) (2 ^ sh * val b)) (n + 1)
  have e5 : 4294967296 ^ (n + 1) * (2 ^ sh * wordW b (n + 1)) ≤ 2 ^ sh * val b := by
    have := Nat.mul_le_mul_left (2 ^ sh) (show 4294967296 ^ (n + 1) * wordW b (n + 1) ≤ val b by omega)
    have e6 : 2 ^ sh * (4294967296 ^ (n + 1) * wordW b (n + 1)) = 4294967296 ^ (n + 1) * (2 ^ sh * wordW b (n + 1)) := by grind
    omega
  have e7 : 4294967296 ^ (n + 1) * (2 ^ sh * wordW b (n + 1)) < 4294967296 ^ (n + 1) * (wordW (fixw (n + 2) (2 ^ sh * val b)) (n + 1) + 1) := by rw [Nat.mul_add (4294967296 ^ (n + 1)) _ 1]; omega
  have := Nat.lt_of_mul_lt_mul_left e7
  omega
theorem init_u {a : List Nat} {sh lq n Bv : Nat} (ha : Ws a) (hsh : sh < 32) (hl : a.length + 1 = lq + (n + 2)) (hB : 4294967296 ^ (n + 1) ≤ Bv) :
    val (fixw (a.length + 1) (2 ^ sh * val a)) = 2 ^ sh * val a ∧ val ((fixw (a.length + 1) (2 ^ sh * val a)).drop lq) < 2 ^ sh * Bv := by
  have h1 := val_lt a ha
  have h2 : 2 ^ sh ≤ 2 ^ 31 := two_pow_le (by omega)
  have hp : 0 < 2 ^ sh := Nat.pow_pos (by omega)
  have h3 : 2 ^ sh * val a < 2 ^ sh * 4294967296 ^ a.length := (Nat.mul_lt_mul_left hp).2 h1
  have hX : 2 ^ sh * val a < 4294967296 ^ (a.length + 1) := by
    have := Nat.mul_le_mul_right (4294967296 ^ a.length) (show 2 ^ sh ≤ 4294967296 by omega)
    rw [Nat.pow_succ]; omega
  refine ⟨val_fixw _ _ hX, ?_⟩
  have h4 := val_div (ws_fixw (a.length + 1) (2 ^ sh * val a)) lq (by rw [len_fixw]; omega)
  rw [val_fixw _ _ hX] at h4
  rw [← h4, Nat.div_lt_iff_lt_mul (Nat.pow_pos (by omega))]
  have h5 : a.length = (n + 1) + lq := by omega
  rw [h5, Nat.pow_add] at h3
  have h6 := Nat.mul_le_mul_left (2 ^ sh) (Nat.mul_le_mul_right (4294967296 ^ lq) hB)
  rw [Nat.mul_assoc]
  omega
theorem hH0 {s : AS} : ∀ (k : Nat) (z : Blk), lk ([] : Hp) k = some z → s.blk k = some z := fun _ _ h => by cases h
theorem hH1 {s : AS} {k0 : Nat} {x : Blk} (h : s.blk k0 = some x) : ∀ (k : Nat) (z : Blk), lk [(k0, some x)] k = some z → s.blk k = some z := by
  intro k z hz
  rw [lk_cons] at hz
  split at hz
  · rename_i e; cases hz; rw [e]; exact h
  · cases hz
theorem fin_sub2 {s : AS} {x y x' y' : AV} (h : Sub x x') (h' : Sub y y') : Fin s (resT [x, y]) (.tup [x', y']) [] := by
  refine Fin.pure.sub ?_
  intro g S m v hr
  cases hr with
  | tup hn hr =>
    refine .tup (by simpa using hn) ?_
    intro j u c hu hc
    match j, hc with
    | 0, hc => cases hc; exact h _ _ _ _ (hr 0 u x hu rfl)
    | 1, hc => cases hc; exact h' _ _ _ _ (hr 1 u y hu rfl)
theorem take_v {b v : List Nat} {n X : Nat} (hn : b.length = n + 2) (h : v = fixw (n + 2) X) :
    AV.fz 900 1 ((fixw (b.length + 1) X).map u32) (.ms 900 1 0 b.length) = ws v := by
  rw [fz_ms (by simp [len_fixw]), h, ← hn, List.drop_zero, ← List.map_take, fixw_take, ws]
theorem u64_sub1 {x : Nat} (h : 1 ≤ x) (hx : x < 18446744073709551616) : IntKind.u64.wrap (iarith .sub (x : Int) 1) = ((x - 1 : Nat) : Int) := by
  have h1 := u64_sub (x := x) (y := 1) hx (by omega)
  rw [if_pos h] at h1
  exact h1
theorem dig_cond {r g G R : Nat} : (cond (icmp .lss (r : Int) 4294967296) (cond (icmp .geq (g : Int) 4294967296) true (icmp .gtr (G : Int) (R : Int))) false) = true ↔
    (r < 4294967296 ∧ (4294967296 ≤ g ∨ R < G)) := by
  have e1 : icmp .lss (r : Int) 4294967296 = decide (r < 4294967296) := by rw [Bool.eq_iff_iff]; simp only [icmp, decide_eq_true_eq]; omega
  have e2 : icmp .geq (g : Int) 4294967296 = decide (4294967296 ≤ g) := by rw [Bool.eq_iff_iff]; simp only [icmp, decide_eq_true_eq]; omega
  have e3 : icmp .gtr (G : Int) (R : Int) = decide (R < G) := by rw [Bool.eq_iff_iff]; simp only [icmp, decide_eq_true_eq]; omega
  rw [e1, e2, e3]
  by_cases h1 : r < 4294967296
  · by_cases h2 : 4294967296 ≤ g
    · rw [decide_eq_true h1, decide_eq_true h2]; exact ⟨fun _ => ⟨h1, .inl h2⟩, fun _ => rfl⟩
    · rw [decide_eq_true h1, decide_eq_false h2]
      show decide (R < G) = true ↔ _
      rw [decide_eq_true_eq]
      exact ⟨fun h => ⟨h1, .inr h⟩, fun h => h.2.resolve_left h2⟩
  · rw [decide_eq_false h1]
    constructor
    · intro h; exact Bool.noConfusion h
    · intro h; exact absurd h.1 h1
theorem wr_back {u : List Nat} {k n V r : Nat} {l : List Nat} (hk : k + n ≤ u.length) (hl : l.length = n) (h : (val l + V) % 4294967296 ^ n = r) :
    wr (wr u k l) k (fixw n ((val (win (wr u k l) k n) + V) % 4294967296 ^ n)) = wr u k (fixw n r) := by
  subst hl
  rw [wr_wr (by omega) (by rw [len_fixw]), win_wr (by omega), h]
theorem hH2 {s : AS} {k1 k2 : Nat} {x1 x2 : Blk} (h1 : s.blk k1 = some x1) (h2 : s.blk k2 = some x2) : ∀ (k : Nat) (z : Blk), lk [(k1, some x1), (k2, some x2)] k = some z → s.blk k = some z := by
  intro k z hz
  rw [lk_cons] at hz
  split at hz
  · rename_i e; cases hz; rw [e]; exact h1
  · rw [lk_cons] at hz
    split at hz
    · rename_i e; cases hz; rw [e]; exact h2
    · cases hz
end Go.Lw
namespace Go.Lw
/-- How two numbers compare. -/
def cmp3 (x y : Int) : Int := if x < y then -1 else if y < x then 1 else 0
theorem sgn_neg (b : Bool) (n : Nat) : sgn (!b) n = -(sgn b n) := by cases b <;> simp [sgn]
theorem Wh.small {w : Wh} (h : w.ok) (hl : w.mag.length < big) : w.m.length < big := Nat.lt_of_le_of_lt Wh.m_le hl
theorem sign_end {w : Wh} (h : w.ok) : (w.m.length = 0 → w.z.sign = 0) ∧ (w.m.length ≠ 0 → w.neg = true → w.z.sign = -1) ∧ (w.m.length ≠ 0 → w.neg = false → w.z.sign = 1) := by
  have h1 : w.m.length ≠ 0 → w.valid = true := by
    intro h0
    unfold Wh.m at h0
    split at h0
    · assumption
    · exact absurd rfl h0
  refine ⟨?_, ?_, ?_⟩
  · intro h0
    have h2 : w.m = [] := List.length_eq_zero_iff.1 h0
    have h3 : val w.m = 0 := by rw [h2]; rfl
    have : w.z = 0 := by unfold Wh.z; rw [h3]; split <;> rfl
    rw [this]; rfl
  · intro h0 hn
    have h2 : w.n = true := by unfold Wh.n; rw [h1 h0, hn]; rfl
    have h3 := Wh.n_val h2
    rw [Int.sign_eq_neg_one_iff_neg]
    unfold Wh.z; rw [if_pos h2]; omega
  · intro h0 hn
    have h2 : w.n = false := by unfold Wh.n; rw [h1 h0, hn]; rfl
    have h3 := val_pos w.nz (fun h => h0 (by rw [h]; rfl))
    rw [Int.sign_eq_one_iff_pos]
    unfold Wh.z; rw [h2]; simp; omega
theorem add_same {a b : Wh} (h : a.n = b.n) : sgn a.n (val a.m + val b.m) = a.z + b.z := by
  rw [Wh.z_eq, Wh.z_eq, ← h]
  unfold sgn; split <;> omega
theorem add_left {a b : Wh} (h : a.n ≠ b.n) (hl : val b.m ≤ val a.m) : sgn a.n (val a.m - val b.m) = a.z + b.z := by
  rw [Wh.z_eq, Wh.z_eq]
  cases ha : a.n <;> cases hb : b.n <;> simp_all [sgn] <;> omega
theorem add_right {a b : Wh} (h : a.n ≠ b.n) (hl : val a.m ≤ val b.m) : sgn b.n (val b.m - val a.m) = a.z + b.z := by
  rw [Int.add_comm]; exact add_left (fun h' => h h'.symm) hl
theorem mul_sgn {a b : Wh} : sgn (a.n != b.n) (val a.m * val b.m) = a.z * b.z := by
  rw [Wh.z_eq, Wh.z_eq]
  cases a.n <;> cases b.n <;> simp [sgn, Int.neg_mul, Int.mul_neg]
theorem sign_cases (z : Int) : (z.sign = 1 ∧ 0 < z) ∨ (z.sign = 0 ∧ z = 0) ∨ (z.sign = -1 ∧ z < 0) := by
  rcases Int.lt_trichotomy z 0 with h | h | h
  · exact .inr (.inr ⟨Int.sign_eq_neg_one_iff_neg.2 h, h⟩)
  · subst h; exact .inr (.inl ⟨rfl, rfl⟩)
  · exact .inl ⟨Int.sign_eq_one_iff_pos.2 h, h⟩
theorem cmp_sign {a b : Wh} (h : a.z.sign ≠ b.z.sign) : (a.z.sign < b.z.sign → cmp3 a.z b.z = -1) ∧ (¬ a.z.sign < b.z.sign → cmp3 a.z b.z = 1) := by
  have h1 := sign_cases a.z
  have h2 := sign_cases b.z
  unfold cmp3
  generalize a.z.sign = s at *
  generalize b.z.sign = t at *
  generalize a.z = x at *
  generalize b.z = y at *
  constructor <;> intro h3 <;> (repeat' split) <;> omega
theorem cmp_same {a b : Wh} (h : a.z.sign = b.z.sign) : cmp3 a.z b.z = (if a.n then -(if val a.m < val b.m then -1 else if val b.m < val a.m then 1 else 0 : Int) else if val a.m < val b.m then -1 else if val b.m < val a.m then 1 else 0) := by
  have ha := Wh.n_eq (w := a)
  have hb := Wh.n_eq (w := b)
  have h1 := Int.sign_trichotomy a.z
  have hz1 := Wh.z_eq (w := a)
  have hz2 := Wh.z_eq (w := b)
  have hn : a.n = b.n := by
    rw [ha, hb, decide_eq_decide, ← Int.sign_eq_neg_one_iff_neg, ← Int.sign_eq_neg_one_iff_neg, h]
  rw [← hn] at hz2
  unfold cmp3
  rw [hz1, hz2]
  cases a.n <;> simp only [sgn, if_true, if_false, Bool.false_eq_true] <;> (repeat' split) <;> omega
theorem ediv_of {a b q r : Int} (hb : b ≠ 0) (h : a = b * q + r) (h0 : 0 ≤ r) (h1 : r < b.natAbs) : a / b = q ∧ a % b = r := by
  have h2 := Int.mul_ediv_add_emod a b
  have h3 := Int.emod_nonneg a hb
  have h4 := Int.emod_lt a hb
  have h5 : b * (a / b - q) = r - a % b := by rw [Int.mul_sub]; omega
  have h6 : a / b - q = 0 := by
    rcases Int.lt_trichotomy (a / b - q) 0 with h | h | h
    · exfalso
      have : b.natAbs ≤ (r - a % b).natAbs := by rw [← h5, Int.natAbs_mul]; exact Nat.le_mul_of_pos_right _ (by omega)
      omega
    · exact h
    · exfalso
      have : b.natAbs ≤ (r - a % b).natAbs := by rw [← h5, Int.natAbs_mul]; exact Nat.le_mul_of_pos_right _ (by omega)
      omega
  rw [h6, Int.mul_zero] at h5
  omega
theorem div_low {a b : Wh} (hb : val b.m ≠ 0) (h : ¬ (a.n = true ∧ 0 < val a.m % val b.m)) :
    sgn (a.n != b.n) (val a.m / val b.m) = a.z / b.z ∧ (val a.m % val b.m : Nat) = a.z % b.z := by
  have h1 := Nat.div_add_mod (val a.m) (val b.m)
  have h2 := Nat.mod_lt (val a.m) (show 0 < val b.m by omega)
  have hz := Wh.abs (w := b)
  have hb0 : b.z ≠ 0 := by omega
  obtain ⟨e1, e2⟩ := ediv_of (a := a.z) (b := b.z) (q := sgn (a.n != b.n) (val a.m / val b.m)) (r := (val a.m % val b.m : Nat)) hb0 (by
    rw [Wh.z_eq, Wh.z_eq]
    generalize val a.m / val b.m = q at *
    generalize val a.m % val b.m = r at *
    rw [← h1]
    have h9 : a.n = true → r = 0 := fun h3 => by
      rcases Nat.eq_zero_or_pos r with h4 | h4
      · exact h4
      · exact absurd ⟨h3, h4⟩ h
    cases ha : a.n with
    | false => cases hbn : b.n <;> simp [sgn] <;> grind
    | true => have := h9 ha; subst this; cases hbn : b.n <;> simp [sgn] <;> grind) (by omega) (by omega)
  exact ⟨e1.symm, e2.symm⟩
theorem div_high {a b : Wh} (hb : val b.m ≠ 0) (ha : a.n = true) (hr : 0 < val a.m % val b.m) :
    sgn (a.n != b.n) (val a.m / val b.m + 1) = a.z / b.z ∧ ((val b.m - val a.m % val b.m : Nat) : Int) = a.z % b.z := by
  have h1 := Nat.div_add_mod (val a.m) (val b.m)
  have h2 := Nat.mod_lt (val a.m) (show 0 < val b.m by omega)
  have hz := Wh.abs (w := b)
  have hb0 : b.z ≠ 0 := by omega
  obtain ⟨e1, e2⟩ := ediv_of (a := a.z) (b := b.z) (q := sgn (a.n != b.n) (val a.m / val b.m + 1)) (r := (val b.m - val a.m % val b.m : Nat)) hb0 (by
    rw [Wh.z_eq, Wh.z_eq]
    generalize val a.m / val b.m = q at *
    generalize val a.m % val b.m = r at *
    rw [← h1, ha]
    cases hbn : b.n <;> simp [sgn] <;> rw [Int.ofNat_sub (by omega)] <;> grind) (by omega) (by omega)
  exact ⟨e1.symm, e2.symm⟩
end Go.Lw
namespace Go.Lw
abbrev lim : Nat := 137438953472
/-- A whole number of not too many words. -/
def Zs (z : Int) : Prop := ∃ k, k ≤ 274877906945 ∧ Lz k z
theorem Zs.ok {z : Int} (h : Zs z) : (ofInt z).ok := by
  obtain ⟨k, hk, hz⟩ := h
  refine ⟨ws_ofNat _, ?_⟩
  have := hz.len
  unfold maxL
  show (ofNat z.natAbs).length ≤ _
  omega
theorem Zs.len {z : Int} (h : Zs z) : (ofInt z).mag.length ≤ 274877906945 := by
  obtain ⟨k, hk, hz⟩ := h
  have := hz.len
  show (ofNat z.natAbs).length ≤ _
  omega
theorem Zs.neg {z : Int} (h : Zs z) : Zs (-z) := by
  obtain ⟨k, hk, hz⟩ := h
  exact ⟨k, hk, hz.neg⟩
theorem Zs.of_le {x y : Int} (h : Zs x) (h' : y.natAbs ≤ x.natAbs) : Zs y := by
  obtain ⟨k, hk, hz⟩ := h
  exact ⟨k, hk, hz.of_le h'⟩
structure Rt where
  neg : Bool
  num : List Nat
  den : List Nat
namespace Rt
def av (r : Rt) : AV := .agg [bl r.neg, ws r.num, ws r.den]
def n0 (r : Rt) : Wh := ⟨false, r.num⟩
def d0 (r : Rt) : Wh := ⟨false, r.den⟩
def valid (r : Rt) : Bool :=
  if r.num = [] ∧ r.den = [] then !r.neg
  else if r.num = [] ∨ r.den = [] then false
  else r.n0.valid && r.d0.valid && decide (Nat.gcd (val r.num) (val r.den) = 1)
def q (r : Rt) : Rat := if r.valid = true ∧ r.num ≠ [] then mkRat (sgn r.neg (val r.num)) (val r.den) else 0
def ok (r : Rt) : Prop := Ws r.num ∧ Ws r.den ∧ r.num.length ≤ lim ∧ r.den.length ≤ lim
end Rt
/-- The form of a rational number. -/
def rt (q : Rat) : Rt := ⟨decide (q.num < 0), ofNat q.num.natAbs, if q.num = 0 then [] else ofNat q.den⟩
def qA (q : Rat) : AV := (rt q).av
def Qs (q : Rat) : Prop := ∃ k, k ≤ lim ∧ Lz k q.num ∧ Lz k (q.den : Int)
theorem Qs.ok {q : Rat} (h : Qs q) : (rt q).ok := by
  obtain ⟨k, hk, h1, h2⟩ := h
  have h3 := h1.len
  have h4 := h2.len
  simp only [Int.natAbs_natCast] at h4
  refine ⟨ws_ofNat _, ?_, by show (ofNat q.num.natAbs).length ≤ _; omega, ?_⟩
  · show Ws (if q.num = 0 then [] else ofNat q.den)
    split
    · exact ws_nil
    · exact ws_ofNat _
  · show (if q.num = 0 then [] else ofNat q.den).length ≤ _
    split
    · simp
    · omega
theorem ofNat_nil {n : Nat} : ofNat n = [] ↔ n = 0 := by
  constructor
  · intro h; have := val_ofNat n; rw [h] at this; exact this.symm
  · intro h; rw [h]; rfl
theorem wh_valid_of {l : List Nat} (h : l ≠ []) (hz : Nz l) : (⟨false, l⟩ : Wh).valid = true := by
  unfold Wh.valid
  dsimp only
  rw [if_neg h]
  cases hl : l.getLast? with
  | none => rfl
  | some x => have := hz x hl; simp [this]
theorem nz_of_valid {l : List Nat} {b : Bool} (h : l ≠ []) (hv : (⟨b, l⟩ : Wh).valid = true) : Nz l := by
  unfold Wh.valid at hv
  dsimp only at hv
  rw [if_neg h] at hv
  intro x hx hx0
  rw [hx, hx0] at hv
  simp at hv
theorem rt_valid (q : Rat) : (rt q).valid = true := by
  unfold rt Rt.valid Rt.n0 Rt.d0
  dsimp only
  by_cases h : q.num = 0
  · rw [if_pos h, h]; rfl
  · rw [if_neg h]
    have h1 : ofNat q.num.natAbs ≠ [] := fun h' => h (by have := ofNat_nil.1 h'; omega)
    have h2 : ofNat q.den ≠ [] := fun h' => q.den_nz (ofNat_nil.1 h')
    rw [if_neg (fun h' => h1 h'.1), if_neg (by simp [h1, h2]), wh_valid_of h1 (nz_ofNat _), wh_valid_of h2 (nz_ofNat _), val_ofNat, val_ofNat]
    have := q.reduced
    unfold Nat.Coprime at this
    simp [this]
theorem rt_q (q : Rat) : (rt q).q = q := by
  unfold Rt.q
  by_cases h : q.num = 0
  · rw [if_neg]
    · exact (Rat.num_eq_zero.1 h).symm
    · intro h'; exact h'.2 (by show ofNat _ = []; rw [h]; rfl)
  · have h1 : ofNat q.num.natAbs ≠ [] := fun h' => h (by have := ofNat_nil.1 h'; omega)
    rw [if_pos ⟨rt_valid q, h1⟩]
    show mkRat (sgn (decide (q.num < 0)) (val (ofNat q.num.natAbs))) (val (if q.num = 0 then [] else ofNat q.den)) = q
    rw [if_neg h, val_ofNat, val_ofNat]
    have : sgn (decide (q.num < 0)) q.num.natAbs = q.num := by
      unfold sgn
      generalize q.num = z
      by_cases h2 : z < 0
      · rw [if_pos (decide_eq_true h2)]; omega
      · rw [if_neg (by rw [decide_eq_true_eq]; exact h2)]; omega
    rw [this, Rat.mkRat_self]
/-- Numerator and denominator of a valid fraction that is not 0. -/
theorem Rt.parts {r : Rt} (h : r.ok) (hv : r.valid = true) (h0 : r.num ≠ []) :
    r.q.num = sgn r.neg (val r.num) ∧ r.q.den = val r.den ∧ ofNat (val r.num) = r.num ∧ ofNat (val r.den) = r.den ∧ val r.num ≠ 0 ∧ val r.den ≠ 0 := by
  have hv' := hv
  unfold Rt.valid at hv
  rw [if_neg (fun h' => h0 h'.1)] at hv
  split at hv
  · cases hv
  · rename_i h1
    simp only [Bool.and_eq_true, decide_eq_true_eq] at hv
    obtain ⟨⟨hn, hd⟩, hg⟩ := hv
    have h2 : r.den ≠ [] := fun h' => h1 (.inr h')
    have nn := nz_of_valid h0 hn
    have nd := nz_of_valid h2 hd
    have pn := val_pos nn h0
    have pd := val_pos nd h2
    have hq : r.q = mkRat (sgn r.neg (val r.num)) (val r.den) := by unfold Rt.q; rw [if_pos ⟨hv', h0⟩]
    have hs : (sgn r.neg (val r.num)).natAbs = val r.num := by unfold sgn; split <;> omega
    have hq2 : r.q = ⟨sgn r.neg (val r.num), val r.den, by omega, by unfold Nat.Coprime; rw [hs]; exact hg⟩ := by
      rw [hq]
      exact (Rat.mk_eq_mkRat _ _ _ _).symm
    refine ⟨by rw [hq2], by rw [hq2], ofNat_val h.1 nn, ofNat_val h.2.1 nd, by omega, by omega⟩
theorem Rt.zero {r : Rt} (h : ¬ (r.valid = true ∧ r.num ≠ [])) : r.q = 0 := by unfold Rt.q; rw [if_neg h]
theorem Rt.eq_rt {r : Rt} (h : r.ok) (hv : r.valid = true) : r = rt r.q := by
  by_cases h0 : r.num = []
  · have hq := Rt.zero (r := r) (fun h' => h'.2 h0)
    rw [hq]
    unfold Rt.valid at hv
    by_cases h1 : r.den = []
    · rw [if_pos ⟨h0, h1⟩] at hv
      obtain ⟨n, a, b⟩ := r
      dsimp only at *
      subst h0; subst h1
      cases n
      · rfl
      · cases hv
    · rw [if_neg (fun h' => h1 h'.2), if_pos (.inl h0)] at hv; cases hv
  · obtain ⟨h1, h2, h3, h4, h5, h6⟩ := Rt.parts h hv h0
    unfold rt
    have hn : r.q.num ≠ 0 := by rw [h1]; unfold sgn; split <;> omega
    rw [if_neg hn, h2, h4]
    have h7 : r.q.num.natAbs = val r.num := by rw [h1]; unfold sgn; split <;> omega
    have h8 : decide (r.q.num < 0) = r.neg := by rw [h1]; unfold sgn; cases r.neg <;> simp <;> omega
    rw [h7, h3, h8]
theorem Rt.ok.qs {r : Rt} (h : r.ok) : Qs r.q := by
  by_cases h0 : r.valid = true ∧ r.num ≠ []
  · obtain ⟨h1, h2, h3, h4, h5, h6⟩ := Rt.parts h h0.1 h0.2
    refine ⟨max r.num.length r.den.length, by have := h.2.2; omega, ?_, ?_⟩
    · unfold Lz
      have : r.q.num.natAbs = val r.num := by rw [h1]; unfold sgn; split <;> omega
      rw [this]
      exact Nat.lt_of_lt_of_le (val_lt _ h.1) (Nat.pow_le_pow_right (by omega) (by omega))
    · unfold Lz
      rw [h2]
      exact Nat.lt_of_lt_of_le (val_lt _ h.2.1) (Nat.pow_le_pow_right (by omega) (by omega))
  · rw [Rt.zero h0]
    exact ⟨1, by unfold lim; omega, by unfold Lz; decide, by unfold Lz; decide⟩
theorem Qs.num {q : Rat} (h : Qs q) : Zs q.num := by
  obtain ⟨k, hk, h1, h2⟩ := h
  exact ⟨k, by unfold lim at hk; omega, h1⟩
theorem Qs.den {q : Rat} (h : Qs q) : Zs q.den := by
  obtain ⟨k, hk, h1, h2⟩ := h
  exact ⟨k, by unfold lim at hk; omega, h2⟩
theorem Qs.mul {p q : Rat} (h : Qs p) (h' : Qs q) : Zs (p.num * q.den) ∧ Zs (p.num * q.num) ∧ Zs ((p.den : Int) * q.den) ∧ Zs ((p.den : Int) * q.num) := by
  obtain ⟨k, hk, h1, h2⟩ := h
  obtain ⟨l, hl, h3, h4⟩ := h'
  unfold lim at *
  exact ⟨⟨k + l, by omega, h1.mul h4⟩, ⟨k + l, by omega, h1.mul h3⟩, ⟨k + l, by omega, h2.mul h4⟩, ⟨k + l, by omega, h2.mul h3⟩⟩
theorem Qs.cross {p q : Rat} (h : Qs p) (h' : Qs q) : Zs (p.num * q.den + q.num * p.den) := by
  obtain ⟨k, hk, h1, h2⟩ := h
  obtain ⟨l, hl, h3, h4⟩ := h'
  unfold lim at *
  have := (h1.mul h4).add (h3.mul h2)
  exact ⟨_, by omega, this⟩
theorem Qs.neg {p : Rat} (h : Qs p) : Qs (-p) := by
  obtain ⟨k, hk, h1, h2⟩ := h
  refine ⟨k, hk, ?_, ?_⟩
  · rw [Rat.neg_num]; exact h1.neg
  · rw [Rat.neg_den]; exact h2
theorem Qs.zero : Qs 0 := ⟨1, by unfold lim; omega, by unfold Lz; decide, by unfold Lz; decide⟩
end Go.Lw
namespace Go.Lw
theorem Rt.ok.n0 {r : Rt} (h : r.ok) : r.n0.ok := ⟨h.1, by have := h.2.2.1; unfold lim at this; unfold maxL; exact Nat.le_trans this (by omega)⟩
theorem Rt.ok.d0 {r : Rt} (h : r.ok) : r.d0.ok := ⟨h.2.1, by have := h.2.2.2; unfold lim at this; unfold maxL; exact Nat.le_trans this (by omega)⟩
theorem Rt.ok.n0l {r : Rt} (h : r.ok) : r.n0.mag.length < big := by have := h.2.2.1; unfold lim at this; unfold big; exact Nat.lt_of_le_of_lt this (by omega)
theorem Rt.ok.d0l {r : Rt} (h : r.ok) : r.d0.mag.length < big := by have := h.2.2.2; unfold lim at this; unfold big; exact Nat.lt_of_le_of_lt this (by omega)
theorem zs1 : Zs 1 := ⟨1, by omega, by unfold Lz; decide⟩
theorem Rt.gcd_zs {r : Rt} (h : r.ok) : Zs (Int.gcd r.n0.z r.d0.z) := by
  have h1 := Wh.lz h.n0
  have h2 := Wh.lz h.d0
  have h3 : r.n0.mag.length ≤ 137438953472 := h.2.2.1
  have h4 : r.d0.mag.length ≤ 137438953472 := h.2.2.2
  by_cases h0 : r.n0.z = 0
  · rw [h0, Int.gcd_zero_left]
    exact ⟨r.d0.mag.length, by omega, by unfold Lz at *; simpa using h2⟩
  · refine ⟨r.n0.mag.length, by omega, h1.of_le ?_⟩
    simp only [Int.natAbs_natCast]
    exact Nat.le_of_dvd (by omega) (Int.gcd_dvd_natAbs_left _ _)
theorem cmp3_gcd {n : Nat} : cmp3 (n : Int) 1 = 0 ↔ n = 1 := by
  unfold cmp3; split
  · constructor <;> intro h <;> omega
  · split <;> constructor <;> intro h <;> omega
theorem z_pos {l : List Nat} (h : (⟨false, l⟩ : Wh).valid = true) : (⟨false, l⟩ : Wh).z = val l := by
  unfold Wh.z Wh.n Wh.m
  simp [h]
theorem valid_no {r : Rt} (h0 : ¬ (r.num = [] ∧ r.den = []))
    (h : cond (cond (cond (icmp .eql (r.num.length : Int) 0) true (icmp .eql (r.den.length : Int) 0)) true (!r.n0.valid)) true (!r.d0.valid) = true) : r.valid = false := by
  unfold Rt.valid
  rw [if_neg h0]
  split
  · rfl
  · next h1 =>
    have hn : r.num ≠ [] := fun h => h1 (.inl h)
    have hd : r.den ≠ [] := fun h => h1 (.inr h)
    have e1 : icmp .eql (r.num.length : Int) 0 = false := by simp [icmp, hn]
    have e2 : icmp .eql (r.den.length : Int) 0 = false := by simp [icmp, hd]
    rw [e1, e2] at h
    cases hv : r.n0.valid <;> cases hw : r.d0.valid <;> simp_all
theorem valid_yes {r : Rt} (h0 : ¬ (r.num = [] ∧ r.den = []))
    (h : cond (cond (cond (icmp .eql (r.num.length : Int) 0) true (icmp .eql (r.den.length : Int) 0)) true (!r.n0.valid)) true (!r.d0.valid) = false) :
    r.valid = icmp .eql (cmp3 (Int.gcd r.n0.z r.d0.z) 1) 0 := by
  unfold Rt.valid
  rw [if_neg h0]
  cases e1 : icmp .eql (r.num.length : Int) 0
  · cases e2 : icmp .eql (r.den.length : Int) 0
    · have hn : r.num ≠ [] := by simpa [icmp] using e1
      have hd : r.den ≠ [] := by simpa [icmp] using e2
      rw [e1, e2] at h
      cases hv : r.n0.valid <;> cases hw : r.d0.valid <;> simp [hv, hw] at h
      rw [if_neg (by simp [hn, hd])]
      have z1 : r.n0.z = val r.num := z_pos hv
      have z2 : r.d0.z = val r.den := z_pos hw
      rw [z1, z2]
      show (true && true && decide _) = decide _
      simp only [Bool.and_self, Bool.true_and]
      rw [Bool.eq_iff_iff]
      simp only [decide_eq_true_eq]
      exact cmp3_gcd.symm
    · rw [e1, e2] at h; simp at h
  · rw [e1] at h; simp at h
theorem parts_av {b : Bool} {num den : List Nat} (e3 : ofNat (val num) = num) (e4 : ofNat (val den) = den) (e5 : val num ≠ 0) :
    AV.tup [.agg [bl b, ws num], .agg [bl false, ws den]] = .tup [zA (sgn b (val num)), zA ((val den : Nat) : Int)] := by
  unfold zA ofInt Wh.av
  have h1 : (sgn b (val num)).natAbs = val num := by unfold sgn; split <;> omega
  have h2 : decide (sgn b (val num) < 0) = b := by unfold sgn; cases b <;> simp <;> omega
  have h3 : decide (((val den : Nat) : Int) < 0) = false := by simp
  dsimp only
  rw [h1, h2, h3, e3, Int.natAbs_natCast, e4]
inductive SubL : List AV → List AV → Prop
  | nil : SubL [] []
  | cons {x y : AV} {l l' : List AV} (h : Sub x y) (hl : SubL l l') : SubL (x :: l) (y :: l')
theorem SubL.len {l l' : List AV} (h : SubL l l') : l.length = l'.length := by induction h with | nil => rfl | cons _ _ ih => simp [ih]
theorem SubL.get {l l' : List AV} (h : SubL l l') : ∀ (j : Nat) (x y : AV), l[j]? = some x → l'[j]? = some y → Sub x y := by
  induction h with
  | nil => intro j x y h; simp at h
  | cons h _ ih =>
    intro j x y hx hy
    cases j with
    | zero => simp at hx hy; subst hx; subst hy; exact h
    | succ j => simp at hx hy; exact ih j x y hx hy
theorem Sub.tup {l l' : List AV} (h : SubL l l') : Sub (.tup l) (.tup l') := by
  intro g S m v hv
  cases hv with
  | tup hn hr =>
    refine .tup (by rw [hn, h.len]) (fun j u y hu hy => ?_)
    obtain ⟨x, hx⟩ := get_of_length h.len.symm hy
    exact h.get j x y hx hy _ _ _ _ (hr j u x hu hx)
theorem Sub.agg {l l' : List AV} (h : SubL l l') (ho : l'.all AV.one = true) : Sub (.agg l) (.agg l') := by
  intro g S m v hv
  cases hv with
  | agg hn h1 hr =>
    refine .agg (by rw [hn, h.len]) (fun j c hc => List.all_eq_true.1 ho c (List.mem_of_getElem? hc)) (fun j u y hu hy => ?_)
    obtain ⟨x, hx⟩ := get_of_length h.len.symm hy
    exact h.get j x y hx hy _ _ _ _ (hr j u x hu hx)
theorem BlkSub.boxL {l l' : List AV} (h : SubL l l') (ho : l'.all AV.one = true) : BlkSub (.box l) (.box l') :=
  .box h.len (fun j c hc => List.all_eq_true.1 ho c (List.mem_of_getElem? hc)) (fun j x y hx hy => h.get j x y hx hy)
/-- The zero values. -/
theorem sub_zz : Sub (.agg [.v (.bool false), .v (.slice none 0 0)]) (zA 0) := .agg (.cons (.refl _) (.cons (.nil _ _ _) .nil)) rfl
theorem sub_q0 : Sub (.agg [.v (.bool false), .v (.slice none 0 0), .v (.slice none 0 0)]) (qA 0) := .agg (.cons (.refl _) (.cons (.nil _ _ _) (.cons (.nil _ _ _) .nil))) rfl
theorem form_fields {n d : Int} (hd : 0 < d) (hn : n ≠ 0) :
    (Rat.divInt n d).num = n / (Int.gcd n d : Int) ∧ (Rat.divInt n d).den = d.natAbs / Int.gcd n d := by
  constructor
  · rw [Rat.num_divInt, Int.sign_eq_one_of_pos hd, Int.one_mul, Int.gcd_comm]
  · rw [Rat.den_divInt, if_neg (by omega), Int.gcd_comm]
theorem form_av {n d : Int} (hd : 0 < d) (hn : n ≠ 0) :
    AV.agg [bl (decide (n < 0)), ws (ofNat (((n.natAbs : Int) / (Int.gcd n d : Int)).natAbs)), ws (ofNat ((d / (Int.gcd n d : Int)).natAbs))] = qA (Rat.divInt n d) := by
  obtain ⟨h1, h2⟩ := form_fields hd hn
  obtain ⟨g, hg⟩ : ∃ g, g = Int.gcd n d := ⟨_, rfl⟩
  have hg0 : 0 < g := by rw [hg]; exact Int.gcd_pos_of_ne_zero_left _ hn
  have hgn : (g : Int) ∣ n := by rw [hg]; exact Int.gcd_dvd_left ..
  rw [← hg] at h1 h2 ⊢
  clear hg
  obtain ⟨k, hk⟩ := hgn
  have hk1 : n / (g : Int) = k := by rw [hk]; exact Int.mul_ediv_cancel_left _ (by omega)
  have hk0 : k ≠ 0 := by intro h; rw [h] at hk; simp at hk; exact hn hk
  have hs : decide (n < 0) = decide (k < 0) := by
    rw [decide_eq_decide, hk]
    constructor
    · intro h
      rcases Int.lt_trichotomy k 0 with h' | h' | h'
      · exact h'
      · exact absurd h' hk0
      · exact absurd (Int.mul_nonneg (Int.natCast_nonneg g) (Int.le_of_lt h')) (by omega)
    · intro h; exact Int.mul_neg_of_pos_of_neg (by omega) h
  have hna : ((n.natAbs : Int) / (g : Int)).natAbs = k.natAbs := by
    rw [hk, Int.natAbs_mul, Int.natAbs_natCast]
    rw [show ((g * k.natAbs : Nat) : Int) / (g : Int) = ((g * k.natAbs / g : Nat) : Int) by exact (Int.natCast_ediv _ _).symm]
    rw [Nat.mul_div_cancel_left _ hg0]; omega
  have hda : (d / (g : Int)).natAbs = d.natAbs / g := by
    have : d = (d.natAbs : Int) := by omega
    rw [this, ← Int.natCast_ediv, Int.natAbs_natCast, Int.natAbs_natCast]
  unfold qA rt Rt.av
  rw [h1, h2, hk1, hna, hda, hs]
  dsimp only
  rw [if_neg hk0]
theorem divInt_neg2 (n d : Int) : Rat.divInt (-n) (-d) = Rat.divInt n d := Rat.neg_divInt_neg n d
theorem rat_add (p q : Rat) : Rat.divInt (p.num * q.den + q.num * p.den) ((p.den : Int) * q.den) = p + q := by
  rw [← Rat.divInt_add_divInt _ _ (by have := p.den_nz; omega) (by have := q.den_nz; omega), Rat.num_divInt_den, Rat.num_divInt_den]
theorem rat_mul (p q : Rat) : Rat.divInt (p.num * q.num) ((p.den : Int) * q.den) = p * q := by
  rw [← Rat.divInt_mul_divInt, Rat.num_divInt_den, Rat.num_divInt_den]
theorem rat_neg (p : Rat) : Rat.divInt (-p.num) p.den = -p := by
  rw [← Rat.neg_num, ← Rat.neg_den, Rat.num_divInt_den]
theorem rat_div (p q : Rat) : Rat.divInt (p.num * q.den) ((p.den : Int) * q.num) = p / q := by
  rw [Rat.div_def, ← Rat.divInt_mul_divInt, Rat.num_divInt_den]
  congr 1
  rw [← Rat.inv_divInt, Rat.num_divInt_den]
theorem num_neg (p : Rat) : p.num < 0 ↔ p < 0 := by
  rw [Rat.lt_iff]; simp
theorem num_pos (p : Rat) : 0 < p.num ↔ 0 < p := by
  rw [Rat.lt_iff]; simp
def sgnQ (p : Rat) : Int := if p < 0 then -1 else if 0 < p then 1 else 0
theorem rat_sign (p : Rat) : p.num.sign = sgnQ p := by
  unfold sgnQ
  by_cases h : p < 0
  · rw [if_pos h]; exact Int.sign_eq_neg_one_iff_neg.2 ((num_neg p).2 h)
  · rw [if_neg h]
    by_cases h' : 0 < p
    · rw [if_pos h']; exact Int.sign_eq_one_iff_pos.2 ((num_pos p).2 h')
    · rw [if_neg h']
      have : p = 0 := by grind
      rw [this]; rfl
theorem sgnQ_sub (p q : Rat) : sgnQ (p - q) = if p < q then -1 else if q < p then 1 else 0 := by
  unfold sgnQ
  by_cases h : p < q
  · rw [if_pos h, if_pos (by grind)]
  · rw [if_neg h, if_neg (by grind)]
    by_cases h' : q < p
    · rw [if_pos h', if_pos (by grind)]
    · rw [if_neg h', if_neg (by grind)]
theorem rat_cmp (p q : Rat) : cmp3 (p.num * q.den) (q.num * p.den) = sgnQ (p - q) := by
  rw [sgnQ_sub]
  unfold cmp3
  simp only [Rat.lt_iff]
theorem form_av2 {n d : Int} (hd : 0 < d) (hn : n ≠ 0) :
    AV.agg [bl (decide (n / (Int.gcd n d : Int) < 0)), ws (ofNat ((n / (Int.gcd n d : Int)).natAbs)), ws (ofNat ((d / (Int.gcd n d : Int)).natAbs))] = qA (Rat.divInt n d) := by
  obtain ⟨h1, h2⟩ := form_fields hd hn
  have h3 : (d / (Int.gcd n d : Int)).natAbs = d.natAbs / Int.gcd n d := by
    have : d = (d.natAbs : Int) := by omega
    generalize Int.gcd n d = g
    rw [this, ← Int.natCast_ediv, Int.natAbs_natCast, Int.natAbs_natCast]
  have h4 : n / (Int.gcd n d : Int) ≠ 0 := by
    rw [← h1]; intro h
    have h5 := Rat.num_eq_zero.1 h
    have h6 := (Rat.divInt_eq_divInt_iff (show d ≠ 0 by omega) (show (1 : Int) ≠ 0 by decide)).1 (h5.trans (Rat.zero_divInt 1).symm)
    omega
  unfold qA rt Rt.av
  rw [h1, h2, h3]
  dsimp only
  rw [if_neg h4]
/-! ### Sizes in bits -/
def Qb (e : Nat) (q : Rat) : Prop := q.num.natAbs < 2 ^ e ∧ q.den < 2 ^ e
theorem Qb.mono {e f : Nat} {q : Rat} (h : Qb e q) (hf : e ≤ f) : Qb f q :=
  ⟨Nat.lt_of_lt_of_le h.1 (Nat.pow_le_pow_right (by omega) hf), Nat.lt_of_lt_of_le h.2 (Nat.pow_le_pow_right (by omega) hf)⟩
theorem Qb.qs {e : Nat} {q : Rat} (h : Qb e q) (he : e ≤ 4398046511104) : Qs q := by
  have h2 : (4294967296 : Nat) = 2 ^ 32 := by decide
  have h3 : ∀ x, x < 2 ^ e → x < 4294967296 ^ (e / 32 + 1) := by
    intro x hx
    rw [h2, ← Nat.pow_mul]
    exact Nat.lt_of_lt_of_le hx (Nat.pow_le_pow_right (by omega) (by omega))
  by_cases h4 : e = 4398046511104
  · obtain ⟨k, hk⟩ : ∃ k, k = 137438953472 := ⟨_, rfl⟩
    refine ⟨k, by unfold lim; omega, ?_, ?_⟩
    · unfold Lz
      have := h.1
      rw [h2, ← Nat.pow_mul]
      exact Nat.lt_of_lt_of_le this (Nat.pow_le_pow_right (by omega) (by omega))
    · unfold Lz
      have := h.2
      rw [h2, ← Nat.pow_mul]
      exact Nat.lt_of_lt_of_le this (Nat.pow_le_pow_right (by omega) (by omega))
  · exact ⟨e / 32 + 1, by unfold lim; omega, h3 _ h.1, h3 _ h.2⟩
theorem Qb.neg {e : Nat} {q : Rat} (h : Qb e q) : Qb e (-q) := by
  refine ⟨?_, ?_⟩
  · rw [Rat.neg_num, Int.natAbs_neg]; exact h.1
  · rw [Rat.neg_den]; exact h.2
theorem divInt_le {n d : Int} (h0 : d ≠ 0) : (Rat.divInt n d).num.natAbs ≤ n.natAbs ∧ (Rat.divInt n d).den ≤ d.natAbs := by
  constructor
  · rw [Rat.num_divInt]
    have h1 : (d.sign * n).natAbs = n.natAbs := by
      rw [Int.natAbs_mul, Int.natAbs_sign_of_ne_zero h0, Nat.one_mul]
    rw [← h1]
    exact Int.natAbs_ediv_le_natAbs _ _
  · rw [Rat.den_divInt, if_neg h0]
    exact Nat.div_le_self _ _
theorem Qb.mul {e f : Nat} {p q : Rat} (h : Qb e p) (h' : Qb f q) : Qb (e + f) (p * q) := by
  rw [← rat_mul]
  have h0 : ((p.den : Int) * q.den) ≠ 0 := Int.mul_ne_zero (by have := p.den_nz; omega) (by have := q.den_nz; omega)
  obtain ⟨h1, h2⟩ := divInt_le (n := p.num * q.num) h0
  refine ⟨Nat.lt_of_le_of_lt h1 ?_, Nat.lt_of_le_of_lt h2 ?_⟩
  · rw [Int.natAbs_mul, Nat.pow_add]; exact Nat.mul_lt_mul'' h.1 h'.1
  · rw [Int.natAbs_mul, Nat.pow_add, Int.natAbs_natCast, Int.natAbs_natCast]; exact Nat.mul_lt_mul'' h.2 h'.2
theorem Qb.add {e f : Nat} {p q : Rat} (h : Qb e p) (h' : Qb f q) : Qb (e + f + 1) (p + q) := by
  rw [← rat_add]
  have h0 : ((p.den : Int) * q.den) ≠ 0 := Int.mul_ne_zero (by have := p.den_nz; omega) (by have := q.den_nz; omega)
  obtain ⟨h1, h2⟩ := divInt_le (n := p.num * q.den + q.num * p.den) h0
  refine ⟨Nat.lt_of_le_of_lt h1 ?_, Nat.lt_of_le_of_lt h2 ?_⟩
  · have h3 := Int.natAbs_add_le (p.num * q.den) (q.num * p.den)
    rw [Int.natAbs_mul, Int.natAbs_mul, Int.natAbs_natCast, Int.natAbs_natCast] at h3
    have h4 := Nat.mul_lt_mul'' h.1 h'.2
    have h5 := Nat.mul_lt_mul'' h'.1 h.2
    rw [Nat.pow_succ, Nat.pow_add]
    rw [Nat.mul_comm (2 ^ f)] at h5
    omega
  · rw [Int.natAbs_mul, Int.natAbs_natCast, Int.natAbs_natCast, Nat.pow_succ, Nat.pow_add]
    have := Nat.mul_lt_mul'' h.2 h'.2
    omega
theorem Qb.sub {e f : Nat} {p q : Rat} (h : Qb e p) (h' : Qb f q) : Qb (e + f + 1) (p - q) := by
  rw [Rat.sub_eq_add_neg]; exact h.add h'.neg
theorem Qb.div {e f : Nat} {p q : Rat} (h : Qb e p) (h' : Qb f q) : Qb (e + f) (p / q) := by
  by_cases h0 : q = 0
  · subst h0
    rw [Rat.div_def, Rat.inv_zero, Rat.mul_zero]
    have h1 : 0 < 2 ^ e := Nat.two_pow_pos e
    have h2 := h.2
    have h3 := p.den_nz
    refine ⟨?_, ?_⟩
    · exact Nat.two_pow_pos _
    · show 1 < 2 ^ (e + f)
      have : 2 ^ e ≤ 2 ^ (e + f) := Nat.pow_le_pow_right (by omega) (by omega)
      omega
  · rw [← rat_div]
    have h0' : ((p.den : Int) * q.num) ≠ 0 := Int.mul_ne_zero (by have := p.den_nz; omega) (fun h => h0 (Rat.num_eq_zero.1 h))
    obtain ⟨h1, h2⟩ := divInt_le (n := p.num * q.den) h0'
    refine ⟨Nat.lt_of_le_of_lt h1 ?_, Nat.lt_of_le_of_lt h2 ?_⟩
    · rw [Int.natAbs_mul, Nat.pow_add, Int.natAbs_natCast]; exact Nat.mul_lt_mul'' h.1 h'.2
    · rw [Int.natAbs_mul, Nat.pow_add, Int.natAbs_natCast]; exact Nat.mul_lt_mul'' h.2 h'.1
theorem Qb.zero : Qb 1 0 := ⟨by decide, by decide⟩
theorem Qb.one : Qb 1 1 := ⟨by decide, by decide⟩
theorem Rt.qb {r : Rt} {k : Nat} (h : r.ok) (hk : 1 ≤ k) (hn : r.num.length ≤ k) (hd : r.den.length ≤ k) : Qb (32 * k) r.q := by
  have hB : ∀ {l : List Nat}, Ws l → l.length ≤ k → val l < 2 ^ (32 * k) := by
    intro l hw hl
    have h1 := val_lt l hw
    have h2 : (4294967296 : Nat) = 2 ^ 32 := by decide
    rw [h2, ← Nat.pow_mul] at h1
    exact Nat.lt_of_lt_of_le h1 (Nat.pow_le_pow_right (by omega) (by omega))
  by_cases h0 : r.valid = true ∧ r.num ≠ []
  · obtain ⟨h1, h2, h3, h4, h5, h6⟩ := Rt.parts h h0.1 h0.2
    refine ⟨?_, ?_⟩
    · have : r.q.num.natAbs = val r.num := by rw [h1]; unfold sgn; split <;> omega
      rw [this]; exact hB h.1 hn
    · rw [h2]; exact hB h.2.1 hd
  · rw [Rt.zero h0]; exact Qb.zero.mono (by omega)
theorem valid_ref {r : Rt} (h0 : ¬ (r.num = [] ∧ r.den = [])) :
    r.valid = cond (cond (!decide (r.num = []) && (⟨false, r.num⟩ : Wh).valid) (!decide (r.den = []) && (⟨false, r.den⟩ : Wh).valid) false) (icmp .eql (cmp3 (Int.gcd r.n0.z r.d0.z) 1) 0) false := by
  by_cases h1 : r.num = []
  · unfold Rt.valid; rw [if_neg h0, if_pos (.inl h1)]; simp [h1]
  · by_cases h2 : r.den = []
    · unfold Rt.valid; rw [if_neg h0, if_pos (.inr h2)]; simp [h2]
    · have e1 : icmp .eql (r.num.length : Int) 0 = false := by simp [icmp, h1]
      have e2 : icmp .eql (r.den.length : Int) 0 = false := by simp [icmp, h2]
      have n0 : (⟨false, r.num⟩ : Wh) = r.n0 := rfl
      have d0 : (⟨false, r.den⟩ : Wh) = r.d0 := rfl
      rw [n0, d0]
      cases hv : r.n0.valid
      · rw [valid_no h0 (by simp [hv, e1, e2])]; simp
      · cases hw : r.d0.valid
        · rw [valid_no h0 (by simp [hv, hw, e1, e2])]; simp
        · rw [valid_yes h0 (by simp [hv, hw, e1, e2])]; simp [h1, h2]
/-- Arguments that say more. -/
theorem Con.subA {P : Program} {f : FuncId} {args args' : List AV} {H H' : Hp} {r : AV} (h : SubL args' args) (hc : Con P f args H r H') : Con P f args' H r H' := by
  refine ⟨hc.ok, ?_⟩
  intro ext m w vs hext hheap hvs hrep
  refine hc.ret ext m w vs hext hheap (by rw [hvs, h.len]) (fun j v x hv hx => ?_)
  obtain ⟨y, hy⟩ := get_of_length h.len.symm hx
  exact h.get j y x hy hx _ _ _ _ (hrep j v y hv hy)
end Go.Lw
namespace Go.Lw
@[reducible] def T : Nat → Type
  | 0 => Rat
  | k + 1 => T k × T k
namespace T
def zero : (k : Nat) → T k
  | 0 => (0 : Rat)
  | k + 1 => (zero k, zero k)
def ofQ : (k : Nat) → Rat → T k
  | 0, q => q
  | k + 1, q => (ofQ k q, zero k)
def add : (k : Nat) → T k → T k → T k
  | 0, x, y => Rat.add x y
  | k + 1, x, y => (add k x.1 y.1, add k x.2 y.2)
def neg : (k : Nat) → T k → T k
  | 0, x => Rat.neg x
  | k + 1, x => (neg k x.1, neg k x.2)
/-- The product over given roots. -/
def mul (r : (k : Nat) → T k) : (k : Nat) → T k → T k → T k
  | 0, x, y => Rat.mul x y
  | k + 1, x, y => (add k (mul r k x.1 y.1) (mul r k (mul r k x.2 y.2) (r k)), add k (mul r k x.1 y.2) (mul r k x.2 y.1))
/-- x^2 - y^2 d. -/
def norm (r : (k : Nat) → T k) (k : Nat) (x : T (k + 1)) : T k := add k (mul r k x.1 x.1) (neg k (mul r k (mul r k x.2 x.2) (r k)))
/-- How the signs of the parts and of the norm decide. -/
def sgn3 (sx sy sd sn : Int) : Int := if sd = 0 then sx else if sx = sy ∨ sy = 0 then sx else if sx = 0 then sy else sx * sn
def sgn (r : (k : Nat) → T k) : (k : Nat) → T k → Int
  | 0, x => sgnQ x
  | k + 1, x => sgn3 (sgn r k x.1) (sgn r k x.2) (sgn r k (r k)) (sgn r k (norm r k x))
theorem add_zero : ∀ (k : Nat) (x : T k), add k x (zero k) = x
  | 0, x => Rat.add_zero x
  | k + 1, x => by simp only [add, zero, add_zero k]
theorem zero_add : ∀ (k : Nat) (x : T k), add k (zero k) x = x
  | 0, x => Rat.zero_add x
  | k + 1, x => by simp only [add, zero, zero_add k]
theorem add_comm : ∀ (k : Nat) (x y : T k), add k x y = add k y x
  | 0, x, y => Rat.add_comm x y
  | k + 1, x, y => by simp only [add, add_comm k x.1, add_comm k x.2]
theorem add_assoc : ∀ (k : Nat) (x y z : T k), add k (add k x y) z = add k x (add k y z)
  | 0, x, y, z => Rat.add_assoc x y z
  | k + 1, x, y, z => by simp only [add, add_assoc k]
theorem zero_mul (r : (k : Nat) → T k) : ∀ (k : Nat) (x : T k), mul r k (zero k) x = zero k
  | 0, x => Rat.zero_mul x
  | k + 1, x => by simp only [mul, zero, zero_mul r k, add_zero]
theorem mul_zero (r : (k : Nat) → T k) : ∀ (k : Nat) (x : T k), mul r k x (zero k) = zero k
  | 0, x => Rat.mul_zero x
  | k + 1, x => by
    simp only [mul, zero, mul_zero r k, add_zero]
    have h : mul r k (zero k) (r k) = zero k := by
      have := zero_mul r k (r k)
      exact this
    rw [h]
    simp only [add_zero]
theorem mul_comm (r : (k : Nat) → T k) : ∀ (k : Nat) (x y : T k), mul r k x y = mul r k y x
  | 0, x, y => Rat.mul_comm x y
  | k + 1, x, y => by
    simp only [mul]
    rw [mul_comm r k x.1 y.1, mul_comm r k x.2 y.2, mul_comm r k x.1 y.2, mul_comm r k x.2 y.1, add_comm k (mul r k y.2 x.1)]
theorem sgn_zero (r : (k : Nat) → T k) : ∀ k, sgn r k (zero k) = 0
  | 0 => rfl
  | k + 1 => by
    simp only [sgn, zero, sgn_zero r k, sgn3]
    split
    · rfl
    · simp
theorem sgn_low (r : (k : Nat) → T k) (k : Nat) (x : T k) : sgn r (k + 1) (x, zero k) = sgn r k x := by
  simp only [sgn, sgn_zero, sgn3]
  split
  · rfl
  · simp
theorem sgnQ_cases (q : Rat) : sgnQ q = -1 ∨ sgnQ q = 0 ∨ sgnQ q = 1 := by
  unfold sgnQ; split
  · exact .inl rfl
  · split
    · exact .inr (.inr rfl)
    · exact .inr (.inl rfl)
theorem sgn_cases (r : (k : Nat) → T k) : ∀ (k : Nat) (x : T k), sgn r k x = -1 ∨ sgn r k x = 0 ∨ sgn r k x = 1
  | 0, x => sgnQ_cases x
  | k + 1, x => by
    simp only [sgn, sgn3]
    have h1 := sgn_cases r k x.1
    have h2 := sgn_cases r k x.2
    have h4 := sgn_cases r k (norm r k x)
    split
    · exact h1
    · split
      · exact h1
      · split
        · exact h2
        · rcases h1 with h | h | h <;> rcases h4 with h' | h' | h' <;> rw [h, h'] <;> simp
end T
/-- The number of a list of coefficients. -/
def dec : (k : Nat) → List Rat → T k
  | 0, l => l.getD 0 0
  | k + 1, l => (dec k (l.take (2 ^ k)), dec k (l.drop (2 ^ k)))
theorem getD_take {l : List Rat} {n i : Nat} : (l.take n).getD i 0 = if i < n then l.getD i 0 else 0 := by
  simp only [List.getD_eq_getElem?_getD, List.getElem?_take]
  split <;> simp
theorem getD_drop {l : List Rat} {n i : Nat} : (l.drop n).getD i 0 = l.getD (n + i) 0 := by
  simp only [List.getD_eq_getElem?_getD, List.getElem?_drop]
theorem dec_congr : ∀ (k : Nat) {a b : List Rat}, (∀ i, i < 2 ^ k → a.getD i 0 = b.getD i 0) → dec k a = dec k b
  | 0, a, b, h => h 0 (by decide)
  | k + 1, a, b, h => by
    have h1 := dec_congr k (a := a.take (2 ^ k)) (b := b.take (2 ^ k)) (fun i hi => by rw [getD_take, getD_take, if_pos hi, if_pos hi]; exact h i (by rw [Nat.pow_succ]; omega))
    have h2 := dec_congr k (a := a.drop (2 ^ k)) (b := b.drop (2 ^ k)) (fun i hi => by rw [getD_drop, getD_drop]; exact h _ (by rw [Nat.pow_succ]; omega))
    simp only [dec, h1, h2]
theorem dec_add : ∀ (k : Nat) {a b c : List Rat}, (∀ i, i < 2 ^ k → c.getD i 0 = a.getD i 0 + b.getD i 0) → dec k c = T.add k (dec k a) (dec k b)
  | 0, a, b, c, h => h 0 (by decide)
  | k + 1, a, b, c, h => by
    have h1 := dec_add k (a := a.take (2 ^ k)) (b := b.take (2 ^ k)) (c := c.take (2 ^ k)) (fun i hi => by rw [getD_take, getD_take, getD_take, if_pos hi, if_pos hi, if_pos hi]; exact h i (by rw [Nat.pow_succ]; omega))
    have h2 := dec_add k (a := a.drop (2 ^ k)) (b := b.drop (2 ^ k)) (c := c.drop (2 ^ k)) (fun i hi => by rw [getD_drop, getD_drop, getD_drop]; exact h _ (by rw [Nat.pow_succ]; omega))
    simp only [dec, T.add, h1, h2]
theorem dec_neg : ∀ (k : Nat) {a c : List Rat}, (∀ i, i < 2 ^ k → c.getD i 0 = -a.getD i 0) → dec k c = T.neg k (dec k a)
  | 0, a, c, h => h 0 (by decide)
  | k + 1, a, c, h => by
    have h1 := dec_neg k (a := a.take (2 ^ k)) (c := c.take (2 ^ k)) (fun i hi => by rw [getD_take, getD_take, if_pos hi, if_pos hi]; exact h i (by rw [Nat.pow_succ]; omega))
    have h2 := dec_neg k (a := a.drop (2 ^ k)) (c := c.drop (2 ^ k)) (fun i hi => by rw [getD_drop, getD_drop]; exact h _ (by rw [Nat.pow_succ]; omega))
    simp only [dec, T.neg, h1, h2]
theorem dec_zero : ∀ (k : Nat) {a : List Rat}, (∀ i, i < 2 ^ k → a.getD i 0 = 0) → dec k a = T.zero k
  | 0, a, h => h 0 (by decide)
  | k + 1, a, h => by
    have h1 := dec_zero k (a := a.take (2 ^ k)) (fun i hi => by rw [getD_take, if_pos hi]; exact h i (by rw [Nat.pow_succ]; omega))
    have h2 := dec_zero k (a := a.drop (2 ^ k)) (fun i hi => by rw [getD_drop]; exact h _ (by rw [Nat.pow_succ]; omega))
    simp only [dec, T.zero, h1, h2]
theorem getD_out {l : List Rat} {i : Nat} (h : l.length ≤ i) : l.getD i 0 = 0 := by
  simp [List.getD_eq_getElem?_getD, List.getElem?_eq_none h]
theorem dec_nil (k : Nat) : dec k [] = T.zero k := dec_zero k (fun i _ => by simp)
/-- A short list is the lower half of a longer one. -/
theorem dec_up {k : Nat} {a : List Rat} (h : a.length ≤ 2 ^ k) : dec (k + 1) a = (dec k a, T.zero k) := by
  have h1 : a.take (2 ^ k) = a := List.take_of_length_le h
  have h2 : a.drop (2 ^ k) = [] := List.drop_eq_nil_of_le h
  simp only [dec, h1, h2, dec_nil]
theorem dec_one (k : Nat) (q : Rat) : dec k [q] = T.ofQ k q := by
  induction k with
  | zero => rfl
  | succ k ih => rw [dec_up (by simp; exact Nat.one_le_two_pow), ih]; rfl
/-! ### The functions on lists -/
def wideL (a : List Rat) (n : Nat) : List Rat := a ++ List.replicate (n - a.length) 0
def plusL (a b : List Rat) : List Rat := List.zipWith (· + ·) (wideL a (max a.length b.length)) (wideL b (max a.length b.length))
def minusL (a : List Rat) : List Rat := a.map (- ·)
def joinL (a b : List Rat) (n : Nat) : List Rat := wideL a n ++ wideL b n
def zeroL (a : List Rat) : Bool := a.all (fun q => decide (q = 0))
theorem len_wide {a : List Rat} {n : Nat} (h : a.length ≤ n) : (wideL a n).length = n := by simp [wideL]; omega
theorem len_plus {a b : List Rat} : (plusL a b).length = max a.length b.length := by
  simp only [plusL, List.length_zipWith]
  rw [len_wide (by omega), len_wide (by omega)]; omega
theorem len_minus {a : List Rat} : (minusL a).length = a.length := by simp [minusL]
theorem len_join {a b : List Rat} {n : Nat} (h : a.length ≤ n) (h' : b.length ≤ n) : (joinL a b n).length = n + n := by simp [joinL, len_wide h, len_wide h']
theorem get_wide {a : List Rat} {n i : Nat} : (wideL a n).getD i 0 = a.getD i 0 := by
  simp only [wideL, List.getD_eq_getElem?_getD]
  by_cases h : i < a.length
  · rw [List.getElem?_append_left h]
  · rw [List.getElem?_append_right (by omega), List.getElem?_eq_none (l := a) (by omega), List.getElem?_replicate]
    split <;> rfl
theorem get_plus {a b : List Rat} {i : Nat} : (plusL a b).getD i 0 = a.getD i 0 + b.getD i 0 := by
  by_cases h : i < max a.length b.length
  · have e : (plusL a b).getD i 0 = (wideL a (max a.length b.length)).getD i 0 + (wideL b (max a.length b.length)).getD i 0 := by
      have ha : i < (wideL a (max a.length b.length)).length := by rw [len_wide (by omega)]; exact h
      have hb : i < (wideL b (max a.length b.length)).length := by rw [len_wide (by omega)]; exact h
      simp only [plusL, List.getD_eq_getElem?_getD, List.getElem?_zipWith, List.getElem?_eq_getElem ha, List.getElem?_eq_getElem hb, Option.getD_some]
    rw [e, get_wide, get_wide]
  · rw [getD_out (by rw [len_plus]; omega), getD_out (by omega), getD_out (by omega), Rat.add_zero]
theorem get_minus {a : List Rat} {i : Nat} : (minusL a).getD i 0 = -a.getD i 0 := by
  simp only [minusL, List.getD_eq_getElem?_getD, List.getElem?_map]
  cases a[i]? with
  | none => show (0 : Rat) = -0; grind
  | some x => rfl
theorem get_join {a b : List Rat} {n i : Nat} (h : a.length ≤ n) : (joinL a b n).getD i 0 = if i < n then a.getD i 0 else b.getD (i - n) 0 := by
  have hl := len_wide h
  simp only [joinL]
  split
  · rw [← get_wide (a := a) (n := n), List.getD_eq_getElem?_getD, List.getD_eq_getElem?_getD, List.getElem?_append_left (by omega)]
  · rw [← get_wide (a := b) (n := n), List.getD_eq_getElem?_getD, List.getD_eq_getElem?_getD, List.getElem?_append_right (by omega), hl]
theorem dec_wide (k : Nat) {a : List Rat} {n : Nat} : dec k (wideL a n) = dec k a := dec_congr k (fun i _ => get_wide)
theorem dec_plus (k : Nat) {a b : List Rat} : dec k (plusL a b) = T.add k (dec k a) (dec k b) := dec_add k (fun i _ => get_plus)
theorem dec_minus (k : Nat) {a : List Rat} : dec k (minusL a) = T.neg k (dec k a) := dec_neg k (fun i _ => get_minus)
theorem dec_join {k : Nat} {a b : List Rat} (h : a.length ≤ 2 ^ k) : dec (k + 1) (joinL a b (2 ^ k)) = (dec k a, dec k b) := by
  have h1 : dec k ((joinL a b (2 ^ k)).take (2 ^ k)) = dec k a := dec_congr k (fun i hi => by rw [getD_take, if_pos hi, get_join h, if_pos hi])
  have h2 : dec k ((joinL a b (2 ^ k)).drop (2 ^ k)) = dec k b := dec_congr k (fun i hi => by rw [getD_drop, get_join h, if_neg (by omega)]; congr 1; omega)
  simp only [dec, h1, h2]
theorem dec_zeroL {k : Nat} {a : List Rat} (h : zeroL a = true) : dec k a = T.zero k := by
  refine dec_zero k (fun i _ => ?_)
  rw [List.getD_eq_getElem?_getD]
  cases hx : a[i]? with
  | none => rfl
  | some x =>
    have := List.all_eq_true.1 h x (List.mem_of_getElem? hx)
    simpa using this
/-- Lists that are numbers of a level. -/
def Nl (k : Nat) (a : List Rat) : Prop := a = [] ∨ ∃ j, j ≤ k ∧ a.length = 2 ^ j
theorem Nl.le {k : Nat} {a : List Rat} (h : Nl k a) : a.length ≤ 2 ^ k := by
  rcases h with rfl | ⟨j, hj, h⟩
  · simp
  · rw [h]; exact Nat.pow_le_pow_right (by omega) hj
theorem Nl.mono {k l : Nat} {a : List Rat} (h : Nl k a) (hl : k ≤ l) : Nl l a := by
  rcases h with h | ⟨j, hj, h⟩
  · exact .inl h
  · exact .inr ⟨j, by omega, h⟩
/-- The roots of a tower. -/
def rtsOf (ts : List (List Rat)) (k : Nat) : T k := dec k (ts.getD k [])
/-- The product of the program. -/
def pT (ts : List (List Rat)) : Nat → List Rat → List Rat → List Rat
  | k, a, b =>
    let x := if a.length < b.length then b else a
    let y := if a.length < b.length then a else b
    if zeroL x || zeroL y then [] else if x.length = 1 then [x.getD 0 0 * y.getD 0 0]
    else match k with
      | 0 => []
      | k + 1 =>
        if y.length ≤ x.length / 2 then joinL (pT ts k (x.take (x.length / 2)) y) (pT ts k (x.drop (x.length / 2)) y) (x.length / 2)
        else joinL (plusL (pT ts k (x.take (x.length / 2)) (y.take (x.length / 2))) (pT ts k (pT ts k (x.drop (x.length / 2)) (y.drop (x.length / 2))) (ts.getD (x.length.log2 - 1) [])))
          (plusL (pT ts k (x.take (x.length / 2)) (y.drop (x.length / 2))) (pT ts k (x.drop (x.length / 2)) (y.take (x.length / 2)))) (x.length / 2)
end Go.Lw
namespace Go.Lw
theorem T.mul_low (r : (k : Nat) → T k) (k : Nat) (x u : T k) : T.mul r (k + 1) (x, T.zero k) (u, T.zero k) = (T.mul r k x u, T.zero k) := by
  simp only [T.mul, T.mul_zero, T.zero_mul, T.add_zero]
theorem T.mul_half (r : (k : Nat) → T k) (k : Nat) (x y u : T k) : T.mul r (k + 1) (x, y) (u, T.zero k) = (T.mul r k x u, T.mul r k y u) := by
  simp only [T.mul, T.mul_zero, T.zero_mul, T.add_zero, T.zero_add]
theorem T.mul_ofQ (r : (k : Nat) → T k) : ∀ (k : Nat) (p q : Rat), T.mul r k (T.ofQ k p) (T.ofQ k q) = T.ofQ k (p * q)
  | 0, p, q => rfl
  | k + 1, p, q => by simp only [T.ofQ]; rw [T.mul_low, T.mul_ofQ r k]
theorem zeroL_nil : zeroL [] = true := rfl
theorem log_pow (j : Nat) : (2 ^ (j + 1)).log2 - 1 = j := by rw [Nat.log2_two_pow]; omega
theorem nl_take {j : Nat} {a : List Rat} (h : a.length = 2 ^ (j + 1)) : (a.take (2 ^ j)).length = 2 ^ j := by
  simp [h, Nat.pow_succ]; omega
theorem nl_drop {j : Nat} {a : List Rat} (h : a.length = 2 ^ (j + 1)) : (a.drop (2 ^ j)).length = 2 ^ j := by
  simp [h, Nat.pow_succ]; omega
theorem half_pow (j : Nat) : 2 ^ (j + 1) / 2 = 2 ^ j := by rw [Nat.pow_succ]; omega
/-- Products: one step of what the program does, for lists that are not both short. -/
theorem pT_comm (ts : List (List Rat)) (k : Nat) (a b : List Rat) (h : a.length < b.length) : pT ts k a b = pT ts k b a := by
  unfold pT
  simp only [if_pos h, if_neg (show ¬ b.length < a.length by omega)]
/-- An induction over the way of the program through a product. -/
theorem pT_ind (ts : List (List Rat)) (Q : Nat → List Rat → List Rat → List Rat → Prop)
    (hcomm : ∀ j a b c, Q j a b c → Q j b a c)
    (hzero : ∀ j a b, Nl j a → Nl j b → (zeroL a = true ∨ zeroL b = true) → Q j a b [])
    (hone : ∀ j p q, Q j [p] [q] [p * q])
    (hup : ∀ j a b c, Nl j a → Nl j b → Q j a b c → Q (j + 1) a b c)
    (hhalf : ∀ j a b c d, a.length = 2 ^ (j + 1) → Nl j b → Q j (a.take (2 ^ j)) b c → Q j (a.drop (2 ^ j)) b d → Q (j + 1) a b (joinL c d (2 ^ j)))
    (hfull : ∀ j a b c1 c2 c3 c4 c5, a.length = 2 ^ (j + 1) → b.length = 2 ^ (j + 1) → Q j (a.take (2 ^ j)) (b.take (2 ^ j)) c1 → Q j (a.drop (2 ^ j)) (b.drop (2 ^ j)) c2 →
      Q j c2 (ts.getD j []) c3 → Q j (a.take (2 ^ j)) (b.drop (2 ^ j)) c4 → Q j (a.drop (2 ^ j)) (b.take (2 ^ j)) c5 → Q (j + 1) a b (joinL (plusL c1 c3) (plusL c4 c5) (2 ^ j)))
    (hnl : ∀ j a b c, Q j a b c → Nl j c) (m : Nat) (hr : ∀ j, j < m → Nl j (ts.getD j [])) :
    ∀ (j k : Nat) (a b : List Rat), j ≤ m → j ≤ k → Nl j a → Nl j b → Q j a b (pT ts k a b) := by
  intro j
  induction j with
  | zero =>
    intro k a b _ _ ha hb
    -- all lists have at most one coefficient
    have hla := ha.le
    have hlb := hb.le
    have key : ∀ a b : List Rat, Nl 0 a → Nl 0 b → ¬ a.length < b.length → Q 0 a b (pT ts k a b) := by
      intro a b ha hb hlt
      have hla := ha.le
      have hlb := hb.le
      unfold pT
      simp only [if_neg hlt]
      split
      · rename_i h
        rw [Bool.or_eq_true] at h
        exact hzero 0 a b ha hb h
      · rename_i h
        simp only [Bool.or_eq_true, not_or, Bool.not_eq_true] at h
        have h1 : a ≠ [] := fun h' => by rw [h'] at h; cases h.1
        have h2 : b ≠ [] := fun h' => by rw [h'] at h; cases h.2
        obtain ⟨p, rfl⟩ : ∃ p, a = [p] := List.length_eq_one_iff.1 (by have := List.length_pos_iff.2 h1; omega)
        obtain ⟨q, rfl⟩ : ∃ q, b = [q] := List.length_eq_one_iff.1 (by have := List.length_pos_iff.2 h2; omega)
        simp only [List.length_cons, List.length_nil, if_true]
        exact hone 0 p q
    by_cases hlt : a.length < b.length
    · rw [pT_comm ts k a b hlt]; exact hcomm _ _ _ _ (key b a hb ha (by omega))
    · exact key a b ha hb hlt
  | succ j ih =>
    intro k a b hjm hjk ha hb
    have key : ∀ a b : List Rat, Nl (j + 1) a → Nl (j + 1) b → ¬ a.length < b.length → Q (j + 1) a b (pT ts k a b) := by
      intro a b ha hb hlt
      by_cases hs : Nl j a
      · have hbs : Nl j b := by
          rcases hb with rfl | ⟨i, hi, h⟩
          · exact .inl rfl
          · by_cases hij : i ≤ j
            · exact .inr ⟨i, hij, h⟩
            · have h1 := hs.le
              have h2 : 2 ^ (j + 1) ≤ 2 ^ i := Nat.pow_le_pow_right (by omega) (by omega)
              rw [Nat.pow_succ] at h2
              have := Nat.two_pow_pos j
              omega
        exact hup j a b _ hs hbs (ih k a b (by omega) (by omega) hs hbs)
      · have hal : a.length = 2 ^ (j + 1) := by
          rcases ha with rfl | ⟨i, hi, h⟩
          · exact absurd (.inl rfl) hs
          · by_cases hij : i ≤ j
            · exact absurd (.inr ⟨i, hij, h⟩) hs
            · rw [h, show i = j + 1 by omega]
        obtain ⟨k, rfl⟩ : ∃ k', k = k' + 1 := ⟨k - 1, by omega⟩
        have h2j := Nat.two_pow_pos j
        have hx : Nl j (a.take (2 ^ j)) := .inr ⟨j, Nat.le_refl _, nl_take hal⟩
        have hy : Nl j (a.drop (2 ^ j)) := .inr ⟨j, Nat.le_refl _, nl_drop hal⟩
        unfold pT
        simp only [if_neg hlt]
        split
        · rename_i h
          rw [Bool.or_eq_true] at h
          exact hzero _ a b ha hb h
        · rename_i h
          simp only [Bool.or_eq_true, not_or, Bool.not_eq_true] at h
          rw [if_neg (by rw [hal, Nat.pow_succ]; omega)]
          simp only [hal, half_pow, log_pow]
          split
          · rename_i hbl
            have hbs : Nl j b := by
              rcases hb with rfl | ⟨i, hi, h'⟩
              · exact .inl rfl
              · by_cases hij : i ≤ j
                · exact .inr ⟨i, hij, h'⟩
                · have h2 : 2 ^ (j + 1) ≤ 2 ^ i := Nat.pow_le_pow_right (by omega) (by omega)
                  rw [Nat.pow_succ] at h2
                  omega
            exact hhalf j a b _ _ hal hbs (ih k _ _ (by omega) (by omega) hx hbs) (ih k _ _ (by omega) (by omega) hy hbs)
          · rename_i hbl
            have hbl' : b.length = 2 ^ (j + 1) := by
              rcases hb with rfl | ⟨i, hi, h'⟩
              · simp at hbl
              · by_cases hij : i ≤ j
                · have : 2 ^ i ≤ 2 ^ j := Nat.pow_le_pow_right (by omega) hij
                  omega
                · rw [h', show i = j + 1 by omega]
            have hu : Nl j (b.take (2 ^ j)) := .inr ⟨j, Nat.le_refl _, nl_take hbl'⟩
            have hv : Nl j (b.drop (2 ^ j)) := .inr ⟨j, Nat.le_refl _, nl_drop hbl'⟩
            have h2 := ih k _ _ (by omega) (by omega) hy hv
            exact hfull j a b _ _ _ _ _ hal hbl' (ih k _ _ (by omega) (by omega) hx hu) h2 (ih k _ _ (by omega) (by omega) (hnl _ _ _ _ h2) (hr j (by omega))) (ih k _ _ (by omega) (by omega) hx hv) (ih k _ _ (by omega) (by omega) hy hu)
    by_cases hlt : a.length < b.length
    · rw [pT_comm ts k a b hlt]; exact hcomm _ _ _ _ (key b a hb ha (by omega))
    · exact key a b ha hb hlt
theorem pT_spec (ts : List (List Rat)) (m : Nat) (hr : ∀ j, j < m → Nl j (ts.getD j [])) (j k : Nat) (a b : List Rat) (hj : j ≤ m) (hk : j ≤ k) (ha : Nl j a) (hb : Nl j b) :
    Nl j (pT ts k a b) ∧ dec j (pT ts k a b) = T.mul (rtsOf ts) j (dec j a) (dec j b) := by
  refine pT_ind ts (fun j a b c => Nl j c ∧ dec j c = T.mul (rtsOf ts) j (dec j a) (dec j b)) ?_ ?_ ?_ ?_ ?_ ?_ (fun _ _ _ _ h => h.1) m hr j k a b hj hk ha hb
  · intro j a b c h; exact ⟨h.1, by rw [h.2, T.mul_comm]⟩
  · intro j a b ha hb h
    refine ⟨.inl rfl, ?_⟩
    rw [dec_nil]
    rcases h with h | h
    · rw [dec_zeroL h, T.zero_mul]
    · rw [dec_zeroL h, T.mul_zero]
  · intro j p q
    exact ⟨.inr ⟨0, Nat.zero_le _, rfl⟩, by rw [dec_one, dec_one, dec_one, T.mul_ofQ]⟩
  · intro j a b c ha hb h
    refine ⟨h.1.mono (by omega), ?_⟩
    rw [dec_up ha.le, dec_up hb.le, dec_up h.1.le, T.mul_low, h.2]
  · intro j a b c d ha hb hc hd
    refine ⟨.inr ⟨j + 1, Nat.le_refl _, ?_⟩, ?_⟩
    · rw [len_join hc.1.le hd.1.le, Nat.pow_succ]; omega
    · rw [dec_join hc.1.le, dec_up hb.le, hc.2, hd.2]
      simp only [dec]
      rw [T.mul_half]
  · intro j a b c1 c2 c3 c4 c5 ha hb h1 h2 h3 h4 h5
    refine ⟨.inr ⟨j + 1, Nat.le_refl _, ?_⟩, ?_⟩
    · have l1 := h1.1.le
      have l3 := h3.1.le
      have l4 := h4.1.le
      have l5 := h5.1.le
      rw [len_join (by rw [len_plus]; omega) (by rw [len_plus]; omega), Nat.pow_succ]; omega
    · have l1 := h1.1.le
      have l3 := h3.1.le
      rw [dec_join (by rw [len_plus]; omega), dec_plus, dec_plus, h1.2, h3.2, h4.2, h5.2, h2.2]
      rfl
/-! ### Short forms -/
def shortL : Nat → List Rat → List Rat
  | 0, a => if zeroL a then [] else a
  | j + 1, a => if zeroL (a.drop (2 ^ j)) then shortL j (a.take (2 ^ j)) else a
def T.isZ : (k : Nat) → T k → Bool
  | 0, q => decide ((q : Rat) = 0)
  | k + 1, x => isZ k x.1 && isZ k x.2
theorem T.isZ_iff : ∀ (k : Nat) (x : T k), T.isZ k x = true ↔ x = T.zero k
  | 0, x => by simp only [T.isZ, decide_eq_true_eq]; rfl
  | k + 1, x => by
    simp only [T.isZ, Bool.and_eq_true, T.isZ_iff k, T.zero]
    constructor
    · intro h; exact Prod.ext h.1 h.2
    · intro h; rw [h]; exact ⟨rfl, rfl⟩
def enc : (k : Nat) → T k → List Rat
  | 0, q => [q]
  | k + 1, x => enc k x.1 ++ enc k x.2
/-- The short list of a number. -/
def sh : (k : Nat) → T k → List Rat
  | 0, q => if (q : Rat) = 0 then [] else [q]
  | k + 1, x => if T.isZ k x.2 then sh k x.1 else enc k x.1 ++ enc k x.2
theorem len_enc : ∀ (k : Nat) (x : T k), (enc k x).length = 2 ^ k
  | 0, x => rfl
  | k + 1, x => by simp only [enc, List.length_append, len_enc k]; rw [Nat.pow_succ]; omega
theorem dec_enc : ∀ (k : Nat) (x : T k), dec k (enc k x) = x
  | 0, x => rfl
  | k + 1, x => by
    simp only [enc, dec]
    rw [List.take_append_of_le_length (by rw [len_enc]; exact Nat.le_refl _), List.take_of_length_le (by rw [len_enc]; exact Nat.le_refl _), List.drop_append_of_le_length (by rw [len_enc]; exact Nat.le_refl _),
      List.drop_eq_nil_of_le (by rw [len_enc]; exact Nat.le_refl _), List.nil_append, dec_enc k, dec_enc k]
theorem enc_dec : ∀ (k : Nat) (a : List Rat), a.length = 2 ^ k → enc k (dec k a) = a
  | 0, a, h => by
    obtain ⟨p, rfl⟩ := List.length_eq_one_iff.1 h
    rfl
  | k + 1, a, h => by
    simp only [enc, dec]
    rw [enc_dec k _ (nl_take h), enc_dec k _ (nl_drop h), List.take_append_drop]
theorem zeroL_iff {k : Nat} {a : List Rat} (h : a.length ≤ 2 ^ k) : zeroL a = T.isZ k (dec k a) := by
  rw [Bool.eq_iff_iff, T.isZ_iff]
  constructor
  · exact dec_zeroL
  · intro h0
    -- padded to its full length the list is that of zero
    have h1 : enc k (dec k (wideL a (2 ^ k))) = wideL a (2 ^ k) := enc_dec k _ (len_wide h)
    rw [dec_wide, h0] at h1
    have h2 : ∀ k, zeroL (enc k (T.zero k)) = true := by
      intro k
      induction k with
      | zero => rfl
      | succ k ih => simp only [enc, T.zero, zeroL, List.all_append, Bool.and_eq_true] at ih ⊢; exact ⟨ih, ih⟩
    have h3 := h2 k
    rw [h1] at h3
    simp only [zeroL, wideL, List.all_append, Bool.and_eq_true] at h3
    exact h3.1
theorem shortL_eq : ∀ (k : Nat) {a : List Rat}, Nl k a → shortL k a = sh k (dec k a)
  | 0, a, h => by
    have hl := h.le
    simp only [shortL, sh]
    match a, hl with
    | [], _ => rfl
    | [p], _ => simp [zeroL, dec]
  | k + 1, a, h => by
    have hl := h.le
    have h1 : (a.drop (2 ^ k)).length ≤ 2 ^ k := by simp; rw [Nat.pow_succ] at hl; omega
    have e1 : shortL (k + 1) a = if zeroL (a.drop (2 ^ k)) = true then shortL k (a.take (2 ^ k)) else a := rfl
    have e2 : ∀ x y : T k, sh (k + 1) (x, y) = if T.isZ k y = true then sh k x else enc k x ++ enc k y := fun _ _ => rfl
    rw [e1, show dec (k + 1) a = (dec k (a.take (2 ^ k)), dec k (a.drop (2 ^ k))) from rfl, e2, zeroL_iff h1]
    by_cases hz : T.isZ k (dec k (a.drop (2 ^ k))) = true
    · rw [if_pos hz, if_pos hz]
      refine shortL_eq k ?_
      rcases h with rfl | ⟨j, hj, h⟩
      · exact .inl (by simp)
      · by_cases hjk : j ≤ k
        · rw [List.take_of_length_le (by rw [h]; exact Nat.pow_le_pow_right (by omega) hjk)]
          exact .inr ⟨j, hjk, h⟩
        · exact .inr ⟨k, Nat.le_refl _, nl_take (by rw [h, show j = k + 1 by omega])⟩
    · rw [if_neg hz, if_neg hz]
      have hlen : a.length = 2 ^ (k + 1) := by
        rcases h with rfl | ⟨j, hj, h⟩
        · exfalso; apply hz
          rw [List.drop_nil, T.isZ_iff, dec_nil]
        · by_cases hjk : j ≤ k
          · exfalso; apply hz
            rw [List.drop_eq_nil_of_le (by rw [h]; exact Nat.pow_le_pow_right (by omega) hjk), T.isZ_iff, dec_nil]
          · rw [h, show j = k + 1 by omega]
      rw [enc_dec k _ (nl_take hlen), enc_dec k _ (nl_drop hlen), List.take_append_drop]
theorem sh_nl : ∀ (k : Nat) (x : T k), Nl k (sh k x)
  | 0, q => by
    simp only [sh]; split
    · exact .inl rfl
    · exact .inr ⟨0, Nat.le_refl _, rfl⟩
  | k + 1, x => by
    simp only [sh]; split
    · exact (sh_nl k x.1).mono (by omega)
    · exact .inr ⟨k + 1, Nat.le_refl _, by rw [List.length_append, len_enc, len_enc, Nat.pow_succ]; omega⟩
theorem dec_sh : ∀ (k : Nat) (x : T k), dec k (sh k x) = x
  | 0, q => by
    simp only [sh]; split
    · rename_i h; exact h.symm
    · rfl
  | k + 1, x => by
    simp only [sh]; split
    · rename_i h
      rw [T.isZ_iff] at h
      rw [dec_up (sh_nl k x.1).le, dec_sh k, ← h]
    · exact dec_enc (k + 1) x
end Go.Lw
namespace Go.Lw
/-- A common denominator D, numerators of at most N. -/
def Cd (D N : Nat) (l : List Rat) : Prop := 0 < D ∧ ∀ q ∈ l, ∃ n : Int, q * ((D : Int) : Rat) = (n : Rat) ∧ n.natAbs ≤ N
theorem Cd.mono {D N N' : Nat} {l : List Rat} (h : Cd D N l) (hn : N ≤ N') : Cd D N' l :=
  ⟨h.1, fun q hq => by obtain ⟨n, h1, h2⟩ := h.2 q hq; exact ⟨n, h1, by omega⟩⟩
theorem Cd.sub {D N : Nat} {l l' : List Rat} (h : Cd D N l) (hs : ∀ q ∈ l', q ∈ l) : Cd D N l' := ⟨h.1, fun q hq => h.2 q (hs q hq)⟩
theorem Cd.scale {D N c : Nat} {l : List Rat} (h : Cd D N l) (hc : 0 < c) : Cd (D * c) (N * c) l := by
  refine ⟨Nat.mul_pos h.1 hc, fun q hq => ?_⟩
  obtain ⟨n, h1, h2⟩ := h.2 q hq
  refine ⟨n * c, ?_, ?_⟩
  · rw [Int.natCast_mul, Rat.intCast_mul, ← Rat.mul_assoc, h1, Rat.intCast_mul]
  · rw [Int.natAbs_mul, Int.natAbs_natCast]; exact Nat.mul_le_mul_right _ h2
theorem Cd.nil {D N : Nat} (h : 0 < D) : Cd D N [] := ⟨h, fun q hq => by cases hq⟩
theorem Cd.app {D N : Nat} {a b : List Rat} (h : Cd D N a) (h' : Cd D N b) : Cd D N (a ++ b) :=
  ⟨h.1, fun q hq => by rcases List.mem_append.1 hq with hq | hq; exact h.2 q hq; exact h'.2 q hq⟩
theorem Cd.zeros {D N n : Nat} (h : 0 < D) : Cd D N (List.replicate n 0) :=
  ⟨h, fun q hq => ⟨0, by rw [(List.mem_replicate.1 hq).2, Rat.zero_mul]; rfl, by simp⟩⟩
theorem Cd.wide {D N n : Nat} {a : List Rat} (h : Cd D N a) : Cd D N (wideL a n) := h.app (Cd.zeros h.1)
theorem Cd.join {D N n : Nat} {a b : List Rat} (h : Cd D N a) (h' : Cd D N b) : Cd D N (joinL a b n) := h.wide.app h'.wide
theorem Cd.minus {D N : Nat} {a : List Rat} (h : Cd D N a) : Cd D N (minusL a) := by
  refine ⟨h.1, fun q hq => ?_⟩
  obtain ⟨p, hp, rfl⟩ := List.mem_map.1 hq
  obtain ⟨n, h1, h2⟩ := h.2 p hp
  refine ⟨-n, ?_, by omega⟩
  rw [Rat.intCast_neg, ← h1, Rat.neg_mul]
theorem Cd.plus {D N N' : Nat} {a b : List Rat} (h : Cd D N a) (h' : Cd D N' b) : Cd D (N + N') (plusL a b) := by
  refine ⟨h.1, fun q hq => ?_⟩
  have h1 : Cd D N (wideL a (max a.length b.length)) := h.wide
  have h2 : Cd D N' (wideL b (max a.length b.length)) := h'.wide
  unfold plusL at hq
  obtain ⟨i, hi, rfl⟩ := List.mem_iff_getElem.1 hq
  rw [List.getElem_zipWith]
  obtain ⟨n, e1, e2⟩ := h1.2 _ (List.getElem_mem (by simp at hi; omega : i < (wideL a (max a.length b.length)).length))
  obtain ⟨m, e3, e4⟩ := h2.2 _ (List.getElem_mem (by simp at hi; omega : i < (wideL b (max a.length b.length)).length))
  refine ⟨n + m, ?_, by have := Int.natAbs_add_le n m; omega⟩
  rw [Rat.add_mul, e1, e3, Rat.intCast_add]
theorem Cd.mul1 {D N D' N' : Nat} {p q : Rat} (h : Cd D N [p]) (h' : Cd D' N' [q]) : Cd (D * D') (N * N') [p * q] := by
  refine ⟨Nat.mul_pos h.1 h'.1, fun x hx => ?_⟩
  rw [List.mem_singleton.1 hx]
  obtain ⟨n, e1, e2⟩ := h.2 p (by simp)
  obtain ⟨m, e3, e4⟩ := h'.2 q (by simp)
  refine ⟨n * m, ?_, by rw [Int.natAbs_mul]; exact Nat.mul_le_mul e2 e4⟩
  rw [Rat.intCast_mul, ← e1, ← e3, Int.natCast_mul, Rat.intCast_mul]
  grind
theorem Cd.qb {D N e : Nat} {l : List Rat} (h : Cd D N l) (hD : D < 2 ^ e) (hN : N < 2 ^ e) {q : Rat} (hq : q ∈ l) : Qb e q := by
  obtain ⟨n, h1, h2⟩ := h.2 q hq
  have hD0 : ((D : Int) : Rat) ≠ 0 := by
    intro h0
    have : (D : Int) = 0 := Rat.intCast_eq_zero_iff.1 h0
    have := h.1; omega
  have hq2 : q = Rat.divInt n D := by
    rw [Rat.divInt_eq_div, ← h1, Rat.mul_div_cancel hD0]
  have h0 := h.1
  obtain ⟨e1, e2⟩ := divInt_le (n := n) (d := (D : Int)) (by omega)
  rw [hq2]
  refine ⟨by omega, by rw [Int.natAbs_natCast] at e2; omega⟩
/-! ### Products -/
def rR (D : Nat) : Nat → Nat
  | 0 => 1
  | j + 1 => rR D j * rR D j * D
def rM (D N : Nat) : Nat → Nat
  | 0 => 1
  | j + 1 => 2 * (rM D N j * rM D N j * (D + N))
theorem rR_pos {D : Nat} (h : 0 < D) : ∀ j, 0 < rR D j
  | 0 => by simp [rR]
  | j + 1 => Nat.mul_pos (Nat.mul_pos (rR_pos h j) (rR_pos h j)) h
theorem rR_le (D N : Nat) : ∀ j, rR D j ≤ rM D N j
  | 0 => Nat.le_refl _
  | j + 1 => by
    have h1 := Nat.mul_le_mul (Nat.mul_le_mul (rR_le D N j) (rR_le D N j)) (Nat.le_add_right D N)
    simp only [rR, rM]; omega
theorem pT_cd (ts : List (List Rat)) (m D N : Nat) (hts : ∀ j, j < m → Nl j (ts.getD j []) ∧ Cd D N (ts.getD j [])) (hD : 0 < D) (j k : Nat) (a b : List Rat) (hj : j ≤ m) (hk : j ≤ k) (ha : Nl j a) (hb : Nl j b)
    {Da Na Db Nb : Nat} (ca : Cd Da Na a) (cb : Cd Db Nb b) : Cd (Da * Db * rR D j) (Na * Nb * rM D N j) (pT ts k a b) := by
  have key := pT_ind ts (fun j a b c => Nl j c ∧ (j ≤ m → ∀ Da Na Db Nb : Nat, Cd Da Na a → Cd Db Nb b → Cd (Da * Db * rR D j) (Na * Nb * rM D N j) c)) ?_ ?_ ?_ ?_ ?_ ?_ (fun _ _ _ _ h => h.1) m (fun j hj => (hts j hj).1) j k a b hj hk ha hb
  · exact key.2 hj _ _ _ _ ca cb
  · intro j a b c h
    refine ⟨h.1, fun hj Da Na Db Nb ca cb => ?_⟩
    rw [Nat.mul_comm Da, Nat.mul_comm Na]; exact h.2 hj _ _ _ _ cb ca
  · intro j a b ha hb h
    exact ⟨.inl rfl, fun hj Da Na Db Nb ca cb => Cd.nil (Nat.mul_pos (Nat.mul_pos ca.1 cb.1) (rR_pos hD j))⟩
  · intro j p q
    refine ⟨.inr ⟨0, Nat.zero_le _, rfl⟩, fun hj Da Na Db Nb ca cb => ?_⟩
    have h1 := (ca.mul1 cb).scale (rR_pos hD j)
    exact h1.mono (Nat.mul_le_mul_left _ (rR_le D N j))
  · intro j a b c ha hb h
    refine ⟨h.1.mono (by omega), fun hj Da Na Db Nb ca cb => ?_⟩
    have h1 := (h.2 (by omega) _ _ _ _ ca cb).scale (Nat.mul_pos (rR_pos hD j) hD)
    have e1 : Da * Db * rR D j * (rR D j * D) = Da * Db * rR D (j + 1) := by simp only [rR]; grind
    rw [e1] at h1
    refine h1.mono ?_
    have h2 := Nat.mul_le_mul_left (rM D N j) (Nat.mul_le_mul (rR_le D N j) (Nat.le_add_right D N))
    have h3 : rM D N j * (rR D j * D) ≤ rM D N (j + 1) := by simp only [rM, Nat.mul_assoc] at *; omega
    rw [Nat.mul_assoc (Na * Nb)]
    exact Nat.mul_le_mul_left _ h3
  · intro j a b c d ha hb hc hd
    refine ⟨.inr ⟨j + 1, Nat.le_refl _, by rw [len_join hc.1.le hd.1.le, Nat.pow_succ]; omega⟩, fun hj Da Na Db Nb ca cb => ?_⟩
    have ca1 : Cd Da Na (a.take (2 ^ j)) := ca.sub (fun q hq => List.mem_of_mem_take hq)
    have ca2 : Cd Da Na (a.drop (2 ^ j)) := ca.sub (fun q hq => List.mem_of_mem_drop hq)
    have h1 := ((hc.2 (by omega) _ _ _ _ ca1 cb).join (hd.2 (by omega) _ _ _ _ ca2 cb) (n := 2 ^ j)).scale (Nat.mul_pos (rR_pos hD j) hD)
    have e1 : Da * Db * rR D j * (rR D j * D) = Da * Db * rR D (j + 1) := by simp only [rR]; grind
    rw [e1] at h1
    refine h1.mono ?_
    have h2 := Nat.mul_le_mul_left (rM D N j) (Nat.mul_le_mul (rR_le D N j) (Nat.le_add_right D N))
    have h3 : rM D N j * (rR D j * D) ≤ rM D N (j + 1) := by simp only [rM, Nat.mul_assoc] at *; omega
    rw [Nat.mul_assoc (Na * Nb)]
    exact Nat.mul_le_mul_left _ h3
  · intro j a b c1 c2 c3 c4 c5 ha hb h1 h2 h3 h4 h5
    refine ⟨.inr ⟨j + 1, Nat.le_refl _, ?_⟩, fun hj Da Na Db Nb ca cb => ?_⟩
    · have l1 := h1.1.le
      have l3 := h3.1.le
      have l4 := h4.1.le
      have l5 := h5.1.le
      rw [len_join (by rw [len_plus]; omega) (by rw [len_plus]; omega), Nat.pow_succ]; omega
    have ca1 : Cd Da Na (a.take (2 ^ j)) := ca.sub (fun q hq => List.mem_of_mem_take hq)
    have ca2 : Cd Da Na (a.drop (2 ^ j)) := ca.sub (fun q hq => List.mem_of_mem_drop hq)
    have cb1 : Cd Db Nb (b.take (2 ^ j)) := cb.sub (fun q hq => List.mem_of_mem_take hq)
    have cb2 : Cd Db Nb (b.drop (2 ^ j)) := cb.sub (fun q hq => List.mem_of_mem_drop hq)
    have k2 := h2.2 (by omega) _ _ _ _ ca2 cb2
    have k3 := h3.2 (by omega) _ _ _ _ k2 (hts j (by omega)).2
    have k1 := (h1.2 (by omega) _ _ _ _ ca1 cb1).scale (Nat.mul_pos (rR_pos hD j) hD)
    have k4 := (h4.2 (by omega) _ _ _ _ ca1 cb2).scale (Nat.mul_pos (rR_pos hD j) hD)
    have k5 := (h5.2 (by omega) _ _ _ _ ca2 cb1).scale (Nat.mul_pos (rR_pos hD j) hD)
    have e1 : Da * Db * rR D j * (rR D j * D) = Da * Db * rR D (j + 1) := by simp only [rR]; grind
    have e3 : Da * Db * rR D j * D * rR D j = Da * Db * rR D (j + 1) := by simp only [rR]; grind
    rw [e1] at k1 k4 k5
    rw [e3] at k3
    have b1 : rM D N j * (rR D j * D) ≤ rM D N j * rM D N j * D := by rw [Nat.mul_assoc]; exact Nat.mul_le_mul_left _ (Nat.mul_le_mul_right _ (rR_le D N j))
    have b2 : ∀ x, Na * Nb * rM D N j * (rR D j * D) + Na * Nb * x ≤ Na * Nb * (rM D N j * rM D N j * D + x) := by
      intro x
      rw [Nat.mul_add, Nat.mul_assoc (Na * Nb)]
      exact Nat.add_le_add_right (Nat.mul_le_mul_left _ b1) _
    refine Cd.join (Cd.mono (k1.plus k3) ?_) (Cd.mono (k4.plus k5) ?_)
    · have e4 : Na * Nb * rM D N j * N * rM D N j = Na * Nb * (rM D N j * rM D N j * N) := by grind
      rw [e4]
      refine Nat.le_trans (b2 _) (Nat.mul_le_mul_left _ ?_)
      simp only [rM]; rw [← Nat.mul_add]; omega
    · have e4 : Na * Nb * rM D N j * (rR D j * D) ≤ Na * Nb * (rM D N j * rM D N j * D) := by rw [Nat.mul_assoc (Na * Nb)]; exact Nat.mul_le_mul_left _ b1
      refine Nat.le_trans (Nat.add_le_add e4 e4) ?_
      rw [← Nat.mul_add]
      refine Nat.mul_le_mul_left _ ?_
      simp only [rM]
      have := Nat.mul_le_mul_left (rM D N j * rM D N j) (Nat.le_add_right D N)
      omega
/-! ### In bits -/
def eB (r : Nat) : Nat → Nat
  | 0 => 0
  | j + 1 => 2 * eB r j + r + 2
theorem rM_le {D N r : Nat} (hD : D ≤ 2 ^ r) (hN : N ≤ 2 ^ r) : ∀ j, rM D N j ≤ 2 ^ eB r j
  | 0 => Nat.le_refl _
  | j + 1 => by
    have h1 := rM_le hD hN j
    have h2 := Nat.mul_le_mul (Nat.mul_le_mul h1 h1) (Nat.add_le_add hD hN)
    simp only [rM, eB]
    have e : 2 ^ (2 * eB r j + r + 2) = 2 * (2 ^ eB r j * 2 ^ eB r j * (2 ^ r + 2 ^ r)) := by
      rw [Nat.pow_add, Nat.pow_add, Nat.two_mul, Nat.pow_add]; grind
    rw [e]
    exact Nat.mul_le_mul_left _ h2
/-- At most e bits. -/
def Cb (e : Nat) (l : List Rat) : Prop := ∃ D N, Cd D N l ∧ D ≤ 2 ^ e ∧ N ≤ 2 ^ e
/-- All roots have at most r bits. -/
def RB (r : Nat) (ts : List (List Rat)) : Prop := ∃ D N, 0 < D ∧ (∀ d ∈ ts, Cd D N d) ∧ D ≤ 2 ^ r ∧ N ≤ 2 ^ r
theorem pow_le2 {a b : Nat} (h : a ≤ b) : 2 ^ a ≤ 2 ^ b := Nat.pow_le_pow_right (by omega) h
theorem Cb.mono {e f : Nat} {l : List Rat} (h : Cb e l) (hf : e ≤ f) : Cb f l := by
  obtain ⟨D, N, h1, h2, h3⟩ := h
  exact ⟨D, N, h1, Nat.le_trans h2 (pow_le2 hf), Nat.le_trans h3 (pow_le2 hf)⟩
theorem Cb.sub {e : Nat} {l l' : List Rat} (h : Cb e l) (hs : ∀ q ∈ l', q ∈ l) : Cb e l' := by
  obtain ⟨D, N, h1, h2, h3⟩ := h
  exact ⟨D, N, h1.sub hs, h2, h3⟩
theorem Cb.take {e n : Nat} {l : List Rat} (h : Cb e l) : Cb e (l.take n) := h.sub (fun q hq => List.mem_of_mem_take hq)
theorem Cb.drop {e n : Nat} {l : List Rat} (h : Cb e l) : Cb e (l.drop n) := h.sub (fun q hq => List.mem_of_mem_drop hq)
theorem Cb.nil : Cb 0 [] := ⟨1, 1, Cd.nil (by omega), by simp, by simp⟩
theorem Cb.wide {e n : Nat} {a : List Rat} (h : Cb e a) : Cb e (wideL a n) := by
  obtain ⟨D, N, h1, h2, h3⟩ := h
  exact ⟨D, N, h1.wide, h2, h3⟩
theorem Cb.minus {e : Nat} {a : List Rat} (h : Cb e a) : Cb e (minusL a) := by
  obtain ⟨D, N, h1, h2, h3⟩ := h
  exact ⟨D, N, h1.minus, h2, h3⟩
theorem Cb.plus {e f : Nat} {a b : List Rat} (h : Cb e a) (h' : Cb f b) : Cb (e + f + 1) (plusL a b) := by
  obtain ⟨D, N, h1, h2, h3⟩ := h
  obtain ⟨D', N', h4, h5, h6⟩ := h'
  have k1 := h1.scale h4.1
  have k2 := h4.scale h1.1
  rw [Nat.mul_comm D'] at k2
  refine ⟨_, _, k1.plus k2, ?_, ?_⟩
  · rw [Nat.pow_succ, Nat.pow_add]; have := Nat.mul_le_mul h2 h5; omega
  · rw [Nat.pow_succ, Nat.pow_add]
    have e1 := Nat.mul_le_mul h3 h5
    have e2 := Nat.mul_le_mul h6 h2
    rw [Nat.mul_comm (2 ^ f)] at e2
    omega
theorem Cb.qb {e : Nat} {l : List Rat} (h : Cb e l) {q : Rat} (hq : q ∈ l) : Qb (e + 1) q := by
  obtain ⟨D, N, h1, h2, h3⟩ := h
  have := Nat.two_pow_pos e
  exact h1.qb (by rw [Nat.pow_succ]; omega) (by rw [Nat.pow_succ]; omega) hq
theorem Cb.qs {e : Nat} {l : List Rat} (h : Cb e l) (he : e < 4398046511104) {q : Rat} (hq : q ∈ l) : Qs q := (h.qb hq).qs he
/-- What is asked of the roots for products at levels up to m. -/
def TsOk (ts : List (List Rat)) (m r : Nat) : Prop := (∀ j, j < m → Nl j (ts.getD j [])) ∧ RB r ts
theorem RB.get {r : Nat} {ts : List (List Rat)} (h : RB r ts) : ∃ D N, 0 < D ∧ (∀ j, Cd D N (ts.getD j [])) ∧ D ≤ 2 ^ r ∧ N ≤ 2 ^ r := by
  obtain ⟨D, N, h0, h1, h2, h3⟩ := h
  refine ⟨D, N, h0, fun j => ?_, h2, h3⟩
  rw [List.getD_eq_getElem?_getD]
  cases hx : ts[j]? with
  | none => exact Cd.nil h0
  | some d => exact h1 d (List.mem_of_getElem? hx)
theorem RB.cb {r : Nat} {ts : List (List Rat)} (h : RB r ts) (j : Nat) : Cb r (ts.getD j []) := by
  obtain ⟨D, N, h0, h1, h2, h3⟩ := h.get
  exact ⟨D, N, h1 j, h2, h3⟩
theorem Cb.mul {ts : List (List Rat)} {m r : Nat} (ht : TsOk ts m r) {j k e f : Nat} {a b : List Rat} (hj : j ≤ m) (hk : j ≤ k) (ha : Nl j a) (hb : Nl j b) (ca : Cb e a) (cb : Cb f b) :
    Cb (e + f + eB r j) (pT ts k a b) := by
  obtain ⟨D, N, h0, h1, h2, h3⟩ := ht.2.get
  obtain ⟨Da, Na, a1, a2, a3⟩ := ca
  obtain ⟨Db, Nb, b1, b2, b3⟩ := cb
  refine ⟨_, _, pT_cd ts m D N (fun j hj => ⟨ht.1 j hj, h1 j⟩) h0 j k a b hj hk ha hb a1 b1, ?_, ?_⟩
  · rw [Nat.pow_add, Nat.pow_add]
    exact Nat.mul_le_mul (Nat.mul_le_mul a2 b2) (Nat.le_trans (rR_le D N j) (rM_le h2 h3 j))
  · rw [Nat.pow_add, Nat.pow_add]
    exact Nat.mul_le_mul (Nat.mul_le_mul a3 b3) (rM_le h2 h3 j)
theorem eB_mono (r : Nat) : ∀ j, eB r j ≤ eB r (j + 1) := fun j => by simp only [eB]; omega
/-- The sizes that a sign meets. -/
def sB (r : Nat) : Nat → Nat → Nat
  | 0, e => e
  | j + 1, e => sB r j (4 * e + 3 * eB r j + r + 1)
theorem sB_le (r : Nat) : ∀ j e, e ≤ sB r j e
  | 0, e => Nat.le_refl _
  | j + 1, e => by have := sB_le r j (4 * e + 3 * eB r j + r + 1); simp only [sB]; omega
theorem sB_mono (r : Nat) : ∀ j {e f : Nat}, e ≤ f → sB r j e ≤ sB r j f
  | 0, e, f, h => h
  | j + 1, e, f, h => by simp only [sB]; exact sB_mono r j (by omega)
theorem sB_up (r j e : Nat) : sB r j e ≤ sB r (j + 1) e := by simp only [sB]; exact sB_mono r j (by omega)
theorem sB_lev (r e : Nat) {i j : Nat} (h : i ≤ j) : sB r i e ≤ sB r j e := by
  induction j with
  | zero => have : i = 0 := by omega
            subst this; exact Nat.le_refl _
  | succ j ih =>
    by_cases hij : i = j + 1
    · rw [hij]; exact Nat.le_refl _
    · exact Nat.le_trans (ih (by omega)) (sB_up r j e)
theorem sB_five (r e : Nat) {j : Nat} (h : j ≤ 5) : sB r j e ≤ 1024 * e + 20000 * (r + 2) := by
  refine Nat.le_trans (sB_lev r e h) ?_
  simp only [sB, eB]; omega
theorem eB_five (r : Nat) {j : Nat} (h : j ≤ 5) : eB r j ≤ 31 * (r + 2) := by
  have : ∀ i, eB r i ≤ eB r (i + 1) := eB_mono r
  have h5 : eB r j ≤ eB r 5 := by
    match j, h with
    | 0, _ => simp only [eB]; omega
    | 1, _ => simp only [eB]; omega
    | 2, _ => simp only [eB]; omega
    | 3, _ => simp only [eB]; omega
    | 4, _ => simp only [eB]; omega
    | 5, _ => exact Nat.le_refl _
  refine Nat.le_trans h5 ?_
  simp only [eB]; omega
end Go.Lw
namespace Go.Lw
def nA (l : List Rat) : AV := .lst 3 (l.map qA)
def nR (l : List Rt) : AV := .lst 3 (l.map Rt.av)
def towA (ts : List (List Rat)) : AV := .agg [.lst 1 (ts.map nA)]
def towR (ts : List (List Rt)) : AV := .agg [.lst 1 (ts.map nR)]
def clog (n : Nat) : Nat := if n ≤ 1 then 0 else (n - 1).log2 + 1
theorem clog_eq {n k : Nat} (h1 : ∀ j, j < k → 2 ^ j < n) (h2 : n ≤ 2 ^ k) : clog n = k := by
  unfold clog
  split
  · rename_i h
    cases k with
    | zero => rfl
    | succ k => have := h1 0 (by omega); omega
  · rename_i h
    cases k with
    | zero => simp at h2; omega
    | succ k =>
      have h3 := h1 k (by omega)
      congr 1
      rw [Nat.log2_eq_iff (by omega)]
      omega
def lvl (n : Nat) : Int := if 2 ^ clog n = n then (clog n : Int) else -1
theorem clog_pow (j : Nat) : clog (2 ^ j) = j := clog_eq (fun i hi => Nat.pow_lt_pow_right (by omega) hi) (Nat.le_refl _)
theorem lvl_pow (j : Nat) : lvl (2 ^ j) = j := by unfold lvl; rw [clog_pow, if_pos rfl]
theorem lvl_nonneg {n : Nat} (h : 0 ≤ lvl n) : ∃ j : Nat, n = 2 ^ j ∧ lvl n = (j : Int) := by
  unfold lvl at h ⊢
  split at h
  · rename_i h1; exact ⟨clog n, h1.symm, by rw [if_pos h1]⟩
  · omega
theorem i64_shl1 {k : Nat} (hk : k ≤ 62) : IntKind.i64.wrap ((1 : Int) * 2 ^ (min (k : Int).toNat IntKind.i64.bits)) = ((2 ^ k : Nat) : Int) := by
  have h1 : min (k : Int).toNat IntKind.i64.bits = k := by simp [IntKind.bits]; omega
  have h2 : 2 ^ k ≤ 2 ^ 62 := pow_le2 hk
  have h3 : (2 : Nat) ^ 62 = 4611686018427387904 := by decide
  have h4 : ((2 : Int) ^ k) = ((2 ^ k : Nat) : Int) := by simp
  rw [h1, Int.one_mul, h4]
  generalize 2 ^ k = x at *
  exact i64_in (by omega)
/-- The error of a list of coefficients in a tower of so many roots. -/
def numE (m : Nat) (a : List Rt) : Nat := if a ≠ [] ∧ (lvl a.length < 0 ∨ (m : Int) < lvl a.length) then 10 else if a.all Rt.valid then 0 else 2
theorem numE_ok {m : Nat} {a : List Rt} (h : numE m a = 0) (hok : ∀ r ∈ a, r.ok) : a = (a.map Rt.q).map rt ∧ Nl m (a.map Rt.q) := by
  unfold numE at h
  split at h
  · cases h
  · rename_i h1
    split at h
    · rename_i h2
      rw [List.all_eq_true] at h2
      refine ⟨?_, ?_⟩
      · rw [List.map_map]
        refine (List.map_id _).symm.trans ?_
        exact List.map_congr_left (fun r hr => Rt.eq_rt (hok r hr) (h2 r hr))
      · by_cases h0 : a = []
        · subst h0; exact .inl rfl
        · have h3 : 0 ≤ lvl a.length ∧ lvl a.length ≤ m := by
            constructor
            · exact Int.not_lt.1 (fun h => h1 ⟨h0, .inl h⟩)
            · exact Int.not_lt.1 (fun h => h1 ⟨h0, .inr h⟩)
          obtain ⟨j, e1, e2⟩ := lvl_nonneg h3.1
          exact .inr ⟨j, by omega, by rw [List.length_map, e1]⟩
    · cases h
theorem nR_rt (l : List Rat) : nR (l.map rt) = nA l := by
  unfold nR nA
  rw [List.map_map]; rfl
theorem Nl.len5 {k : Nat} {a : List Rat} (h : Nl k a) (hk : k ≤ 5) : a.length ≤ 32 := Nat.le_trans h.le (pow_le2 (b := 5) hk)
theorem qZ : CellsSub (.agg [.v (.bool false), .v (.slice none 0 0), .v (.slice none 0 0)]) (qA 0) := by
  refine ⟨rfl, ?_⟩
  intro j x y hx hy
  match j, hx, hy with
  | 0, hx, hy => cases hx; cases hy; exact ⟨rfl, .refl _⟩
  | 1, hx, hy => cases hx; cases hy; exact ⟨rfl, .nil _ _ _⟩
  | 2, hx, hy => cases hx; cases hy; exact ⟨rfl, .nil _ _ _⟩
theorem CellsSub.refl {e : AV} (h : ∀ c ∈ e.cells, c.one = true) : CellsSub e e :=
  ⟨rfl, fun j x y hx hy => by rw [hx] at hy; cases hy; exact ⟨h x (List.mem_of_getElem? hx), .refl _⟩⟩
theorem qA_one (q : Rat) : ∀ c ∈ (qA q).cells, c.one = true := by
  intro c hc
  have : c = bl (rt q).neg ∨ c = ws (rt q).num ∨ c = ws (rt q).den := by simpa [qA, Rt.av, AV.cells] using hc
  rcases this with rfl | rfl | rfl <;> rfl
/-- A row of zeros, the beginning copied over. -/
theorem wide_row (a : List Rat) (n : Nat) (h : a.length ≤ n) :
    BlkSub (.row 3 (a.map qA ++ (List.replicate n (.agg [.v (.bool false), .v (.slice none 0 0), .v (.slice none 0 0)])).drop (a.map qA).length)) (.row 3 ((wideL a n).map qA)) := by
  refine .row ?_ ?_
  · simp only [wideL, List.length_append, List.length_map, List.length_drop, List.length_replicate]
  · intro i e e' he he'
    by_cases hi : i < a.length
    · rw [List.getElem?_append_left (by simpa using hi)] at he
      simp only [wideL, List.map_append] at he'
      rw [List.getElem?_append_left (by simpa using hi), he] at he'
      cases he'
      simp only [List.getElem?_map, Option.map_eq_some_iff] at he
      obtain ⟨q, _, rfl⟩ := he
      exact CellsSub.refl (qA_one q)
    · rw [List.getElem?_append_right (by simpa using hi), List.drop_replicate, List.getElem?_replicate] at he
      simp only [wideL, List.map_append] at he'
      rw [List.getElem?_append_right (by simpa using hi), List.map_replicate, List.getElem?_replicate] at he'
      split at he
      · cases he
        split at he'
        · cases he'; exact qZ
        · cases he'
      · cases he
theorem set_step {p w : List Rat} {i : Nat} {s : Rat} (hl : p.length = w.length) (hi : i < p.length) (hs : p[i] = s) :
    ((p.take i ++ w.drop i).map qA).set i (qA s) = (p.take (i + 1) ++ w.drop (i + 1)).map qA := by
  rw [← List.map_set]
  congr 1
  subst hs
  rw [List.set_append_right i _ (by simp; omega)]
  have h1 : i - (p.take i).length = 0 := by simp; omega
  rw [h1, List.drop_eq_getElem_cons (by omega), List.set_cons_zero, List.take_succ_eq_append_getElem hi, List.append_assoc]
  rfl
theorem plus_get {a b : List Rat} {i : Nat} (hi : i < (plusL a b).length) :
    (plusL a b)[i] = (wideL a (max a.length b.length)).getD i 0 + (wideL b (max a.length b.length)).getD i 0 := by
  have h := get_plus (a := a) (b := b) (i := i)
  rw [List.getD_eq_getElem?_getD, List.getElem?_eq_getElem hi, Option.getD_some] at h
  rw [h, get_wide, get_wide]
theorem getD_some {l : List Rat} {i : Nat} (h : i < l.length) : l[i]? = some (l.getD i 0) := by
  rw [List.getD_eq_getElem?_getD, List.getElem?_eq_getElem h]; rfl
theorem getD_mem {l : List Rat} {i : Nat} (h : i < l.length) : l.getD i 0 ∈ l := by
  rw [List.getD_eq_getElem?_getD, List.getElem?_eq_getElem h]; exact List.getElem_mem h
theorem mix_get {p w : List Rat} {i : Nat} (hl : p.length = w.length) (hi : i < p.length) : (p.take i ++ w.drop i)[i]? = some (w.getD i 0) := by
  rw [List.getElem?_append_right (by simp; omega), List.getElem?_drop]
  have : i + (i - (p.take i).length) = i := by simp; omega
  rw [this]
  exact getD_some (by omega)
theorem take_succ_get {α : Type} {l : List α} {i : Nat} {x : α} (h : l[i]? = some x) : l.take (i + 1) = l.take i ++ [x] := by
  obtain ⟨hi, rfl⟩ := List.getElem?_eq_some_iff.1 h
  exact List.take_succ_eq_append_getElem hi
theorem sgnQ_zero {q : Rat} (h : sgnQ q = 0) : q = 0 := by
  unfold sgnQ at h
  split at h
  · cases h
  · split at h
    · cases h
    · grind
theorem rt_zero : rt 0 = ⟨false, [], []⟩ := rfl
theorem empty_no {q : Rat} (h : cond (cond (rt q).neg true (icmp .gtr ((rt q).num.length : Int) 0)) true (icmp .gtr ((rt q).den.length : Int) 0) = true) : q ≠ 0 := by
  intro h0
  rw [h0, rt_zero] at h
  cases h
theorem empty_yes {q : Rat} (h : cond (cond (rt q).neg true (icmp .gtr ((rt q).num.length : Int) 0)) true (icmp .gtr ((rt q).den.length : Int) 0) = false) : q = 0 := by
  cases hn : (rt q).neg
  · rw [hn] at h
    cases hm : icmp .gtr ((rt q).num.length : Int) 0
    · have h1 : (rt q).num = [] := by
        cases hl : (rt q).num with
        | nil => rfl
        | cons x l => rw [hl] at hm; simp [icmp] at hm
      rw [← rt_q q]
      exact Rt.zero (fun h => h.2 h1)
    · rw [hm] at h; cases h
  · rw [hn] at h; cases h
theorem i64_half {n : Nat} (h : n ≤ 281474976710656) : IntKind.i64.wrap ((n : Int).tdiv 2) = ((n / 2 : Nat) : Int) := by
  rw [show ((n : Int).tdiv 2) = ((n / 2 : Nat) : Int) from (Int.ofNat_tdiv n 2).symm]
  exact i64_in (by omega)
theorem shortL_lev {m j : Nat} {a : List Rat} (h : a.length ≤ 2 ^ j) (hj : j ≤ m) : shortL m a = shortL j a := by
  induction m with
  | zero => have : j = 0 := by omega
            subst this; rfl
  | succ m ih =>
    by_cases hjm : j = m + 1
    · rw [hjm]
    · have h1 : a.length ≤ 2 ^ m := Nat.le_trans h (pow_le2 (by omega))
      have h2 : shortL (m + 1) a = if zeroL (a.drop (2 ^ m)) = true then shortL m (a.take (2 ^ m)) else a := rfl
      rw [h2, List.drop_eq_nil_of_le h1, if_pos zeroL_nil, List.take_of_length_le h1]
      exact ih (by omega)
def ShOk (a : List Rat) (n : Nat) : Prop := (n = 0 ∧ a = []) ∨ ∃ i, n = 2 ^ i ∧ i ≤ 5 ∧ n ≤ a.length ∧ shortL 5 a = shortL i (a.take n)
theorem sh_init {a : List Rat} (h : Nl 5 a) : ShOk a a.length := by
  rcases h with rfl | ⟨j, hj, h⟩
  · exact .inl ⟨rfl, rfl⟩
  · exact .inr ⟨j, h, hj, Nat.le_refl _, by rw [List.take_length]; exact shortL_lev (by omega) hj⟩
theorem sh_cut {a : List Rat} {i : Nat} : (a.drop (2 ^ i)).take (2 ^ (i + 1) - 2 ^ i) = (a.take (2 ^ (i + 1))).drop (2 ^ i) := by
  rw [List.drop_take]
theorem sh_step {a : List Rat} {n : Nat} (h : ShOk a n) (h1 : 1 < n) (hz : zeroL ((a.drop (n / 2)).take (n - n / 2)) = true) : ShOk a (n / 2) := by
  rcases h with ⟨h, _⟩ | ⟨i, rfl, hi, hl, hs⟩
  · omega
  · cases i with
    | zero => simp at h1
    | succ i =>
      rw [half_pow] at hz ⊢
      rw [sh_cut] at hz
      have h2 : shortL (i + 1) (a.take (2 ^ (i + 1))) = if zeroL ((a.take (2 ^ (i + 1))).drop (2 ^ i)) = true then shortL i ((a.take (2 ^ (i + 1))).take (2 ^ i)) else a.take (2 ^ (i + 1)) := rfl
      rw [h2, if_pos hz, List.take_take, Nat.min_eq_left (pow_le2 (by omega))] at hs
      exact .inr ⟨i, rfl, by omega, Nat.le_trans (pow_le2 (by omega)) hl, hs⟩
theorem sh_end1 {a : List Rat} (h : ShOk a 1) (hz : zeroL (a.take 1) = true) : shortL 5 a = [] := by
  rcases h with ⟨h, _⟩ | ⟨i, h0, hi, hl, hs⟩
  · omega
  · have : i = 0 := by
      cases i with
      | zero => rfl
      | succ i => rw [Nat.pow_succ] at h0; omega
    subst this
    rw [hs]
    show (if zeroL (a.take 1) = true then [] else _) = _
    rw [if_pos hz]
theorem sh_end2 {a : List Rat} {n : Nat} (h : ShOk a n) (h1 : 1 < n → zeroL ((a.drop (n / 2)).take (n - n / 2)) = false) (h2 : n = 1 → zeroL (a.take 1) = false) : shortL 5 a = a.take n := by
  rcases h with ⟨rfl, rfl⟩ | ⟨i, rfl, hi, hl, hs⟩
  · rfl
  · cases i with
    | zero =>
      rw [hs]
      show (if zeroL (a.take 1) = true then [] else _) = _
      rw [h2 rfl]; rfl
    | succ i =>
      have h3 := h1 (by have := Nat.two_pow_pos i; rw [Nat.pow_succ]; omega)
      rw [half_pow, sh_cut] at h3
      rw [hs]
      have h4 : shortL (i + 1) (a.take (2 ^ (i + 1))) = if zeroL ((a.take (2 ^ (i + 1))).drop (2 ^ i)) = true then shortL i ((a.take (2 ^ (i + 1))).take (2 ^ i)) else a.take (2 ^ (i + 1)) := rfl
      rw [h4, h3]; rfl
theorem ShOk.le {a : List Rat} {n : Nat} (h : ShOk a n) : n ≤ a.length := by
  rcases h with ⟨rfl, rfl⟩ | ⟨i, rfl, hi, hl, hs⟩
  · exact Nat.le_refl _
  · exact hl
theorem nA_cut (a : List Rat) (l m : Nat) : AV.lst 3 (((a.map qA).drop l).take m) = nA ((a.drop l).take m) := by
  unfold nA; rw [List.map_take, List.map_drop]
/-- The short form at any level. -/
theorem shortL_sh {n : Nat} {a : List Rat} (h : Nl n a) (hn : n ≤ 5) : shortL 5 a = sh n (dec n a) := by
  rw [shortL_lev h.le hn, shortL_eq n h]
theorem BlkSub.of_ {x y z : Blk} (h : BlkSub x y) (e : z = x) : BlkSub z y := e ▸ h
theorem minus_get {a : List Rat} {i : Nat} (hi : i < (minusL a).length) : (minusL a)[i] = -(a.getD i 0) := by
  have h := get_minus (a := a) (i := i)
  rw [List.getD_eq_getElem?_getD, List.getElem?_eq_getElem hi, Option.getD_some] at h
  exact h
end Go.Lw
namespace Go.Lw
theorem pT_zero {ts : List (List Rat)} {k : Nat} {x y : List Rat} (hl : y.length ≤ x.length) (h : zeroL x = true ∨ zeroL y = true) : pT ts k x y = [] := by
  unfold pT
  simp only [if_neg (show ¬ x.length < y.length by omega)]
  rw [if_pos (by rw [Bool.or_eq_true]; exact h)]
theorem pT_one {ts : List (List Rat)} {k : Nat} {p q : Rat} (h : ¬ (zeroL [p] = true ∨ zeroL [q] = true)) : pT ts k [p] [q] = [p * q] := by
  unfold pT
  simp only [List.length_cons, List.length_nil, Nat.lt_irrefl, if_false]
  rw [if_neg (by rw [Bool.or_eq_true]; exact h)]
  simp
theorem pT_half {ts : List (List Rat)} {k i : Nat} {x y : List Rat} (hx : x.length = 2 ^ (i + 1)) (hl : y.length ≤ 2 ^ i) (h : ¬ (zeroL x = true ∨ zeroL y = true)) :
    pT ts (k + 1) x y = joinL (pT ts k (x.take (2 ^ i)) y) (pT ts k (x.drop (2 ^ i)) y) (2 ^ i) := by
  have h2 := Nat.two_pow_pos i
  have hlt : ¬ x.length < y.length := by rw [hx, Nat.pow_succ]; omega
  conv => lhs; unfold pT
  simp only [if_neg hlt]
  rw [if_neg (by rw [Bool.or_eq_true]; exact h), if_neg (by rw [hx, Nat.pow_succ]; omega)]
  simp only [hx, half_pow]
  rw [if_pos hl]
theorem pT_full {ts : List (List Rat)} {k i : Nat} {x y : List Rat} (hx : x.length = 2 ^ (i + 1)) (hl : ¬ y.length ≤ 2 ^ i) (hyx : y.length ≤ x.length) (h : ¬ (zeroL x = true ∨ zeroL y = true)) :
    pT ts (k + 1) x y = joinL (plusL (pT ts k (x.take (2 ^ i)) (y.take (2 ^ i))) (pT ts k (pT ts k (x.drop (2 ^ i)) (y.drop (2 ^ i))) (ts.getD i [])))
      (plusL (pT ts k (x.take (2 ^ i)) (y.drop (2 ^ i))) (pT ts k (x.drop (2 ^ i)) (y.take (2 ^ i)))) (2 ^ i) := by
  conv => lhs; unfold pT
  simp only [if_neg (show ¬ x.length < y.length by omega)]
  have h2 := Nat.two_pow_pos i
  rw [if_neg (by rw [Bool.or_eq_true]; exact h), if_neg (by rw [hx, Nat.pow_succ]; omega)]
  simp only [hx, half_pow, log_pow]
  rw [if_neg hl]
theorem eB_lev (r : Nat) {i j : Nat} (h : i ≤ j) : eB r i ≤ eB r j := by
  induction j with
  | zero => have : i = 0 := by omega
            subst this; exact Nat.le_refl _
  | succ j ih =>
    by_cases hij : i = j + 1
    · rw [hij]; exact Nat.le_refl _
    · exact Nat.le_trans (ih (by omega)) (eB_mono r j)
theorem nl_cases {j : Nat} {x : List Rat} (h : Nl j x) : x.length = 0 ∨ x.length = 1 ∨ ∃ i, i + 1 ≤ j ∧ x.length = 2 ^ (i + 1) := by
  rcases h with rfl | ⟨i, hi, h⟩
  · exact .inl rfl
  · cases i with
    | zero => exact .inr (.inl h)
    | succ i => exact .inr (.inr ⟨i, hi, h⟩)
theorem nl_of_len {j i : Nat} {x : List Rat} (h : Nl j x) (hl : x.length ≤ 2 ^ i) : Nl i x := by
  rcases h with rfl | ⟨l, hl', h⟩
  · exact .inl rfl
  · refine .inr ⟨l, ?_, h⟩
    rcases Nat.lt_or_ge i l with h1 | h1
    · have := Nat.pow_lt_pow_right (a := 2) (by omega) h1
      omega
    · exact h1
theorem nl_full {j i : Nat} {x : List Rat} (h : Nl j x) (hl : ¬ x.length ≤ 2 ^ i) (hu : x.length ≤ 2 ^ (i + 1)) : x.length = 2 ^ (i + 1) := by
  rcases h with rfl | ⟨l, hl', h⟩
  · simp at hl
  · rcases Nat.lt_or_ge i l with h1 | h1
    · rcases Nat.lt_or_ge (i + 1) l with h2 | h2
      · have := Nat.pow_lt_pow_right (a := 2) (by omega) h2
        omega
      · rw [h, show l = i + 1 by omega]
    · have := pow_le2 h1
      omega
theorem rootAt {ts : List (List Rat)} {j : Nat} (h : j < ts.length) : (ts.map nA)[j]? = some (nA (ts.getD j [])) := by
  rw [List.getElem?_map, List.getD_eq_getElem?_getD, List.getElem?_eq_getElem h]; rfl
theorem cut_low (x : List Rat) (n : Nat) : AV.lst 3 (((x.map qA).drop 0).take (n - 0)) = nA (x.take n) := by
  rw [Nat.sub_zero, List.drop_zero, ← List.map_take]; rfl
theorem cut_high (x : List Rat) (n : Nat) : AV.lst 3 (((x.map qA).drop n).take ((x.map qA).length - n)) = nA (x.drop n) := by
  rw [← List.map_drop, List.take_of_length_le (by simp)]; rfl
/-! ### Norms and signs -/
def normL (ts : List (List Rat)) (i : Nat) (a : List Rat) : List Rat :=
  plusL (pT ts i (a.take (2 ^ i)) (a.take (2 ^ i))) (minusL (pT ts i (pT ts i (a.drop (2 ^ i)) (a.drop (2 ^ i))) (ts.getD i [])))
theorem normL_spec {ts : List (List Rat)} {m r : Nat} (ht : TsOk ts m r) {i e : Nat} {a : List Rat} (hi : i + 1 ≤ m) (ha : a.length = 2 ^ (i + 1)) (ca : Cb e a) :
    Nl i (normL ts i a) ∧ dec i (normL ts i a) = T.norm (rtsOf ts) i (dec (i + 1) a) ∧ Cb (4 * e + 3 * eB r i + r + 1) (normL ts i a) := by
  have n1 : Nl i (a.take (2 ^ i)) := .inr ⟨i, Nat.le_refl _, nl_take ha⟩
  have n2 : Nl i (a.drop (2 ^ i)) := .inr ⟨i, Nat.le_refl _, nl_drop ha⟩
  have s1 := pT_spec ts m ht.1 i i _ _ (by omega) (by omega) n1 n1
  have s2 := pT_spec ts m ht.1 i i _ _ (by omega) (by omega) n2 n2
  have s3 := pT_spec ts m ht.1 i i _ _ (by omega) (by omega) s2.1 (ht.1 i (by omega))
  have c1 := Cb.mul ht (k := i) (show i ≤ m by omega) (by omega) n1 n1 ca.take ca.take
  have c2 := Cb.mul ht (k := i) (show i ≤ m by omega) (by omega) n2 n2 ca.drop ca.drop
  have c3 := Cb.mul ht (k := i) (show i ≤ m by omega) (by omega) s2.1 (ht.1 i (by omega)) c2 (ht.2.cb i)
  refine ⟨?_, ?_, ?_⟩
  · have l1 := s1.1.le
    have l3 := s3.1.le
    rcases s1.1 with h1 | ⟨j1, hj1, h1⟩ <;> rcases s3.1 with h3 | ⟨j3, hj3, h3⟩
    · refine .inl ?_
      apply List.eq_nil_of_length_eq_zero
      unfold normL
      rw [len_plus, len_minus, h1, h3]; rfl
    · refine .inr ⟨j3, hj3, ?_⟩
      unfold normL
      rw [len_plus, len_minus, h1, h3]; simp
    · refine .inr ⟨j1, hj1, ?_⟩
      unfold normL
      rw [len_plus, len_minus, h1, h3]; simp
    · refine .inr ⟨max j1 j3, by omega, ?_⟩
      unfold normL
      rw [len_plus, len_minus, h1, h3]
      rcases Nat.le_total j1 j3 with h | h
      · rw [Nat.max_eq_right h, Nat.max_eq_right (pow_le2 h)]
      · rw [Nat.max_eq_left h, Nat.max_eq_left (pow_le2 h)]
  · unfold normL T.norm
    rw [dec_plus, dec_minus, s1.2, s3.2, s2.2]
    rfl
  · exact (c1.plus c3.minus).mono (by omega)
theorem T.sgn_ofQ (r : (k : Nat) → T k) : ∀ (k : Nat) (q : Rat), T.sgn r k (T.ofQ k q) = sgnQ q
  | 0, q => rfl
  | k + 1, q => by simp only [T.ofQ]; rw [T.sgn_low, T.sgn_ofQ r k]
theorem sgn_lev (r : (k : Nat) → T k) {i j : Nat} {a : List Rat} (h : a.length ≤ 2 ^ i) (hij : i ≤ j) : T.sgn r j (dec j a) = T.sgn r i (dec i a) := by
  induction j with
  | zero => have : i = 0 := by omega
            subst this; rfl
  | succ j ih =>
    by_cases h' : i = j + 1
    · rw [h']
    · rw [dec_up (Nat.le_trans h (pow_le2 (by omega))), T.sgn_low]
      exact ih (by omega)
theorem mem_shortL : ∀ (k : Nat) {a : List Rat} {q : Rat}, q ∈ shortL k a → q ∈ a
  | 0, a, q, h => by
    have e : shortL 0 a = if zeroL a = true then [] else a := rfl
    rw [e] at h
    split at h
    · cases h
    · exact h
  | k + 1, a, q, h => by
    have e : shortL (k + 1) a = if zeroL (a.drop (2 ^ k)) = true then shortL k (a.take (2 ^ k)) else a := rfl
    rw [e] at h
    split at h
    · exact List.mem_of_mem_take (mem_shortL k h)
    · exact h
theorem Cb.sh {e k : Nat} {a : List Rat} (h : Cb e a) (hn : Nl k a) : Cb e (sh k (dec k a)) := by
  rw [← shortL_eq k hn]; exact Cb.sub h (fun q hq => mem_shortL k hq)
theorem mul_small {x y : Int} (hx : x = -1 ∨ x = 0 ∨ x = 1) (hy : y = -1 ∨ y = 0 ∨ y = 1) : IntKind.i64.wrap (iarith .mul x y) = x * y := by
  apply i64_mulI
  rcases hx with rfl | rfl | rfl <;> rcases hy with rfl | rfl | rfl <;> simp
theorem pick_or {x y z w : Int} (h : cond (icmp .eql x y) true (icmp .eql z w) = true) : x = y ∨ z = w := by
  cases hx : icmp .eql x y
  · rw [hx] at h; exact .inr (by simpa [icmp] using h)
  · exact .inl (by simpa [icmp] using hx)
theorem pick_nor {x y z w : Int} (h : cond (icmp .eql x y) true (icmp .eql z w) = false) : ¬ (x = y ∨ z = w) := by
  cases hx : icmp .eql x y
  · rw [hx] at h
    have h1 : x ≠ y := by simpa [icmp] using hx
    have h2 : z ≠ w := by simpa [icmp] using h
    exact fun h => h.elim h1 h2
  · rw [hx] at h; cases h
end Go.Lw
namespace Go.Lw
abbrev lq (a : List Rt) : List Rat := a.map Rt.q
abbrev llq (rs : List (List Rt)) : List (List Rat) := rs.map lq
def chkG (rs : List (List Rt)) : Nat → Nat → Nat
  | 0, _ => 0
  | f + 1, k => if (rs.getD k []).length ≠ 2 ^ k then 10 else if numE k (rs.getD k []) ≠ 0 then numE k (rs.getD k [])
    else if T.sgn (rtsOf (llq rs)) k (rtsOf (llq rs) k) < 0 then 3 else chkG rs f (k + 1)
/-- The error of a tower. -/
def chkE (rs : List (List Rt)) : Nat := if 5 < rs.length then 4 else chkG rs rs.length 0
def firstE : List Nat → Nat
  | [] => 0
  | e :: l => if e ≠ 0 then e else firstE l
/-- The error of a tower and of numbers. -/
def chksE (rs : List (List Rt)) (xs : List (List Rt)) : Nat := if chkE rs ≠ 0 then chkE rs else firstE (xs.map (numE rs.length))
theorem T.mul_congr {r r' : (k : Nat) → T k} : ∀ (k : Nat), (∀ j, j < k → r j = r' j) → ∀ x y, T.mul r k x y = T.mul r' k x y
  | 0, _, x, y => rfl
  | k + 1, h, x, y => by
    have ih := T.mul_congr k (fun j hj => h j (by omega))
    simp only [T.mul, ih, h k (by omega)]
theorem T.sgn_congr {r r' : (k : Nat) → T k} : ∀ (k : Nat), (∀ j, j < k → r j = r' j) → ∀ x, T.sgn r k x = T.sgn r' k x
  | 0, _, x => rfl
  | k + 1, h, x => by
    have ih := T.sgn_congr k (fun j hj => h j (by omega))
    have im := T.mul_congr k (fun j hj => h j (by omega))
    simp only [T.sgn, T.norm, ih, im, h k (by omega)]
theorem rtsOf_take {ts : List (List Rat)} {k j : Nat} (h : j < k) : rtsOf (ts.take k) j = rtsOf ts j := by
  unfold rtsOf
  simp only [List.getD_eq_getElem?_getD, List.getElem?_take, if_pos h]
theorem llq_getD (rs : List (List Rt)) (k : Nat) : (llq rs).getD k [] = lq (rs.getD k []) := by
  simp only [List.getD_eq_getElem?_getD, List.getElem?_map]
  cases rs[k]? <;> rfl
/-- Root k is xs it should be. -/
def RtOk (rs : List (List Rt)) (k : Nat) : Prop := (rs.getD k []).length = 2 ^ k ∧ numE k (rs.getD k []) = 0 ∧ 0 ≤ T.sgn (rtsOf (llq rs)) k (rtsOf (llq rs) k)
theorem chkG_step {rs : List (List Rt)} {f k : Nat} (h : RtOk rs k) : chkG rs (f + 1) k = chkG rs f (k + 1) := by
  obtain ⟨h1, h2, h3⟩ := h
  show (if _ then _ else _) = _
  rw [if_neg (by rw [h1]; simp), if_neg (by rw [h2]; simp), if_neg (by omega)]
theorem chkG_ok : ∀ {f k : Nat} {rs : List (List Rt)}, chkG rs f k = 0 → ∀ j, k ≤ j → j < k + f → RtOk rs j
  | 0, k, rs, _, j, h1, h2 => by omega
  | f + 1, k, rs, h, j, h1, h2 => by
    have h' : (if (rs.getD k []).length ≠ 2 ^ k then 10 else if numE k (rs.getD k []) ≠ 0 then numE k (rs.getD k [])
      else if T.sgn (rtsOf (llq rs)) k (rtsOf (llq rs) k) < 0 then 3 else chkG rs f (k + 1)) = 0 := h
    split at h'
    · cases h'
    · rename_i e1
      split at h'
      · rename_i e2; exact absurd h' e2
      · rename_i e2
        split at h'
        · cases h'
        · rename_i e3
          by_cases hj : j = k
          · subst hj
            exact ⟨Decidable.not_not.1 e1, Decidable.not_not.1 e2, by omega⟩
          · exact chkG_ok h' j (by omega) (by omega)
theorem chkG_of : ∀ {f k : Nat} {rs : List (List Rt)}, (∀ j, k ≤ j → j < k + f → RtOk rs j) → chkG rs f k = 0
  | 0, k, rs, _ => rfl
  | f + 1, k, rs, h => by
    rw [chkG_step (h k (by omega) (by omega))]
    exact chkG_of (fun j h1 h2 => h j (by omega) (by omega))
/-- The roots before k, xs numbers. -/
theorem take_llq {rs : List (List Rt)} (hok : ∀ d ∈ rs, ∀ x ∈ d, x.ok) {k : Nat} (hk : k ≤ rs.length) (h : ∀ j, j < k → numE j (rs.getD j []) = 0) : (rs.take k).map nR = ((llq rs).take k).map nA := by
  apply List.ext_getElem?
  intro j
  simp only [List.getElem?_map, List.getElem?_take]
  by_cases hj : j < k
  · rw [if_pos hj, if_pos hj]
    have hjl : j < rs.length := by omega
    have h1 := h j hj
    rw [List.getD_eq_getElem?_getD, List.getElem?_eq_getElem hjl, Option.getD_some] at h1
    rw [List.getElem?_eq_getElem hjl]
    simp only [Option.map_some]
    congr 1
    have := (numE_ok h1 (fun x hx => hok _ (List.getElem_mem hjl) x hx)).1
    rw [← nR_rt, ← this]
  · rw [if_neg hj, if_neg hj]; rfl
theorem RtOk.nl {rs : List (List Rt)} {k : Nat} (h : RtOk rs k) : Nl k ((llq rs).getD k []) := by
  rw [llq_getD]; exact .inr ⟨k, Nat.le_refl _, by rw [List.length_map, h.1]⟩
theorem tsok_take {ts : List (List Rat)} {k r : Nat} (h : ∀ j, j < k → Nl j (ts.getD j [])) (hr : RB r ts) : TsOk (ts.take k) k r := by
  refine ⟨fun j hj => ?_, ?_⟩
  · have := h j hj
    simp only [List.getD_eq_getElem?_getD, List.getElem?_take, if_pos hj] at this ⊢
    exact this
  · obtain ⟨D, N, h0, h1, h2, h3⟩ := hr
    exact ⟨D, N, h0, fun d hd => h1 d (List.mem_of_mem_take hd), h2, h3⟩
/-- A checked tower. -/
structure Tw (ts : List (List Rat)) (r : Nat) : Prop where
  five : ts.length ≤ 5
  len : ∀ j, j < ts.length → (ts.getD j []).length = 2 ^ j
  pos : ∀ j, j < ts.length → 0 ≤ T.sgn (rtsOf ts) j (rtsOf ts j)
  rb : RB r ts
  le : r ≤ 1000000
theorem Tw.ok {ts : List (List Rat)} {r : Nat} (h : Tw ts r) : TsOk ts ts.length r :=
  ⟨fun j hj => .inr ⟨j, Nat.le_refl _, h.len j hj⟩, h.rb⟩
/-- What is asked of a tower that came in. -/
structure TR (rs : List (List Rt)) (r : Nat) : Prop where
  ok : ∀ d ∈ rs, ∀ x ∈ d, x.ok
  len : ∀ d ∈ rs, d.length ≤ 281474976710656
  ll : rs.length ≤ 281474976710656
  rb : RB r (llq rs)
  le : r ≤ 1000000
theorem chk_tw {rs : List (List Rt)} {r : Nat} (h : TR rs r) (hc : chkE rs = 0) : Tw (llq rs) r ∧ towR rs = towA (llq rs) := by
  unfold chkE at hc
  split at hc
  · cases hc
  · rename_i h5
    have hk := chkG_ok hc
    have hl : (llq rs).length = rs.length := List.length_map _
    refine ⟨⟨by rw [hl]; omega, fun j hj => ?_, fun j hj => ?_, h.rb, h.le⟩, ?_⟩
    · rw [llq_getD, List.length_map]; exact (hk j (by omega) (by omega)).1
    · exact (hk j (by omega) (by omega)).2.2
    · unfold towR towA
      have := take_llq h.ok (Nat.le_refl rs.length) (fun j hj => (hk j (by omega) (by omega)).2.1)
      rw [List.take_length, List.take_of_length_le (by omega)] at this
      rw [this]
theorem numE_rt {m : Nat} {a : List Rat} (h : Nl m a) : numE m (a.map rt) = 0 := by
  unfold numE
  rw [if_neg, if_pos]
  · rw [List.all_eq_true]
    intro x hx
    obtain ⟨q, _, rfl⟩ := List.mem_map.1 hx
    exact rt_valid q
  · rintro ⟨h0, h1⟩
    rw [List.length_map] at h1
    rcases h with rfl | ⟨j, hj, h⟩
    · exact h0 rfl
    · rw [h, lvl_pow] at h1; omega
theorem lq_rt (a : List Rat) : lq (a.map rt) = a := by
  unfold lq
  rw [List.map_map]
  refine (List.map_congr_left (fun q _ => rt_q q)).trans (List.map_id _)
theorem llq_rt (ts : List (List Rat)) : llq (ts.map (List.map rt)) = ts := by
  unfold llq
  rw [List.map_map]
  refine (List.map_congr_left (fun a _ => lq_rt a)).trans (List.map_id _)
theorem towR_rt (ts : List (List Rat)) : towR (ts.map (List.map rt)) = towA ts := by
  unfold towR towA
  rw [List.map_map]
  congr 3
  exact List.map_congr_left (fun a _ => nR_rt a)
theorem Tw.chk {ts : List (List Rat)} {r : Nat} (h : Tw ts r) : chkE (ts.map (List.map rt)) = 0 := by
  unfold chkE
  rw [List.length_map, if_neg (by have := h.five; omega)]
  refine chkG_of (fun j _ hj => ?_)
  have e1 : (ts.map (List.map rt)).getD j [] = (ts.getD j []).map rt := by
    simp only [List.getD_eq_getElem?_getD, List.getElem?_map]
    cases ts[j]? <;> rfl
  refine ⟨?_, ?_, ?_⟩
  · rw [e1, List.length_map]; exact h.len j (by omega)
  · rw [e1]; exact numE_rt (.inr ⟨j, Nat.le_refl _, h.len j (by omega)⟩)
  · rw [llq_rt]; exact h.pos j (by omega)
theorem RB.qs {r : Nat} {ts : List (List Rat)} (h : RB r ts) (hr : r ≤ 1000000) : ∀ d ∈ ts, ∀ q ∈ d, Qs q := by
  obtain ⟨D, N, h0, h1, h2, h3⟩ := h
  intro d hd q hq
  exact Cb.qs ⟨D, N, h1 d hd, h2, h3⟩ (by omega) hq
theorem Tw.tr {ts : List (List Rat)} {r : Nat} (h : Tw ts r) : TR (ts.map (List.map rt)) r := by
  refine ⟨?_, ?_, by rw [List.length_map]; have := h.five; omega, by rw [llq_rt]; exact h.rb, h.le⟩
  · intro d hd x hx
    obtain ⟨a, ha, rfl⟩ := List.mem_map.1 hd
    obtain ⟨q, hq, rfl⟩ := List.mem_map.1 hx
    exact (h.rb.qs h.le a ha q hq).ok
  · intro d hd
    obtain ⟨a, ha, rfl⟩ := List.mem_map.1 hd
    obtain ⟨j, hj, rfl⟩ := List.mem_iff_getElem.1 ha
    have := h.len j hj
    rw [List.getD_eq_getElem?_getD, List.getElem?_eq_getElem hj, Option.getD_some] at this
    rw [List.length_map, this]
    have := h.five
    have : 2 ^ j ≤ 2 ^ 5 := pow_le2 (by omega)
    omega
theorem firstE_zero : ∀ {l : List Nat}, firstE l = 0 → ∀ e ∈ l, e = 0
  | [], _, e, he => by cases he
  | x :: l, h, e, he => by
    have h' : (if x ≠ 0 then x else firstE l) = 0 := h
    split at h'
    · rename_i hx; exact absurd h' hx
    · rename_i hx
      rcases List.mem_cons.1 he with rfl | he
      · exact Decidable.not_not.1 hx
      · exact firstE_zero h' e he
theorem firstE_of : ∀ {l : List Nat}, (∀ e ∈ l, e = 0) → firstE l = 0
  | [], _ => rfl
  | x :: l, h => by
    show (if x ≠ 0 then x else firstE l) = 0
    rw [if_neg (by rw [h x (by simp)]; simp)]
    exact firstE_of (fun e he => h e (by simp [he]))
theorem firstE_app : ∀ (l l' : List Nat), firstE l = 0 → firstE (l ++ l') = firstE l'
  | [], l', _ => rfl
  | x :: l, l', h => by
    have h0 := firstE_zero h x (by simp)
    show (if x ≠ 0 then x else firstE (l ++ l')) = _
    rw [if_neg (by rw [h0]; simp)]
    exact firstE_app l l' (firstE_of (fun e he => firstE_zero h e (by simp [he])))
theorem chks_ok {rs xs : List (List Rt)} (h : chksE rs xs = 0) : chkE rs = 0 ∧ ∀ a ∈ xs, numE rs.length a = 0 := by
  unfold chksE at h
  split at h
  · rename_i h1; exact absurd h h1
  · rename_i h1
    exact ⟨Decidable.not_not.1 h1, fun a ha => firstE_zero h _ (List.mem_map.2 ⟨a, ha, rfl⟩)⟩
theorem chks_of {rs xs : List (List Rt)} (h1 : chkE rs = 0) (h2 : ∀ a ∈ xs, numE rs.length a = 0) : chksE rs xs = 0 := by
  unfold chksE
  rw [if_neg (by rw [h1]; simp)]
  refine firstE_of (fun e he => ?_)
  obtain ⟨a, ha, rfl⟩ := List.mem_map.1 he
  exact h2 a ha
/-- A number that came in. -/
structure NR (a : List Rt) (e : Nat) : Prop where
  ok : ∀ x ∈ a, x.ok
  len : a.length ≤ 281474976710656
  cb : Cb e (lq a)
theorem NR.num {a : List Rt} {e m : Nat} (h : NR a e) (hn : numE m a = 0) : nR a = nA (lq a) ∧ Nl m (lq a) := by
  obtain ⟨h1, h2⟩ := numE_ok hn h.ok
  refine ⟨?_, h2⟩
  rw [← nR_rt, ← h1]
theorem sB_tw {r j e : Nat} (hj : j ≤ 5) (hr : r ≤ 1000000) (he : e ≤ 1000000000) : sB r j e < 4398046511104 := by
  have := sB_five r e hj
  omega
theorem chkE_at {rs : List (List Rt)} (h5 : rs.length ≤ 5) : ∀ {k : Nat}, k ≤ rs.length → (∀ j, j < k → RtOk rs j) → chkE rs = chkG rs (rs.length - k) k
  | 0, _, _ => by unfold chkE; rw [if_neg (by omega)]; rfl
  | k + 1, hk, h => by
    rw [chkE_at h5 (k := k) (by omega) (fun j hj => h j (by omega)), show rs.length - k = (rs.length - (k + 1)) + 1 by omega, chkG_step (h k (by omega))]
theorem chkE_all {rs : List (List Rt)} (h5 : rs.length ≤ 5) (h : ∀ j, j < rs.length → RtOk rs j) : chkE rs = 0 := by
  rw [chkE_at h5 (Nat.le_refl _) h, Nat.sub_self]; rfl
theorem chkE_len {rs : List (List Rt)} (h5 : rs.length ≤ 5) {k : Nat} {d : List Rt} (hd : rs[k]? = some d) (h : ∀ j, j < k → RtOk rs j) (hl : d.length ≠ 2 ^ k) : chkE rs = 10 := by
  have hk := (List.getElem?_eq_some_iff.1 hd).1
  have e : rs.getD k [] = d := by rw [List.getD_eq_getElem?_getD, hd]; rfl
  rw [chkE_at h5 (k := k) (by omega) h, show rs.length - k = (rs.length - (k + 1)) + 1 by omega]
  show (if _ then _ else _) = _
  rw [e, if_pos hl]
theorem chkE_num {rs : List (List Rt)} (h5 : rs.length ≤ 5) {k : Nat} {d : List Rt} (hd : rs[k]? = some d) (h : ∀ j, j < k → RtOk rs j) (hl : d.length = 2 ^ k) (hn : numE k d ≠ 0) : chkE rs = numE k d := by
  have hk := (List.getElem?_eq_some_iff.1 hd).1
  have e : rs.getD k [] = d := by rw [List.getD_eq_getElem?_getD, hd]; rfl
  rw [chkE_at h5 (k := k) (by omega) h, show rs.length - k = (rs.length - (k + 1)) + 1 by omega]
  show (if _ then _ else _) = _
  rw [e, if_neg (by rw [hl]; simp), if_pos hn]
theorem rts_at {rs : List (List Rt)} {k : Nat} {d : List Rt} (hd : rs[k]? = some d) : rtsOf (llq rs) k = dec k (lq d) := by
  unfold rtsOf
  rw [llq_getD, List.getD_eq_getElem?_getD, hd]; rfl
theorem chkE_sgn {rs : List (List Rt)} (h5 : rs.length ≤ 5) {k : Nat} {d : List Rt} (hd : rs[k]? = some d) (h : ∀ j, j < k → RtOk rs j) (hl : d.length = 2 ^ k) (hn : numE k d = 0)
    (hs : T.sgn (rtsOf (llq rs)) k (dec k (lq d)) < 0) : chkE rs = 3 := by
  have hk := (List.getElem?_eq_some_iff.1 hd).1
  have e : rs.getD k [] = d := by rw [List.getD_eq_getElem?_getD, hd]; rfl
  rw [chkE_at h5 (k := k) (by omega) h, show rs.length - k = (rs.length - (k + 1)) + 1 by omega]
  show (if _ then _ else _) = _
  rw [e, if_neg (by rw [hl]; simp), if_neg (by rw [hn]; simp), rts_at hd, if_pos hs]
theorem rtok_of {rs : List (List Rt)} {k : Nat} {d : List Rt} (hd : rs[k]? = some d) (hl : d.length = 2 ^ k) (hn : numE k d = 0)
    (hs : ¬ T.sgn (rtsOf (llq rs)) k (dec k (lq d)) < 0) : RtOk rs k := by
  have e : rs.getD k [] = d := by rw [List.getD_eq_getElem?_getD, hd]; rfl
  exact ⟨by rw [e]; exact hl, by rw [e]; exact hn, by rw [rts_at hd]; omega⟩
theorem towR_take {rs : List (List Rt)} (hok : ∀ d ∈ rs, ∀ x ∈ d, x.ok) {k : Nat} (hk : k ≤ rs.length) (h : ∀ j, j < k → RtOk rs j) : towR (rs.take k) = towA ((llq rs).take k) := by
  unfold towR towA
  rw [take_llq hok hk (fun j hj => (h j hj).2.1)]
theorem cut_take {α : Type} (f : α → AV) (l : List α) (n : Nat) : AV.lst 1 (((l.map f).drop 0).take (n - 0)) = .lst 1 ((l.take n).map f) := by
  rw [Nat.sub_zero, List.drop_zero, List.map_take]
theorem chkE_big {rs : List (List Rt)} (h : 5 < rs.length) : chkE rs = 4 := by unfold chkE; rw [if_pos h]
theorem chks_chk {rs xs : List (List Rt)} (h : chkE rs ≠ 0) : chksE rs xs = chkE rs := by unfold chksE; rw [if_pos h]
theorem chks_at {rs xs : List (List Rt)} {i : Nat} {a : List Rt} (h : chkE rs = 0) (ha : xs[i]? = some a) (hb : ∀ x ∈ xs.take i, numE rs.length x = 0) (hn : numE rs.length a ≠ 0) : chksE rs xs = numE rs.length a := by
  unfold chksE
  rw [if_neg (by rw [h]; simp)]
  have e : xs = xs.take i ++ xs.drop i := (List.take_append_drop i xs).symm
  have hi := (List.getElem?_eq_some_iff.1 ha).1
  rw [e, List.map_append, firstE_app _ _ (firstE_of (fun e he => by obtain ⟨x, hx, rfl⟩ := List.mem_map.1 he; exact hb x hx)), List.drop_eq_getElem_cons hi]
  have ha' : xs[i] = a := by rw [List.getElem?_eq_getElem hi] at ha; exact Option.some.inj ha
  rw [ha']
  show (if _ then _ else _) = _
  rw [if_pos hn]
theorem nl_minus {n : Nat} {a : List Rat} (h : Nl n a) : Nl n (minusL a) := by
  rcases h with rfl | ⟨j, hj, h⟩
  · exact .inl rfl
  · exact .inr ⟨j, hj, by rw [len_minus, h]⟩
theorem nl_plus {n : Nat} {a b : List Rat} (h : Nl n a) (h' : Nl n b) : Nl n (plusL a b) := by
  rcases h with rfl | ⟨j, hj, h⟩ <;> rcases h' with rfl | ⟨i, hi, h'⟩
  · exact .inl (List.eq_nil_of_length_eq_zero (by rw [len_plus]; rfl))
  · exact .inr ⟨i, hi, by rw [len_plus, h']; simp⟩
  · exact .inr ⟨j, hj, by rw [len_plus, h]; simp⟩
  · refine .inr ⟨max j i, by omega, ?_⟩
    rw [len_plus, h, h']
    rcases Nat.le_total j i with g | g
    · rw [Nat.max_eq_right g, Nat.max_eq_right (pow_le2 g)]
    · rw [Nat.max_eq_left g, Nat.max_eq_left (pow_le2 g)]
theorem two_ok {a b : List Rt} {e f : Nat} (ha : NR a e) (hb : NR b f) : ∀ x ∈ [a, b], (∀ y ∈ x, y.ok) ∧ x.length ≤ 281474976710656 := by
  intro x hx
  simp only [List.mem_cons, List.not_mem_nil, or_false] at hx
  rcases hx with rfl | rfl
  · exact ⟨ha.ok, ha.len⟩
  · exact ⟨hb.ok, hb.len⟩
theorem towR_in {rs : List (List Rt)} (h : towR rs = towA (llq rs)) : AV.lst 1 (rs.map nR) = .lst 1 ((llq rs).map nA) := by
  unfold towR towA at h
  injection h with h
  injection h
theorem ofsum {x : Rt} : x.q + (rt 0).q = x.q := by rw [rt_q, Rat.add_zero]
end Go.Lw
namespace Go.Lw
def rT (ts : List (List Rat)) : Nat → List Rat → List Rat → List Rat
  | k, a, b =>
    if (shortL 5 a).length = 0 ∨ (shortL 5 b).length = 0 then []
    else if max (shortL 5 a).length (shortL 5 b).length = 1 then [(shortL 5 a).getD 0 0 * (shortL 5 b).getD 0 0]
    else match k with
      | 0 => []
      | k + 1 =>
        let n := max (shortL 5 a).length (shortL 5 b).length
        let X := wideL (shortL 5 a) n
        let Y := wideL (shortL 5 b) n
        joinL (plusL (rT ts k (X.take (n / 2)) (Y.take (n / 2))) (rT ts k (rT ts k (X.drop (n / 2)) (Y.drop (n / 2))) (ts.getD (n.log2 - 1) [])))
          (plusL (rT ts k (X.take (n / 2)) (Y.drop (n / 2))) (rT ts k (X.drop (n / 2)) (Y.take (n / 2)))) (n / 2)
theorem rT_zero {ts : List (List Rat)} {k : Nat} {a b : List Rat} (h : (shortL 5 a).length = 0 ∨ (shortL 5 b).length = 0) : rT ts k a b = [] := by
  unfold rT; rw [if_pos h]
theorem rT_one {ts : List (List Rat)} {k : Nat} {a b : List Rat} (h : ¬ ((shortL 5 a).length = 0 ∨ (shortL 5 b).length = 0)) (h1 : max (shortL 5 a).length (shortL 5 b).length = 1) :
    rT ts k a b = [(shortL 5 a).getD 0 0 * (shortL 5 b).getD 0 0] := by
  unfold rT; rw [if_neg h, if_pos h1]
theorem rT_step {ts : List (List Rat)} {k n i : Nat} {a b : List Rat} (hn : n = 2 ^ i) (h : ¬ ((shortL 5 a).length = 0 ∨ (shortL 5 b).length = 0)) (h1 : max (shortL 5 a).length (shortL 5 b).length = 2 ^ (i + 1)) :
    rT ts (k + 1) a b = joinL (plusL (rT ts k ((wideL (shortL 5 a) (2 ^ (i + 1))).take n) ((wideL (shortL 5 b) (2 ^ (i + 1))).take n))
        (rT ts k (rT ts k ((wideL (shortL 5 a) (2 ^ (i + 1))).drop n) ((wideL (shortL 5 b) (2 ^ (i + 1))).drop n)) (ts.getD i [])))
      (plusL (rT ts k ((wideL (shortL 5 a) (2 ^ (i + 1))).take n) ((wideL (shortL 5 b) (2 ^ (i + 1))).drop n)) (rT ts k ((wideL (shortL 5 a) (2 ^ (i + 1))).drop n) ((wideL (shortL 5 b) (2 ^ (i + 1))).take n))) n := by
  have h2 := Nat.two_pow_pos i
  conv => lhs; unfold rT
  rw [if_neg h, if_neg (by rw [h1, Nat.pow_succ]; omega)]
  simp only [h1, half_pow, log_pow]
  rw [← hn]
/-- What a product must be at a level. -/
structure PrOk (ts : List (List Rat)) (D N j : Nat) (a b c : List Rat) : Prop where
  nl : Nl j c
  eq : dec j c = T.mul (rtsOf ts) j (dec j a) (dec j b)
  cd : ∀ Da Na Db Nb : Nat, Cd Da Na a → Cd Db Nb b → Cd (Da * Db * rR D j) (Na * Nb * rM D N j) c
theorem PrOk.up {ts : List (List Rat)} {D N j : Nat} {a b c : List Rat} (hD : 0 < D) (ha : a.length ≤ 2 ^ j) (hb : b.length ≤ 2 ^ j) (h : PrOk ts D N j a b c) : PrOk ts D N (j + 1) a b c := by
  refine ⟨h.nl.mono (by omega), ?_, fun Da Na Db Nb ca cb => ?_⟩
  · rw [dec_up ha, dec_up hb, dec_up h.nl.le, T.mul_low, h.eq]
  · have h1 := (h.cd _ _ _ _ ca cb).scale (Nat.mul_pos (rR_pos hD j) hD)
    have e1 : Da * Db * rR D j * (rR D j * D) = Da * Db * rR D (j + 1) := by simp only [rR]; grind
    rw [e1] at h1
    refine h1.mono ?_
    have h2 := Nat.mul_le_mul_left (rM D N j) (Nat.mul_le_mul (rR_le D N j) (Nat.le_add_right D N))
    have h3 : rM D N j * (rR D j * D) ≤ rM D N (j + 1) := by simp only [rM, Nat.mul_assoc] at *; omega
    rw [Nat.mul_assoc (Na * Nb)]
    exact Nat.mul_le_mul_left _ h3
theorem PrOk.ups {ts : List (List Rat)} {D N i j : Nat} {a b c : List Rat} (hD : 0 < D) (ha : a.length ≤ 2 ^ i) (hb : b.length ≤ 2 ^ i) (h : PrOk ts D N i a b c) (hij : i ≤ j) : PrOk ts D N j a b c := by
  induction j with
  | zero => have : i = 0 := by omega
            subst this; exact h
  | succ j ih =>
    by_cases h' : i = j + 1
    · subst h'; exact h
    · exact (ih (by omega)).up hD (Nat.le_trans ha (pow_le2 (by omega))) (Nat.le_trans hb (pow_le2 (by omega)))
/-- Another pair of lists with the same numbers. -/
theorem PrOk.of {ts : List (List Rat)} {D N j : Nat} {a b a' b' c : List Rat} (h : PrOk ts D N j a b c) (ea : dec j a = dec j a') (eb : dec j b = dec j b')
    (ca : ∀ D N, Cd D N a' → Cd D N a) (cb : ∀ D N, Cd D N b' → Cd D N b) : PrOk ts D N j a' b' c :=
  ⟨h.nl, by rw [h.eq, ea, eb], fun Da Na Db Nb h1 h2 => h.cd _ _ _ _ (ca _ _ h1) (cb _ _ h2)⟩
theorem PrOk.full {ts : List (List Rat)} {D N j : Nat} {a b c1 c2 c3 c4 c5 : List Rat} (hD : 0 < D) (hr : Cd D N (ts.getD j [])) (ha : a.length = 2 ^ (j + 1)) (hb : b.length = 2 ^ (j + 1))
    (h1 : PrOk ts D N j (a.take (2 ^ j)) (b.take (2 ^ j)) c1) (h2 : PrOk ts D N j (a.drop (2 ^ j)) (b.drop (2 ^ j)) c2) (h3 : PrOk ts D N j c2 (ts.getD j []) c3)
    (h4 : PrOk ts D N j (a.take (2 ^ j)) (b.drop (2 ^ j)) c4) (h5 : PrOk ts D N j (a.drop (2 ^ j)) (b.take (2 ^ j)) c5) : PrOk ts D N (j + 1) a b (joinL (plusL c1 c3) (plusL c4 c5) (2 ^ j)) := by
  have l1 := h1.nl.le
  have l3 := h3.nl.le
  have l4 := h4.nl.le
  have l5 := h5.nl.le
  refine ⟨.inr ⟨j + 1, Nat.le_refl _, by rw [len_join (by rw [len_plus]; omega) (by rw [len_plus]; omega), Nat.pow_succ]; omega⟩, ?_, fun Da Na Db Nb ca cb => ?_⟩
  · rw [dec_join (by rw [len_plus]; omega), dec_plus, dec_plus, h1.eq, h3.eq, h4.eq, h5.eq, h2.eq]
    rfl
  · have ca1 : Cd Da Na (a.take (2 ^ j)) := ca.sub (fun q hq => List.mem_of_mem_take hq)
    have ca2 : Cd Da Na (a.drop (2 ^ j)) := ca.sub (fun q hq => List.mem_of_mem_drop hq)
    have cb1 : Cd Db Nb (b.take (2 ^ j)) := cb.sub (fun q hq => List.mem_of_mem_take hq)
    have cb2 : Cd Db Nb (b.drop (2 ^ j)) := cb.sub (fun q hq => List.mem_of_mem_drop hq)
    have k2 := h2.cd _ _ _ _ ca2 cb2
    have k3 := h3.cd _ _ _ _ k2 hr
    have k1 := (h1.cd _ _ _ _ ca1 cb1).scale (Nat.mul_pos (rR_pos hD j) hD)
    have k4 := (h4.cd _ _ _ _ ca1 cb2).scale (Nat.mul_pos (rR_pos hD j) hD)
    have k5 := (h5.cd _ _ _ _ ca2 cb1).scale (Nat.mul_pos (rR_pos hD j) hD)
    have e1 : Da * Db * rR D j * (rR D j * D) = Da * Db * rR D (j + 1) := by simp only [rR]; grind
    have e3 : Da * Db * rR D j * D * rR D j = Da * Db * rR D (j + 1) := by simp only [rR]; grind
    rw [e1] at k1 k4 k5
    rw [e3] at k3
    have b1 : rM D N j * (rR D j * D) ≤ rM D N j * rM D N j * D := by rw [Nat.mul_assoc]; exact Nat.mul_le_mul_left _ (Nat.mul_le_mul_right _ (rR_le D N j))
    have b2 : ∀ x, Na * Nb * rM D N j * (rR D j * D) + Na * Nb * x ≤ Na * Nb * (rM D N j * rM D N j * D + x) := by
      intro x
      rw [Nat.mul_add, Nat.mul_assoc (Na * Nb)]
      exact Nat.add_le_add_right (Nat.mul_le_mul_left _ b1) _
    refine Cd.join (Cd.mono (k1.plus k3) ?_) (Cd.mono (k4.plus k5) ?_)
    · have e4 : Na * Nb * rM D N j * N * rM D N j = Na * Nb * (rM D N j * rM D N j * N) := by grind
      rw [e4]
      refine Nat.le_trans (b2 _) (Nat.mul_le_mul_left _ ?_)
      simp only [rM]; rw [← Nat.mul_add]; omega
    · have e4 : Na * Nb * rM D N j * (rR D j * D) ≤ Na * Nb * (rM D N j * rM D N j * D) := by rw [Nat.mul_assoc (Na * Nb)]; exact Nat.mul_le_mul_left _ b1
      refine Nat.le_trans (Nat.add_le_add e4 e4) ?_
      rw [← Nat.mul_add]
      refine Nat.mul_le_mul_left _ ?_
      simp only [rM]
      have := Nat.mul_le_mul_left (rM D N j * rM D N j) (Nat.le_add_right D N)
      omega
theorem Cd.short {D N k : Nat} {a : List Rat} (h : Cd D N a) : Cd D N (shortL k a) := h.sub (fun q hq => mem_shortL k hq)
theorem short_nl {j : Nat} {a : List Rat} (h : Nl j a) (hj : j ≤ 5) : Nl j (shortL 5 a) ∧ dec j (shortL 5 a) = dec j a := by
  rw [shortL_sh h hj]; exact ⟨sh_nl j _, dec_sh j _⟩
theorem max_nl {j : Nat} {x y : List Rat} (hx : Nl j x) (hy : Nl j y) (h : ¬ (x.length = 0 ∨ y.length = 0)) : max x.length y.length = 1 ∨ ∃ i, i + 1 ≤ j ∧ max x.length y.length = 2 ^ (i + 1) := by
  rcases nl_cases hx with h1 | h1 | ⟨i1, hi1, h1⟩
  · exact absurd (.inl h1) h
  · rcases nl_cases hy with h2 | h2 | ⟨i2, hi2, h2⟩
    · exact absurd (.inr h2) h
    · exact .inl (by omega)
    · exact .inr ⟨i2, hi2, by have := Nat.two_pow_pos (i2 + 1); omega⟩
  · rcases nl_cases hy with h2 | h2 | ⟨i2, hi2, h2⟩
    · exact absurd (.inr h2) h
    · exact .inr ⟨i1, hi1, by have := Nat.two_pow_pos (i1 + 1); omega⟩
    · rcases Nat.le_total i1 i2 with g | g
      · exact .inr ⟨i2, hi2, by have := pow_le2 (show i1 + 1 ≤ i2 + 1 by omega); omega⟩
      · exact .inr ⟨i1, hi1, by have := pow_le2 (show i2 + 1 ≤ i1 + 1 by omega); omega⟩
theorem rT_ok (ts : List (List Rat)) (m D N : Nat) (hm : m ≤ 5) (hts : ∀ j, j < m → Nl j (ts.getD j []) ∧ Cd D N (ts.getD j [])) (hD : 0 < D) :
    ∀ (k j : Nat) (a b : List Rat), j ≤ m → j ≤ k → Nl j a → Nl j b → PrOk ts D N j a b (rT ts k a b) := by
  intro k
  induction k using Nat.strongRecOn with
  | _ k ih =>
    intro j a b hj hjk ha hb
    obtain ⟨nx, dx⟩ := short_nl ha (by omega)
    obtain ⟨ny, dy⟩ := short_nl hb (by omega)
    by_cases h0 : (shortL 5 a).length = 0 ∨ (shortL 5 b).length = 0
    · rw [rT_zero h0]
      refine ⟨.inl rfl, ?_, fun Da Na Db Nb ca cb => Cd.nil (Nat.mul_pos (Nat.mul_pos ca.1 cb.1) (rR_pos hD j))⟩
      rw [dec_nil]
      rcases h0 with h | h
      · rw [← dx, List.length_eq_zero_iff.1 h, dec_nil, T.zero_mul]
      · rw [← dy, List.length_eq_zero_iff.1 h, dec_nil, T.mul_zero]
    rcases max_nl nx ny h0 with h1 | ⟨i, hi, h1⟩
    · rw [rT_one h0 h1]
      obtain ⟨p, hp⟩ : ∃ p, shortL 5 a = [p] := List.length_eq_one_iff.1 (by omega)
      obtain ⟨q, hq⟩ : ∃ q, shortL 5 b = [q] := List.length_eq_one_iff.1 (by omega)
      have base : PrOk ts D N 0 [p] [q] [p * q] := by
        refine ⟨.inr ⟨0, Nat.zero_le _, rfl⟩, rfl, fun Da Na Db Nb ca cb => ?_⟩
        have h1 := (ca.mul1 cb).scale (rR_pos hD 0)
        exact h1.mono (Nat.mul_le_mul_left _ (rR_le D N 0))
      have h2 := base.ups hD (by simp) (by simp) (Nat.zero_le j)
      rw [hp, hq]
      refine h2.of (by rw [← hp]; exact dx) (by rw [← hq]; exact dy) (fun D N h => ?_) (fun D N h => ?_)
      · rw [← hp]; exact h.short
      · rw [← hq]; exact h.short
    · obtain ⟨k', rfl⟩ : ∃ k', k = k' + 1 := ⟨k - 1, by omega⟩
      rw [rT_step rfl h0 h1]
      have lx : (wideL (shortL 5 a) (2 ^ (i + 1))).length = 2 ^ (i + 1) := len_wide (by omega)
      have ly : (wideL (shortL 5 b) (2 ^ (i + 1))).length = 2 ^ (i + 1) := len_wide (by omega)
      have n1 : Nl i ((wideL (shortL 5 a) (2 ^ (i + 1))).take (2 ^ i)) := .inr ⟨i, Nat.le_refl _, nl_take lx⟩
      have n2 : Nl i ((wideL (shortL 5 a) (2 ^ (i + 1))).drop (2 ^ i)) := .inr ⟨i, Nat.le_refl _, nl_drop lx⟩
      have n3 : Nl i ((wideL (shortL 5 b) (2 ^ (i + 1))).take (2 ^ i)) := .inr ⟨i, Nat.le_refl _, nl_take ly⟩
      have n4 : Nl i ((wideL (shortL 5 b) (2 ^ (i + 1))).drop (2 ^ i)) := .inr ⟨i, Nat.le_refl _, nl_drop ly⟩
      have g2 := ih k' (by omega) i _ _ (by omega) (by omega) n2 n4
      have hfull := PrOk.full hD (hts i (by omega)).2 lx ly (ih k' (by omega) i _ _ (by omega) (by omega) n1 n3) g2 (ih k' (by omega) i _ _ (by omega) (by omega) g2.nl (hts i (by omega)).1)
        (ih k' (by omega) i _ _ (by omega) (by omega) n1 n4) (ih k' (by omega) i _ _ (by omega) (by omega) n2 n3)
      have h2 := hfull.ups hD (by omega) (by omega) hi
      exact h2.of (by rw [dec_wide]; exact dx) (by rw [dec_wide]; exact dy) (fun D N h => h.short.wide) (fun D N h => h.short.wide)
theorem rT_spec {ts : List (List Rat)} {m r : Nat} (hm : m ≤ 5) (ht : TsOk ts m r) {k j e f : Nat} {a b : List Rat} (hj : j ≤ m) (hk : j ≤ k) (ha : Nl j a) (hb : Nl j b) (ca : Cb e a) (cb : Cb f b) :
    Nl j (rT ts k a b) ∧ dec j (rT ts k a b) = T.mul (rtsOf ts) j (dec j a) (dec j b) ∧ Cb (e + f + eB r j) (rT ts k a b) := by
  obtain ⟨D, N, h0, h1, h2, h3⟩ := ht.2.get
  obtain ⟨Da, Na, a1, a2, a3⟩ := ca
  obtain ⟨Db, Nb, b1, b2, b3⟩ := cb
  have h := rT_ok ts m D N hm (fun j hj => ⟨ht.1 j hj, h1 j⟩) h0 k j a b hj hk ha hb
  refine ⟨h.nl, h.eq, _, _, h.cd _ _ _ _ a1 b1, ?_, ?_⟩
  · rw [Nat.pow_add, Nat.pow_add]
    exact Nat.mul_le_mul (Nat.mul_le_mul a2 b2) (Nat.le_trans (rR_le D N j) (rM_le h2 h3 j))
  · rw [Nat.pow_add, Nat.pow_add]
    exact Nat.mul_le_mul (Nat.mul_le_mul a3 b3) (rM_le h2 h3 j)
def rnormL (ts : List (List Rat)) (i : Nat) (a : List Rat) : List Rat :=
  plusL (rT ts i (a.take (2 ^ i)) (a.take (2 ^ i))) (minusL (rT ts i (rT ts i (a.drop (2 ^ i)) (a.drop (2 ^ i))) (ts.getD i [])))
theorem rnormL_spec {ts : List (List Rat)} {m r : Nat} (hm : m ≤ 5) (ht : TsOk ts m r) {i e : Nat} {a : List Rat} (hi : i + 1 ≤ m) (ha : a.length = 2 ^ (i + 1)) (ca : Cb e a) :
    Nl i (rnormL ts i a) ∧ dec i (rnormL ts i a) = T.norm (rtsOf ts) i (dec (i + 1) a) ∧ Cb (4 * e + 3 * eB r i + r + 1) (rnormL ts i a) := by
  have n1 : Nl i (a.take (2 ^ i)) := .inr ⟨i, Nat.le_refl _, nl_take ha⟩
  have n2 : Nl i (a.drop (2 ^ i)) := .inr ⟨i, Nat.le_refl _, nl_drop ha⟩
  have s1 := rT_spec hm ht (k := i) (show i ≤ m by omega) (by omega) n1 n1 ca.take ca.take
  have s2 := rT_spec hm ht (k := i) (show i ≤ m by omega) (by omega) n2 n2 ca.drop ca.drop
  have s3 := rT_spec hm ht (k := i) (show i ≤ m by omega) (by omega) s2.1 (ht.1 i (by omega)) s2.2.2 (ht.2.cb i)
  refine ⟨nl_plus s1.1 (nl_minus s3.1), ?_, ?_⟩
  · unfold rnormL T.norm
    rw [dec_plus, dec_minus, s1.2.1, s3.2.1, s2.2.1]
    rfl
  · exact (s1.2.2.plus s3.2.2.minus).mono (by omega)
/-- The reference's way to a sign. -/
theorem sgn3_ref {sx sy sd sn : Int} (hd : sd = 0 ∨ sd = 1) : T.sgn3 sx sy sd sn = if sx = sy * sd ∨ sy * sd = 0 then sx else if sx = 0 then sy * sd else sx * sn := by
  unfold T.sgn3
  rcases hd with rfl | rfl
  · rw [if_pos rfl, if_pos (by simp)]
  · rw [if_neg (by decide), Int.mul_one]
def pwk (n : Nat) : Nat := if 0 ≤ lvl n ∧ lvl n ≤ 5 then (lvl n).toNat else 0
def pwb (n : Nat) : Bool := decide (0 ≤ lvl n ∧ lvl n ≤ 5)
theorem pw_of {k : Nat} (h : k ≤ 5) : pwk (2 ^ k) = k ∧ pwb (2 ^ k) = true := by
  unfold pwk pwb
  rw [lvl_pow, if_pos (by omega)]
  exact ⟨by omega, by rw [decide_eq_true_eq]; omega⟩
theorem pw_none {n : Nat} (h : ∀ k, k < 6 → n ≠ 2 ^ k) : pwk n = 0 ∧ pwb n = false := by
  have h1 : ¬ (0 ≤ lvl n ∧ lvl n ≤ 5) := by
    intro h1
    obtain ⟨j, e1, e2⟩ := lvl_nonneg h1.1
    exact h j (by omega) e1
  unfold pwk pwb
  rw [if_neg h1]
  exact ⟨rfl, decide_eq_false h1⟩
theorem numE_ref {m : Nat} (hm : m ≤ 5) (a : List Rt) : (a ≠ [] ∧ (lvl a.length < 0 ∨ (m : Int) < lvl a.length)) ↔ (a.length ≠ 0 ∧ (pwb a.length = false ∨ m < pwk a.length)) := by
  have h0 : a ≠ [] ↔ a.length ≠ 0 := by
    rw [ne_eq, ne_eq, List.length_eq_zero_iff]
  rw [h0]
  have h1 : (lvl a.length < 0 ∨ (m : Int) < lvl a.length) ↔ (pwb a.length = false ∨ m < pwk a.length) := by
    unfold pwb pwk
    rw [decide_eq_false_iff_not]
    generalize lvl a.length = z
    by_cases h : 0 ≤ z ∧ z ≤ 5
    · rw [if_pos h]
      constructor
      · rintro (h' | h')
        · omega
        · exact .inr (by omega)
      · rintro (h' | h')
        · exact absurd h h'
        · exact .inr (by omega)
    · rw [if_neg h]
      constructor
      · intro _; exact .inl h
      · intro _; omega
  rw [h1]
theorem num_yes {l m k : Nat} {b : Bool} (h : cond (icmp .neq (l : Int) 0) (cond (!b) true (icmp .gtr (k : Int) (m : Int))) false = true) : l ≠ 0 ∧ (b = false ∨ m < k) := by
  cases h1 : icmp .neq (l : Int) 0
  · rw [h1] at h; cases h
  · rw [h1] at h
    refine ⟨by simpa [icmp] using h1, ?_⟩
    cases b
    · exact .inl rfl
    · exact .inr (by simpa [icmp] using h)
theorem num_no {l m k : Nat} {b : Bool} (h : cond (icmp .neq (l : Int) 0) (cond (!b) true (icmp .gtr (k : Int) (m : Int))) false = false) : ¬ (l ≠ 0 ∧ (b = false ∨ m < k)) := by
  rintro ⟨h1, h2⟩
  have e1 : icmp .neq (l : Int) 0 = true := by simpa [icmp] using h1
  rw [e1] at h
  rcases h2 with rfl | h2
  · cases h
  · have e2 : icmp .gtr (k : Int) (m : Int) = true := by simpa [icmp] using h2
    rw [e2] at h
    cases b <;> cases h
theorem wide_app (a : List Rat) (i : Nat) (h : a.length ≤ i) :
    BlkSub (.row 3 ((wideL a i).map qA ++ [.agg [.v (.bool false), .v (.slice none 0 0), .v (.slice none 0 0)]])) (.row 3 ((wideL a (i + 1)).map qA)) := by
  have e : wideL a (i + 1) = wideL a i ++ [0] := by
    unfold wideL
    rw [show i + 1 - a.length = (i - a.length) + 1 by omega, List.replicate_succ', List.append_assoc]
  rw [e, List.map_append]
  refine .row (by simp) ?_
  intro j x y hx hy
  by_cases hj : j < ((wideL a i).map qA).length
  · rw [List.getElem?_append_left hj] at hx hy
    rw [hx] at hy; cases hy
    simp only [List.getElem?_map, Option.map_eq_some_iff] at hx
    obtain ⟨q, _, rfl⟩ := hx
    exact CellsSub.refl (qA_one q)
  · rw [List.getElem?_append_right (by omega)] at hx hy
    cases hk : j - ((wideL a i).map qA).length with
    | zero => rw [hk] at hx hy; cases hx; cases hy; exact qZ
    | succ n => rw [hk] at hx; simp at hx
theorem neq_gtr (n : Nat) : icmp .neq (n : Int) 0 = icmp .gtr (n : Int) 0 := by
  show (((n : Int) != 0) : Bool) = decide ((n : Int) > 0)
  cases n with
  | zero => rfl
  | succ n =>
    have h1 : ((((n + 1 : Nat) : Int) != 0) : Bool) = true := by rw [bne_iff_ne]; omega
    rw [h1]
    exact (decide_eq_true (by omega)).symm
theorem plain_no {q : Rat} (h : cond (cond (rt q).neg true (icmp .neq ((rt q).num.length : Int) 0)) true (icmp .neq ((rt q).den.length : Int) 0) = true) : q ≠ 0 := by
  rw [neq_gtr, neq_gtr] at h; exact empty_no h
theorem plain_yes {q : Rat} (h : cond (cond (rt q).neg true (icmp .neq ((rt q).num.length : Int) 0)) true (icmp .neq ((rt q).den.length : Int) 0) = false) : q = 0 := by
  rw [neq_gtr, neq_gtr] at h; exact empty_yes h
theorem neq_t {e : Nat} (h : icmp .neq (e : Int) 0 = true) : e ≠ 0 := by
  have : (e : Int) ≠ 0 := by simpa [icmp] using h
  omega
theorem neq_f {e : Nat} (h : icmp .neq (e : Int) 0 = false) : e = 0 := by
  have : (e : Int) = 0 := by simpa [icmp] using h
  omega
theorem root_in {rs : List (List Rt)} (hok : ∀ d ∈ rs, ∀ x ∈ d, x.ok) {k j : Nat} (hk : k ≤ rs.length) (h : ∀ j, j < k → RtOk rs j) (hj : j < k) : (rs.map nR)[j]? = some (nA (((llq rs).take k).getD j [])) := by
  have h1 := take_llq hok hk (fun j hj => (h j hj).2.1)
  have h2 : ((rs.take k).map nR)[j]? = (((llq rs).take k).map nA)[j]? := by rw [h1]
  simp only [List.getElem?_map, List.getElem?_take, if_pos hj] at h2 ⊢
  rw [h2]
  have hl : j < (llq rs).length := by rw [List.length_map]; omega
  simp only [List.getD_eq_getElem?_getD, List.getElem?_take, if_pos hj]
  rw [← List.getElem?_map, List.getElem?_eq_getElem hl]; rfl
end Go.Lw
namespace Go.Lw
structure Tn where
  t : Rt
  half : Bool
namespace Tn
def av (x : Tn) : AV := .agg [bl x.t.neg, ws x.t.num, ws x.t.den, bl x.half]
def err (x : Tn) : Nat := if x.t.valid = true ∧ (x.half = true → x.t.q = 0) then 0 else 2
end Tn
def cosQ (half : Bool) (t : Rat) : Rat := if half then -1 else (1 - t * t) / (1 + t * t)
def sinQ (half : Bool) (t : Rat) : Rat := if half then 0 else (t + t) / (1 + t * t)
theorem Tn.err_yes {x : Tn} (h : cond (!x.t.valid) true (cond x.half (icmp .neq (sgnQ x.t.q) 0) false) = true) : x.err = 2 := by
  unfold Tn.err
  rw [if_neg]
  rintro ⟨h1, h2⟩
  rw [h1] at h
  cases hh : x.half
  · rw [hh] at h; cases h
  · rw [hh, h2 hh] at h; cases h
theorem Tn.err_no {x : Tn} (h : cond (!x.t.valid) true (cond x.half (icmp .neq (sgnQ x.t.q) 0) false) = false) : x.err = 0 := by
  unfold Tn.err
  rw [if_pos]
  cases hv : x.t.valid
  · rw [hv] at h; cases h
  · rw [hv] at h
    refine ⟨rfl, fun hh => ?_⟩
    rw [hh] at h
    have : sgnQ x.t.q = 0 := by simpa [icmp] using h
    exact sgnQ_zero this
theorem Tn.ok_valid {x : Tn} (h : x.err = 0) : x.t.valid = true := by
  unfold Tn.err at h
  split at h
  · rename_i h1; exact h1.1
  · cases h
theorem div_zero (p : Rat) : p / 0 = 0 := by rw [Rat.div_def, Rat.inv_zero, Rat.mul_zero]
/-- A place: two fractions. -/
structure Plc where
  x : Rt
  y : Rt
def Plc.av (p : Plc) : AV := .agg [bl p.x.neg, ws p.x.num, ws p.x.den, bl p.y.neg, ws p.y.num, ws p.y.den]
structure Pse where
  turn : Tn
  at_ : Plc
def Pse.av (p : Pse) : AV := .agg [bl p.turn.t.neg, ws p.turn.t.num, ws p.turn.t.den, bl p.turn.half, bl p.at_.x.neg, ws p.at_.x.num, ws p.at_.x.den, bl p.at_.y.neg, ws p.at_.y.num, ws p.at_.y.den]
def Pse.ok (p : Pse) : Bool := decide (p.turn.err = 0) && p.at_.x.valid && p.at_.y.valid
theorem sgn_eq0 (q : Rat) : icmp .eql (sgnQ q) 0 = decide (q = 0) := by
  by_cases h : q = 0
  · subst h; rfl
  · rw [decide_eq_false h]
    have : sgnQ q ≠ 0 := fun h' => h (sgnQ_zero h')
    simpa [icmp] using this
theorem and_cond (a b : Bool) : cond a b false = (a && b) := by cases a <;> rfl
theorem Tn.err_dec (x : Tn) : cond x.t.valid (cond (!x.half) true (decide (x.t.q = 0))) false = decide (x.err = 0) := by
  unfold Tn.err
  cases x.t.valid <;> cases x.half <;> simp
end Go.Lw
namespace Go.Lw
theorem blk_nonames {x : Blk} (hx : x.nm = []) {k : Nat} (h : x.Names k) : False := by
  have := h.mem; rw [hx] at this; cases this
theorem heap_oneB {ext : Nat → Prop} {k d : Nat} {x : Blk} {m m2 : Nat → Option Nat} {w : World} (hx : x.nm = []) (h : m2 d = m k) (hr : HeapRel ext [(k, some x)] m w) : HeapRel ext [(d, some x)] m2 w := by
  refine ⟨?_, ?_, ?_⟩
  · intro k' z hz
    obtain ⟨rfl, h9⟩ := lk_one hz
    cases h9
    have h1 := hr.blk k _ (by rw [lk_cons, if_pos rfl])
    rw [im_one h (y := x) (x := x)]
    exact BlkRep.mono (w := w) (fun _ _ h => h) (fun _ _ h => h) (fun _ _ hn => (blk_nonames hx hn).elim) h (fun _ _ => rfl) h1
  · intro k1 k2 z z' b h1 h2 _ _
    rw [(lk_one h1).1, (lk_one h2).1]
  · intro k' z b hz hb
    obtain ⟨rfl, h9⟩ := lk_one hz
    cases h9
    exact hr.sep k _ b (by rw [lk_cons, if_pos rfl]) (h ▸ hb)
theorem Con.rekeyB {P : Program} {f : FuncId} {k off : Nat} {x x' : Blk} {xs : List AV} {r : AV} (d : Nat) (hx : x.nm = []) (hx' : x'.nm = []) (hxs : (xs.all fun x => x.nm.isEmpty) = true) (hr : r.nm = [])
    (h : Con P f (.ptr k off :: xs) [(k, some x)] r [(k, some x')]) : Con P f (.ptr d off :: xs) [(d, some x)] r [(d, some x')] := by
  refine ⟨h.ok, ?_⟩
  intro ext m w vs hext hheap hvs hrep
  have h1 := h.ret ext (fun _ => m d) w vs hext (heap_oneB (k := d) hx rfl hheap) (by simpa using hvs) (by
    intro j v y hv hy
    rw [im_one (d := k) (k := d) (y := x) (x := x) (m2 := fun _ => m d) (m := m) rfl]
    match j, hy with
    | 0, hy =>
      cases hy
      have h2 := hrep 0 v _ hv rfl
      cases h2 with
      | ptr hm => exact .ptr hm
    | j + 1, hy =>
      have h2 := hrep (j + 1) v y hv hy
      refine rep_names ?_ h2
      have := List.all_eq_true.1 hxs y (List.mem_of_getElem? hy)
      simpa using this)
  refine Calls.mono h1 ?_
  rintro e w' ⟨v, m', rfl, hf, hh, hn, hk, hrr⟩
  have ho : Own [(k, some x)] (fun _ => m d) = Own [(d, some x)] m := by
    funext b; apply propext; rw [own_one, own_one]
  refine ⟨v, fun _ => m' k, rfl, ho ▸ hf, heap_oneB (k := k) hx' rfl hh, ?_, ?_, ?_⟩
  · intro k' x b hx hb
    rw [← ho]
    exact hn k _ b (by rw [lk_cons, if_pos rfl]) hb
  · intro k' x y hx hy
    obtain ⟨rfl, _⟩ := lk_one hx
    exact hk k _ _ (by rw [lk_cons, if_pos rfl]) (by rw [lk_cons, if_pos rfl])
  · rw [im_one (d := d) (k := k) (y := x') (x := x') (m2 := fun _ => m' k) (m := m') rfl]
    exact rep_names hr hrr
end Go.Lw
namespace Go.Lw
/-- A number of level n of at most e bits. -/
structure Nm (n e : Nat) (l : List Rat) : Prop where
  five : n ≤ 5
  nl : Nl n l
  cb : Cb e l
theorem Nm.mono {n e f : Nat} {l : List Rat} (h : Nm n e l) (hf : e ≤ f) : Nm n f l := ⟨h.five, h.nl, h.cb.mono hf⟩
theorem Nm.rt {n e : Nat} {l : List Rat} (h : Nm n e l) (he : e ≤ 1000000000) : NR (l.map Go.Lw.rt) e := by
  refine ⟨?_, by have := h.nl.len5 h.five; rw [List.length_map]; omega, by rw [lq_rt]; exact h.cb⟩
  intro x hx
  obtain ⟨q, hq, rfl⟩ := List.mem_map.1 hx
  exact (h.cb.qs (by omega) hq).ok
theorem Nm.chk {n e : Nat} {l : List Rat} (h : Nm n e l) : numE n (l.map Go.Lw.rt) = 0 := numE_rt h.nl
theorem Nm.add {n e f : Nat} {a b : List Rat} (ha : Nm n e a) (hb : Nm n f b) : Nm n (e + f + 1) (sh n (T.add n (dec n a) (dec n b))) := by
  refine ⟨ha.five, sh_nl _ _, ?_⟩
  rw [← dec_plus]
  exact (ha.cb.plus hb.cb).sh (nl_plus ha.nl hb.nl)
theorem Nm.neg {n e : Nat} {a : List Rat} (ha : Nm n e a) : Nm n e (sh n (T.neg n (dec n a))) := by
  refine ⟨ha.five, sh_nl _ _, ?_⟩
  rw [← dec_minus]
  exact ha.cb.minus.sh (nl_minus ha.nl)
theorem Nm.sub {n e f : Nat} {a b : List Rat} (ha : Nm n e a) (hb : Nm n f b) : Nm n (e + f + 1) (sh n (T.add n (dec n a) (T.neg n (dec n b)))) := by
  refine ⟨ha.five, sh_nl _ _, ?_⟩
  rw [← dec_minus, ← dec_plus]
  exact (ha.cb.plus hb.cb.minus).sh (nl_plus ha.nl (nl_minus hb.nl))
/-- What a product may add. -/
abbrev kB (r : Nat) : Nat := 31 * (r + 2)
theorem Nm.mul {ts : List (List Rat)} {r n e f : Nat} (tw : Tw ts r) (hn : n = ts.length) {a b : List Rat} (ha : Nm n e a) (hb : Nm n f b) : Nm n (e + f + kB r) (sh n (T.mul (rtsOf ts) n (dec n a) (dec n b))) := by
  subst hn
  refine ⟨ha.five, sh_nl _ _, ?_⟩
  have h1 := pT_spec ts ts.length tw.ok.1 ts.length ts.length a b (Nat.le_refl _) (Nat.le_refl _) ha.nl hb.nl
  have h2 := Cb.mul tw.ok (k := ts.length) (Nat.le_refl ts.length) (Nat.le_refl _) ha.nl hb.nl ha.cb hb.cb
  rw [← h1.2]
  exact (h2.sh h1.1).mono (by have := eB_five r ha.five; unfold kB; omega)
theorem Nm.ofQ {n e : Nat} (hn : n ≤ 5) {q : Rat} (h : Cb e [q]) : Nm n e (sh 0 (q : Rat)) := by
  refine ⟨hn, (sh_nl 0 q).mono (Nat.zero_le _), ?_⟩
  have := h.sh (k := 0) (.inr ⟨0, Nat.le_refl _, rfl⟩)
  exact this
theorem Cb.one {e : Nat} {q : Rat} (h : Qb e q) : Cb e [q] := by
  refine ⟨q.den, q.num.natAbs, ⟨by have := q.den_nz; omega, ?_⟩, Nat.le_of_lt h.2, Nat.le_of_lt h.1⟩
  intro x hx
  rw [List.mem_singleton.1 hx]
  refine ⟨q.num, ?_, Nat.le_refl _⟩
  have hd : ((q.den : Int) : Rat) ≠ 0 := by
    intro h0
    have : (q.den : Int) = 0 := Rat.intCast_eq_zero_iff.1 h0
    have := q.den_nz; omega
  have hq : q = (q.num : Rat) / ((q.den : Int) : Rat) := by
    rw [← Rat.divInt_eq_div, Rat.num_divInt_den]
  have h1 : (q.num : Rat) / ((q.den : Int) : Rat) * ((q.den : Int) : Rat) = (q.num : Rat) := Rat.div_mul_cancel hd
  rw [← hq] at h1
  exact h1
theorem dec_sh0 (n : Nat) (q : Rat) : dec n (sh 0 (q : Rat)) = T.ofQ n q := by
  show dec n (if q = 0 then [] else [q]) = _
  split
  · rename_i h
    subst h
    rw [dec_nil]
    induction n with
    | zero => rfl
    | succ n ih => simp only [T.zero, T.ofQ, ih]
  · exact dec_one n q
/-- A point: two numbers. -/
structure Pt (n : Nat) where
  x : T n
  y : T n
def ptA (x y : List Rat) : AV := .agg [nA x, nA y]
/-- The box of a sum. -/
def sumB (ts : List (List Rat)) : Blk := .box [.lst 1 (ts.map nA), .v .nilIface]
theorem one_chk {ts : List (List Rat)} {r e : Nat} (tw : Tw ts r) {a : List Rat} (ha : Nm ts.length e a) : chksE (ts.map (List.map rt)) [a.map rt] = 0 := by
  refine chks_of tw.chk (fun x hx => ?_)
  rw [List.mem_singleton.1 hx, List.length_map]; exact ha.chk
theorem two_chk {ts : List (List Rat)} {r e f : Nat} (tw : Tw ts r) {a b : List Rat} (ha : Nm ts.length e a) (hb : Nm ts.length f b) : chksE (ts.map (List.map rt)) [a.map rt, b.map rt] = 0 := by
  refine chks_of tw.chk (fun x hx => ?_)
  rw [List.length_map]
  simp only [List.mem_cons, List.not_mem_nil, or_false] at hx
  rcases hx with rfl | rfl
  · exact ha.chk
  · exact hb.chk
def flat2 : List (List Rat × List Rat) → List (List Rat)
  | [] => []
  | p :: l => p.1 :: p.2 :: flat2 l
theorem flat2_app : ∀ (a b : List (List Rat × List Rat)), flat2 (a ++ b) = flat2 a ++ flat2 b
  | [], b => rfl
  | p :: a, b => by simp only [List.cons_append, flat2, flat2_app a b]
theorem len_flat2 : ∀ (a : List (List Rat × List Rat)), (flat2 a).length = 2 * a.length
  | [] => rfl
  | p :: a => by simp only [flat2, List.length_cons, len_flat2 a]; omega
theorem flat2_all {P : List Rat → Prop} : ∀ {ps : List (List Rat × List Rat)}, (∀ p ∈ ps, P p.1 ∧ P p.2) → ∀ l ∈ flat2 ps, P l
  | [], _, l, h => by cases h
  | p :: ps, hp, l, h => by
    simp only [flat2, List.mem_cons] at h
    rcases h with rfl | rfl | h
    · exact (hp p (by simp)).1
    · exact (hp p (by simp)).2
    · exact flat2_all (fun q hq => hp q (by simp [hq])) l h
theorem keep1 {s : AS} {k : Nat} {x : Blk} (h : lk s.hp k = some x) : ∀ k' z, lk [(k, some x)] k' = some z → lk s.hp k' = some z := by
  intro k' z hz
  obtain ⟨rfl, h9⟩ := lk_one hz
  cases h9; exact h
def dotT (ts : List (List Rat)) (a b c d : T ts.length) : T ts.length := T.add ts.length (T.mul (rtsOf ts) ts.length a c) (T.mul (rtsOf ts) ts.length b d)
def crossT (ts : List (List Rat)) (a b c d : T ts.length) : T ts.length := T.add ts.length (T.mul (rtsOf ts) ts.length a d) (T.neg ts.length (T.mul (rtsOf ts) ts.length b c))
theorem dot_ap {ts : List (List Rat)} {a b c d : T ts.length} : T.add ts.length (dec ts.length (sh ts.length (T.mul (rtsOf ts) ts.length a c))) (dec ts.length (sh ts.length (T.mul (rtsOf ts) ts.length b d))) = dotT ts a b c d := by
  rw [dec_sh, dec_sh]; rfl
theorem cross_ap {ts : List (List Rat)} {a b c d : T ts.length} : T.add ts.length (dec ts.length (sh ts.length (T.mul (rtsOf ts) ts.length a d))) (T.neg ts.length (dec ts.length (sh ts.length (T.mul (rtsOf ts) ts.length b c)))) = crossT ts a b c d := by
  rw [dec_sh, dec_sh]; rfl
abbrev subT (ts : List (List Rat)) (x y : T ts.length) : T ts.length := T.add ts.length x (T.neg ts.length y)
def orientT (ts : List (List Rat)) (a b c d p q : T ts.length) : T ts.length := crossT ts (subT ts c a) (subT ts d b) (subT ts p a) (subT ts q b)
theorem orient_ap {ts : List (List Rat)} {a b c d p q : T ts.length} :
    crossT ts (dec ts.length (sh ts.length (subT ts c a))) (dec ts.length (sh ts.length (subT ts d b))) (dec ts.length (sh ts.length (subT ts p a))) (dec ts.length (sh ts.length (subT ts q b))) = orientT ts a b c d p q := by
  rw [dec_sh, dec_sh, dec_sh, dec_sh]; rfl
theorem dot_nm {ts : List (List Rat)} {r e f : Nat} (tw : Tw ts r) {a b c d : List Rat} (ha : Nm ts.length e a) (hb : Nm ts.length e b) (hc : Nm ts.length f c) (hd : Nm ts.length f d) :
    Nm ts.length (2 * (e + f + kB r) + 1) (sh ts.length (dotT ts (dec ts.length a) (dec ts.length b) (dec ts.length c) (dec ts.length d))) := by
  have h := (ha.mul tw rfl hc).add (hb.mul tw rfl hd)
  rw [dot_ap] at h
  exact h.mono (by omega)
theorem cross_nm {ts : List (List Rat)} {r e f : Nat} (tw : Tw ts r) {a b c d : List Rat} (ha : Nm ts.length e a) (hb : Nm ts.length e b) (hc : Nm ts.length f c) (hd : Nm ts.length f d) :
    Nm ts.length (2 * (e + f + kB r) + 1) (sh ts.length (crossT ts (dec ts.length a) (dec ts.length b) (dec ts.length c) (dec ts.length d))) := by
  have h := (ha.mul tw rfl hd).sub (hb.mul tw rfl hc)
  rw [cross_ap] at h
  exact h.mono (by omega)
theorem orient_nm {ts : List (List Rat)} {r e : Nat} (tw : Tw ts r) {a b c d p q : List Rat} (ha : Nm ts.length e a) (hb : Nm ts.length e b) (hc : Nm ts.length e c) (hd : Nm ts.length e d) (hp : Nm ts.length e p) (hq : Nm ts.length e q) :
    Nm ts.length (8 * e + 5 + 2 * kB r) (sh ts.length (orientT ts (dec ts.length a) (dec ts.length b) (dec ts.length c) (dec ts.length d) (dec ts.length p) (dec ts.length q))) := by
  have h := cross_nm tw (hc.sub ha) (hd.sub hb) (hp.sub ha) (hq.sub hb)
  rw [orient_ap] at h
  exact h.mono (by omega)
theorem same_cond {x y : Int} : cond (cond (icmp .eql x 0) (icmp .eql y 0) false) true false = decide (x = 0 ∧ y = 0) := by
  by_cases hx : x = 0
  · subst hx
    by_cases hy : y = 0
    · subst hy; rfl
    · have : icmp .eql y 0 = false := by simpa [icmp] using hy
      rw [this]; simp [hy]
  · have : icmp .eql x 0 = false := by simpa [icmp] using hx
    rw [this]; simp [hx]
def turnX (ts : List (List Rat)) (cos sin x y : T ts.length) : T ts.length := crossT ts cos sin y x
def turnY (ts : List (List Rat)) (cos sin x y : T ts.length) : T ts.length := dotT ts sin cos x y
theorem turn_nmX {ts : List (List Rat)} {r e f : Nat} (tw : Tw ts r) {a b c d : List Rat} (ha : Nm ts.length e a) (hb : Nm ts.length e b) (hc : Nm ts.length f c) (hd : Nm ts.length f d) :
    Nm ts.length (2 * (e + f + kB r) + 1) (sh ts.length (turnX ts (dec ts.length a) (dec ts.length b) (dec ts.length c) (dec ts.length d))) := cross_nm tw ha hb hd hc
theorem turn_nmY {ts : List (List Rat)} {r e f : Nat} (tw : Tw ts r) {a b c d : List Rat} (ha : Nm ts.length e a) (hb : Nm ts.length e b) (hc : Nm ts.length f c) (hd : Nm ts.length f d) :
    Nm ts.length (2 * (e + f + kB r) + 1) (sh ts.length (turnY ts (dec ts.length a) (dec ts.length b) (dec ts.length c) (dec ts.length d))) := dot_nm tw hb ha hc hd
/-- Where a point of a placed body is. -/
def atX (ts : List (List Rat)) (cos sin X : T ts.length) (x y : Rat) : T ts.length := T.add ts.length (turnX ts cos sin (T.ofQ ts.length x) (T.ofQ ts.length y)) X
def atY (ts : List (List Rat)) (cos sin Y : T ts.length) (x y : Rat) : T ts.length := T.add ts.length (turnY ts cos sin (T.ofQ ts.length x) (T.ofQ ts.length y)) Y
theorem at_ap1 {ts : List (List Rat)} {cos sin X : T ts.length} {x y : Rat} : T.add ts.length (dec ts.length (sh ts.length (turnX ts cos sin (dec ts.length (sh 0 (x : Rat))) (dec ts.length (sh 0 (y : Rat)))))) X = atX ts cos sin X x y := by
  rw [dec_sh, dec_sh0, dec_sh0]; rfl
theorem at_ap2 {ts : List (List Rat)} {cos sin Y : T ts.length} {x y : Rat} : T.add ts.length (dec ts.length (sh ts.length (turnY ts cos sin (dec ts.length (sh 0 (x : Rat))) (dec ts.length (sh 0 (y : Rat)))))) Y = atY ts cos sin Y x y := by
  rw [dec_sh, dec_sh0, dec_sh0]; rfl
theorem Sub.fn0 (f : FuncId) : Sub (.v (.func (.func f) #[] #[])) (.fn f []) := fun g S m v h => by
  cases h
  exact .fn rfl (fun j u c hu hc => by simp at hc)
theorem at_size {e k : Nat} (h : 8 * e + 4 * k + 4 ≤ 1000000000) : 2 * (2 * (e + e + k) + 1) ≤ 1000000000 := by omega
theorem chks_one {rs : List (List Rt)} {a : List Rt} (h : chkE rs = 0) : chksE rs [a] = numE rs.length a := by
  unfold chksE
  rw [if_neg (by rw [h]; simp)]
  show (if _ then _ else 0) = _
  split
  · rfl
  · rename_i h1; exact (Decidable.not_not.1 h1).symm
/-- Two numbers have one value. -/
def eqT (ts : List (List Rat)) (x y : T ts.length) : Bool := decide (T.sgn (rtsOf ts) ts.length (subT ts x y) = 0)
theorem sgn_dec (z : Int) : cond true (icmp .eql z 0) false = decide (z = 0) := by
  by_cases h : z = 0
  · subst h; rfl
  · rw [decide_eq_false h]; simpa [icmp] using h
theorem int_qs {n : Int} (h : -9223372036854775808 ≤ n ∧ n ≤ 9223372036854775807) : Qs ((n : Rat)) := by
  refine ⟨2, by unfold lim; omega, ?_, ?_⟩
  · unfold Lz; simp only [Rat.num_intCast, Nat.reducePow]; omega
  · unfold Lz; simp only [Rat.den_intCast]; decide
theorem and_cond4 (a b c d : Bool) : cond (cond (cond a b false) c false) d false = (a && b && c && d) := by cases a <;> cases b <;> cases c <;> rfl
end Go.Lw
namespace Go.Lw
/-! ### Names -/
def byteAt (s : ByteArray) (i : Nat) : Nat := (s.data.getD i 0).toNat
def letterB (c : Nat) : Bool := decide (97 ≤ c ∧ c ≤ 122) || decide (65 ≤ c ∧ c ≤ 90)
def digitB (c : Nat) : Bool := decide (48 ≤ c ∧ c ≤ 57)
def partB (c : Nat) : Bool := letterB c || digitB c || decide (c = 95)
def partsFrom (s : ByteArray) : Nat → Nat → Bool
  | _, 0 => true
  | i, n + 1 => partB (byteAt s i) && partsFrom s (i + 1) n
def nameB (s : ByteArray) : Bool := decide (0 < s.size ∧ s.size ≤ 24) && letterB (byteAt s 0) && partsFrom s 0 s.size
/-- How far parts of a word go on from i, up to the end. -/
def wordN (s : ByteArray) : Nat → Nat → Nat
  | i, 0 => i
  | i, n + 1 => if partB (byteAt s i) then wordN s (i + 1) n else i
theorem wordN_le (s : ByteArray) : ∀ (n i : Nat), i ≤ wordN s i n ∧ wordN s i n ≤ i + n
  | 0, i => ⟨Nat.le_refl _, Nat.le_refl _⟩
  | n + 1, i => by
    simp only [wordN]
    split
    · have := wordN_le s n (i + 1); omega
    · omega
theorem wordN_full (s : ByteArray) : ∀ (n i : Nat), wordN s i n = i + n ↔ partsFrom s i n = true
  | 0, i => by simp [wordN, partsFrom]
  | n + 1, i => by
    simp only [wordN, partsFrom, Bool.and_eq_true]
    split
    · rename_i h
      rw [← wordN_full s n (i + 1), show i + (n + 1) = i + 1 + n by omega]
      simp [h]
    · rename_i h
      constructor
      · intro h'; omega
      · intro h'; exact absurd h'.1 h
theorem letter_part {c : Nat} (h : letterB c = true) : partB c = true := by unfold partB; rw [h]; rfl
/-- The length of the word at the beginning. -/
def wordL (s : ByteArray) : Nat := if 0 < s.size ∧ letterB (byteAt s 0) = true then wordN s 1 (s.size - 1) else 0
theorem name_word (s : ByteArray) : nameB s = decide (0 < wordL s ∧ wordL s = s.size ∧ wordL s ≤ 24) := by
  unfold nameB wordL
  rw [Bool.eq_iff_iff]
  simp only [Bool.and_eq_true, decide_eq_true_eq]
  by_cases h : 0 < s.size ∧ letterB (byteAt s 0) = true
  · rw [if_pos h]
    obtain ⟨h1, h2⟩ := h
    have h3 := wordN_full s (s.size - 1) 1
    have h4 : partsFrom s 0 s.size = partsFrom s 1 (s.size - 1) := by
      obtain ⟨n, hn⟩ : ∃ n, s.size = n + 1 := ⟨s.size - 1, by omega⟩
      rw [hn]
      simp only [partsFrom, letter_part h2, Bool.true_and, Nat.add_sub_cancel]
    have h5 := wordN_le s (s.size - 1) 1
    rw [h4, ← h3]
    constructor
    · rintro ⟨⟨h6, h7⟩, h8⟩; omega
    · rintro ⟨h6, h7, h8⟩; exact ⟨⟨by omega, h2⟩, by omega⟩
  · rw [if_neg h]
    constructor
    · rintro ⟨⟨h1, h2⟩, h3⟩; exact absurd ⟨h1.1, h2⟩ h
    · rintro ⟨h1, _⟩; omega
theorem name_ref (s : ByteArray) (h0 : 0 < s.size) (h24 : s.size ≤ 24) : nameB s = decide ((if letterB (byteAt s 0) then wordN s 0 s.size else 0) = s.size) := by
  unfold nameB
  rw [Bool.eq_iff_iff]
  simp only [Bool.and_eq_true, decide_eq_true_eq]
  have h3 := wordN_full s s.size 0
  rw [Nat.zero_add] at h3
  by_cases h : letterB (byteAt s 0) = true
  · rw [if_pos h, h3]
    exact ⟨fun h => h.2, fun h' => ⟨⟨⟨h0, h24⟩, h⟩, h'⟩⟩
  · rw [if_neg h]
    exact ⟨fun h' => absurd h'.1.2 h, fun h' => by omega⟩
def eqS (a b : ByteArray) : Bool := a.toList == b.toList
/-! ### Errors one after the other -/
def firstN (n : Nat) (err : Nat → Nat) : Nat := firstE ((List.range n).map err)
theorem firstN_at {n i : Nat} {err : Nat → Nat} (hi : i < n) (h : ∀ j, j < i → err j = 0) (he : err i ≠ 0) : firstN n err = err i := by
  unfold firstN
  have e : List.range n = List.range i ++ (i :: (List.range' (i + 1) (n - (i + 1)))) := by
    obtain ⟨d, rfl⟩ : ∃ d, n = i + (d + 1) := ⟨n - i - 1, by omega⟩
    rw [List.range_eq_range', List.range_eq_range', ← List.range'_append_1, Nat.zero_add, List.range'_succ, show i + (d + 1) - (i + 1) = d by omega]
  rw [e, List.map_append, firstE_app _ _ (firstE_of (fun x hx => by
    obtain ⟨j, hj, rfl⟩ := List.mem_map.1 hx
    exact h j (List.mem_range.1 hj)))]
  show (if err i ≠ 0 then err i else _) = _
  rw [if_pos he]
theorem firstN_all {n : Nat} {err : Nat → Nat} (h : ∀ j, j < n → err j = 0) : firstN n err = 0 :=
  firstE_of (fun x hx => by obtain ⟨j, hj, rfl⟩ := List.mem_map.1 hx; exact h j (List.mem_range.1 hj))
theorem firstN_zero {n : Nat} {err : Nat → Nat} (h : firstN n err = 0) : ∀ j, j < n → err j = 0 := fun j hj =>
  firstE_zero h _ (List.mem_map.2 ⟨j, List.mem_range.2 hj, rfl⟩)
/-! ### Linkages -/
structure Mk where
  name : ByteArray
  x : Rt
  y : Rt
instance : Inhabited Mk := ⟨⟨default, ⟨false, [], []⟩, ⟨false, [], []⟩⟩⟩
def Mk.av (m : Mk) : AV := .agg [.v (.string m.name), bl m.x.neg, ws m.x.num, ws m.x.den, bl m.y.neg, ws m.y.num, ws m.y.den]
structure Bd where
  name : ByteArray
  pts : List Mk
instance : Inhabited Bd := ⟨⟨default, []⟩⟩
def Bd.av (b : Bd) : AV := .agg [.v (.string b.name), .lst 7 (b.pts.map Mk.av)]
structure Jt where
  name : ByteArray
  kind : Int
  a : Int
  point : Int
  b : Int
  on : Int
  to : Int
instance : Inhabited Jt := ⟨⟨default, 0, 0, 0, 0, 0, 0⟩⟩
def Jt.av (j : Jt) : AV := .agg [.v (.string j.name), i64 j.kind, i64 j.a, i64 j.point, i64 j.b, i64 j.on, i64 j.to]
structure Dr where
  name : ByteArray
  body : Int
instance : Inhabited Dr := ⟨⟨default, 0⟩⟩
def Dr.av (d : Dr) : AV := .agg [.v (.string d.name), i64 d.body]
structure Li where
  name : ByteArray
  bodies : List Bd
  joints : List Jt
  drivers : List Dr
def Li.av (l : Li) : AV := .agg [.v (.string l.name), .lst 2 (l.bodies.map Bd.av), .lst 7 (l.joints.map Jt.av), .lst 2 (l.drivers.map Dr.av)]
/-- What is asked of a mark's fractions. -/
structure Mk.ok (m : Mk) : Prop where
  x : m.x.ok
  y : m.y.ok
  qx : Qb 1000 m.x.q
  qy : Qb 1000 m.y.q
structure Bd.ok (b : Bd) : Prop where
  pts : ∀ m ∈ b.pts, m.ok
  names : ∀ m ∈ b.pts, m.name.size ≤ 281474976710656
  ll : b.pts.length ≤ 281474976710656
  name : b.name.size ≤ 281474976710656
structure Li.ok (l : Li) : Prop where
  name : l.name.size ≤ 281474976710656
  bodies : ∀ b ∈ l.bodies, b.ok
  jnames : ∀ j ∈ l.joints, j.name.size ≤ 281474976710656
  dnames : ∀ d ∈ l.drivers, d.name.size ≤ 281474976710656
  lb : l.bodies.length ≤ 281474976710656
  lj : l.joints.length ≤ 281474976710656
  ld : l.drivers.length ≤ 281474976710656
def dupB (l : List ByteArray) (i : Nat) : Bool := (l.take i).any (fun n => eqS n (l.getD i default))
/-- The error of mark i. -/
def mkE (ps : List Mk) (i : Nat) : Nat :=
  if nameB (ps.getD i default).name = false then 5 else if dupB (ps.map Mk.name) i = true then 6
  else if (ps.getD i default).x.valid = true ∧ (ps.getD i default).y.valid = true then 0 else 3
def bdE (bs : List Bd) (i : Nat) : Nat :=
  if nameB (bs.getD i default).name = false then 5 else if dupB (bs.map Bd.name) i = true then 6
  else if 8 < (bs.getD i default).pts.length then 4 else firstN (bs.getD i default).pts.length (mkE (bs.getD i default).pts)
def inB (i : Int) (n : Nat) : Bool := decide (0 ≤ i ∧ i < n)
def ptsAt (l : Li) (i : Int) : List Mk := (l.bodies.getD i.toNat default).pts
def jt0 (l : Li) (j : Jt) : Nat :=
  if j.kind ≠ 0 ∧ j.kind ≠ 1 then 7
  else if inB j.a l.bodies.length = false ∨ inB j.b l.bodies.length = false then 9
  else if j.a = j.b then 13
  else if inB j.point (ptsAt l j.a).length = false ∨ inB j.on (ptsAt l j.b).length = false then 9
  else if j.kind = 0 then (if j.to ≠ 0 then 2 else 0)
  else if inB j.to (ptsAt l j.b).length = false then 9
  else if ((ptsAt l j.b).getD j.on.toNat default).x.q = ((ptsAt l j.b).getD j.to.toNat default).x.q ∧ ((ptsAt l j.b).getD j.on.toNat default).y.q = ((ptsAt l j.b).getD j.to.toNat default).y.q then 8
  else 0
def jtE (l : Li) (i : Nat) : Nat :=
  if nameB (l.joints.getD i default).name = false then 5 else if dupB (l.joints.map Jt.name) i = true then 6 else jt0 l (l.joints.getD i default)
def drE (l : Li) (i : Nat) : Nat :=
  if nameB (l.drivers.getD i default).name = false then 5 else if dupB (l.drivers.map Dr.name) i = true then 6
  else if inB (l.drivers.getD i default).body l.bodies.length = false then 9
  else if (l.drivers.getD i default).body = 0 then 7
  else if (l.drivers.take i).any (fun d => decide (d.body = (l.drivers.getD i default).body)) = true then 6 else 0
def bdsE (l : Li) : Nat := firstN l.bodies.length (bdE l.bodies)
def jtsE (l : Li) : Nat := if 16 < l.joints.length then 4 else firstN l.joints.length (jtE l)
def drsE (l : Li) : Nat := if 2 < l.drivers.length then 4 else firstN l.drivers.length (drE l)
def liE (l : Li) : Nat :=
  if nameB l.name = false then 5 else if l.bodies.length = 0 then 10 else if 8 < l.bodies.length then 4
  else if bdsE l ≠ 0 then bdsE l else if jtsE l ≠ 0 then jtsE l else drsE l
theorem getD_of {α : Type} {l : List α} {i : Nat} {x d : α} (h : l[i]? = some x) : l.getD i d = x := by rw [List.getD_eq_getElem?_getD, h]; rfl
theorem dup_names {α : Type} (f : α → ByteArray) {l : List α} {i : Nat} {x : α} (h : l[i]? = some x) : dupB (l.map f) i = (l.take i).any (fun y => eqS (f y) (f x)) := by
  unfold dupB
  have h1 : (l.map f).getD i default = f x := getD_of (by rw [List.getElem?_map, h]; rfl)
  rw [h1, ← List.map_take, List.any_map]; rfl
theorem any_step {α : Type} {p : α → Bool} {l : List α} {k : Nat} {x : α} (h : l[k]? = some x) (hn : (l.take k).any p = false) (hp : p x = false) : (l.take (k + 1)).any p = false := by
  rw [take_succ_get h, List.any_append, hn]; simp [hp]
theorem any_hit {α : Type} {p : α → Bool} {l : List α} {k i : Nat} {x : α} (h : l[k]? = some x) (hk : k < i) (hp : p x = true) : (l.take i).any p = true := by
  rw [List.any_eq_true]
  exact ⟨x, List.mem_of_getElem? (by rw [List.getElem?_take, if_pos hk]; exact h), hp⟩
/-! ### Conditions of the machine -/
theorem str_empty (s : ByteArray) : (s.toList == ByteArray.toList ⟨#[]⟩) = decide (s.size = 0) := by
  have e : ByteArray.toList ⟨#[]⟩ = [] := Go.ByteArray.toList_eq _
  have h : s.toList.length = s.size := by rw [Go.ByteArray.toList_eq]; cases s; rfl
  rw [e, Bool.eq_iff_iff, beq_iff_eq, decide_eq_true_eq]
  constructor
  · intro h'; rw [h'] at h; simpa using h.symm
  · intro h'; exact List.eq_nil_of_length_eq_zero (by omega)
theorem empty_f {s : ByteArray} (h : (s.toList == ByteArray.toList ⟨#[]⟩) = false) : 0 < s.size := by
  rw [str_empty, decide_eq_false_iff_not] at h; omega
theorem lss_t {a b : Nat} (h : icmp .lss (a : Int) (b : Int) = true) : a < b := by
  have : (a : Int) < b := of_decide_eq_true h
  omega
theorem lss_f {a b : Nat} (h : icmp .lss (a : Int) (b : Int) = false) : b ≤ a := by
  have : ¬ (a : Int) < b := of_decide_eq_false h
  omega
theorem cond_lss {a b : Nat} {p : Bool} (h : cond (icmp .lss (a : Int) (b : Int)) p false = true) : a < b ∧ p = true := by
  cases h1 : icmp .lss (a : Int) (b : Int)
  · rw [h1] at h; cases h
  · rw [h1] at h; exact ⟨lss_t h1, h⟩
theorem cond_nlss {a b : Nat} {p : Bool} (h : cond (icmp .lss (a : Int) (b : Int)) p false = false) : a < b → p = false := by
  intro h0
  have h1 : icmp .lss (a : Int) (b : Int) = true := decide_eq_true (by omega : (a : Int) < b)
  rw [h1] at h; exact h
theorem word_none {s : ByteArray} (h : cond (s.toList == ByteArray.toList ⟨#[]⟩) true (!letterB (byteAt s 0)) = true) : wordL s = 0 := by
  unfold wordL
  rw [if_neg]
  rintro ⟨h1, h2⟩
  rw [str_empty, decide_eq_false (by omega), h2] at h
  cases h
theorem word_some {s : ByteArray} (h : cond (s.toList == ByteArray.toList ⟨#[]⟩) true (!letterB (byteAt s 0)) = false) : 0 < s.size ∧ letterB (byteAt s 0) = true := by
  cases h1 : (s.toList == ByteArray.toList ⟨#[]⟩)
  · rw [h1] at h
    exact ⟨empty_f h1, by simpa using h⟩
  · rw [h1] at h; cases h
theorem byte_out {s : ByteArray} {i : Nat} (h : s.size ≤ i) : byteAt s i = 0 := by
  unfold byteAt
  have : s.data.size ≤ i := h
  simp [Array.getD_eq_getD_getElem?, Array.getElem?_eq_none this]
theorem name_cond (s : ByteArray) : cond (cond (icmp .gtr (wordL s : Int) 0) (icmp .eql (wordL s : Int) (s.size : Int)) false) (icmp .leq (wordL s : Int) 24) false = nameB s := by
  rw [name_word, Bool.eq_iff_iff, decide_eq_true_eq]
  cases h1 : icmp .gtr (wordL s : Int) 0
  · have : ¬ (wordL s : Int) > 0 := of_decide_eq_false h1
    simp; omega
  · have h1 : (wordL s : Int) > 0 := of_decide_eq_true h1
    cases h2 : icmp .eql (wordL s : Int) (s.size : Int)
    · have : (wordL s : Int) ≠ s.size := by simpa [icmp] using h2
      simp; omega
    · have h2 : (wordL s : Int) = s.size := eq_of_beq h2
      have h3 : icmp .leq (wordL s : Int) 24 = true ↔ wordL s ≤ 24 := by
        show decide ((wordL s : Int) ≤ 24) = true ↔ _
        rw [decide_eq_true_eq]; omega
      simp only [cond_true, h3]; omega
theorem name_cond2 (s : ByteArray) : cond (cond (icmp .gtr (s.size : Int) 0) (icmp .leq (s.size : Int) 24) false) (icmp .eql (((if letterB (byteAt s 0) then wordN s 0 s.size else 0 : Nat)) : Int) (s.size : Int)) false = nameB s := by
  cases h1 : icmp .gtr (s.size : Int) 0
  · have h1 : ¬ (s.size : Int) > 0 := of_decide_eq_false h1
    unfold nameB
    rw [decide_eq_false (show ¬ (0 < s.size ∧ s.size ≤ 24) by omega)]; rfl
  · have h1 : (s.size : Int) > 0 := of_decide_eq_true h1
    cases h2 : icmp .leq (s.size : Int) 24
    · have h2 : ¬ (s.size : Int) ≤ 24 := of_decide_eq_false h2
      unfold nameB
      rw [decide_eq_false (show ¬ (0 < s.size ∧ s.size ≤ 24) by omega)]; rfl
    · have h2 : (s.size : Int) ≤ 24 := of_decide_eq_true h2
      rw [name_ref s (by omega) (by omega)]
      simp only [cond_true]
      rw [Bool.eq_iff_iff, decide_eq_true_eq]
      generalize (if letterB (byteAt s 0) = true then wordN s 0 s.size else 0) = m
      show (((m : Int) == (s.size : Int)) = true) ↔ _
      rw [beq_iff_eq]; omega
theorem cutT {α : Type} (sz : Nat) (f : α → AV) (l : List α) (n : Nat) : AV.lst sz (((l.map f).drop 0).take (n - 0)) = .lst sz ((l.take n).map f) := by
  rw [Nat.sub_zero, List.drop_zero, List.map_take]
theorem get_take {α : Type} {l : List α} {i k : Nat} {x : α} (h : (l.take i)[k]? = some x) : l[k]? = some x ∧ k < i := by
  rw [List.getElem?_take] at h
  split at h
  · rename_i hk; exact ⟨h, hk⟩
  · cases h
theorem inB_cond (i : Int) (n : Nat) : cond (icmp .geq i 0) (icmp .lss i (n : Int)) false = inB i n := by
  unfold inB
  rw [Bool.eq_iff_iff, decide_eq_true_eq]
  cases h : icmp .geq i 0
  · have : ¬ i ≥ 0 := of_decide_eq_false h
    simp; omega
  · have h : i ≥ 0 := of_decide_eq_true h
    show decide (i < (n : Int)) = true ↔ _
    rw [decide_eq_true_eq]; omega
theorem inB_t {i : Int} {n : Nat} (h : inB i n = true) : 0 ≤ i ∧ i < n := of_decide_eq_true h
theorem or_t {p q : Bool} (h : cond (!p) true (!q) = true) : p = false ∨ q = false := by cases p <;> cases q <;> simp_all
theorem or_f {p q : Bool} (h : cond (!p) true (!q) = false) : p = true ∧ q = true := by cases p <;> cases q <;> simp_all
theorem not_t {p : Bool} (h : (!p) = true) : p = false := by cases p <;> simp_all
theorem not_f {p : Bool} (h : (!p) = false) : p = true := by cases p <;> simp_all
theorem gtr_t {a b : Nat} (h : icmp .gtr (a : Int) (b : Int) = true) : b < a := by
  have : (a : Int) > b := of_decide_eq_true h
  omega
theorem gtr_f {a b : Nat} (h : icmp .gtr (a : Int) (b : Int) = false) : a ≤ b := by
  have : ¬ (a : Int) > b := of_decide_eq_false h
  omega
theorem lss_end {a b : Nat} (hle : a ≤ b) (h : icmp .lss (a : Int) (b : Int) = false) : a = b := by have := lss_f h; omega
theorem eql_t {x y : Int} (h : icmp .eql x y = true) : x = y := by simpa [icmp] using h
theorem eql_f {x y : Int} (h : icmp .eql x y = false) : x ≠ y := by simpa [icmp] using h
theorem neq_t' {x y : Int} (h : icmp .neq x y = true) : x ≠ y := by simpa [icmp] using h
theorem neq_f' {x y : Int} (h : icmp .neq x y = false) : x = y := by simpa [icmp] using h
theorem kind_t {k : Int} (h : cond (icmp .neq k 0) (icmp .neq k 1) false = true) : k ≠ 0 ∧ k ≠ 1 := by
  cases h1 : icmp .neq k 0
  · rw [h1] at h; cases h
  · rw [h1] at h; exact ⟨neq_t' h1, neq_t' h⟩
theorem kind_f {k : Int} (h : cond (icmp .neq k 0) (icmp .neq k 1) false = false) : ¬ (k ≠ 0 ∧ k ≠ 1) := by
  rintro ⟨h1, h2⟩
  have e1 : icmp .neq k 0 = true := by simpa [icmp] using h1
  have e2 : icmp .neq k 1 = true := by simpa [icmp] using h2
  rw [e1, e2] at h; cases h
theorem both_t {p q r s : Rat} (h : cond (icmp .eql (sgnQ (p - q)) 0) (icmp .eql (sgnQ (r - s)) 0) false = true) : p = q ∧ r = s := by
  cases h1 : icmp .eql (sgnQ (p - q)) 0
  · rw [h1] at h; cases h
  · rw [h1] at h
    have e1 := sgnQ_zero (eql_t h1)
    have e2 := sgnQ_zero (eql_t h)
    exact ⟨by grind, by grind⟩
theorem both_f {p q r s : Rat} (h : cond (icmp .eql (sgnQ (p - q)) 0) (icmp .eql (sgnQ (r - s)) 0) false = false) : ¬ (p = q ∧ r = s) := by
  rintro ⟨rfl, rfl⟩
  rw [Rat.sub_self, Rat.sub_self] at h; cases h
theorem bodyAt {l : Li} {i : Int} (h : inB i l.bodies.length = true) : ∃ b, l.bodies[i.toNat]? = some b ∧ ptsAt l i = b.pts ∧ b ∈ l.bodies ∧ 0 ≤ i := by
  have h1 := inB_t h
  obtain ⟨b, hb⟩ := getx (l := l.bodies) (i := i.toNat) (by omega)
  exact ⟨b, hb, by unfold ptsAt; rw [getD_of hb], List.mem_of_getElem? hb, h1.1⟩
theorem markAt {ps : List Mk} {i : Int} (h : inB i ps.length = true) : ∃ m, ps[i.toNat]? = some m ∧ ps.getD i.toNat default = m ∧ m ∈ ps ∧ 0 ≤ i := by
  have h1 := inB_t h
  obtain ⟨m, hm⟩ := getx (l := ps) (i := i.toNat) (by omega)
  exact ⟨m, hm, getD_of hm, List.mem_of_getElem? hm, h1.1⟩
theorem int_eqb {x y : Int} : icmp .eql x y = decide (x = y) := by
  show (x == y) = decide (x = y)
  rw [Bool.eq_iff_iff, beq_iff_eq, decide_eq_true_eq]
theorem eql0_t {n : Nat} (h : icmp .eql (n : Int) 0 = true) : n = 0 := by have := eql_t h; omega
theorem eql0_f {n : Nat} (h : icmp .eql (n : Int) 0 = false) : n ≠ 0 := by have := eql_f h; omega
theorem both_dec {p q r s : Rat} : cond (icmp .eql (sgnQ (p - q)) 0) (icmp .eql (sgnQ (r - s)) 0) false = decide (p = q ∧ r = s) := by
  cases h : cond (icmp .eql (sgnQ (p - q)) 0) (icmp .eql (sgnQ (r - s)) 0) false
  · exact (decide_eq_false (both_f h)).symm
  · exact (decide_eq_true (both_t h)).symm
end Go.Lw
namespace Go.Lw
/-! ### Common denominators of bounded fractions -/
theorem cd_one {e : Nat} {q : Rat} (h : Qb e q) : Cd q.den (2 ^ e) [q] := by
  refine ⟨Nat.pos_of_ne_zero q.den_nz, fun p hp => ?_⟩
  rw [List.mem_singleton.1 hp]
  refine ⟨q.num, ?_, Nat.le_of_lt h.1⟩
  have h0 : ((q.den : Int) : Rat) ≠ 0 := by
    intro h0
    have : (q.den : Int) = 0 := Rat.intCast_eq_zero_iff.1 h0
    have := q.den_nz; omega
  have h1 : q = (q.num : Rat) / ((q.den : Int) : Rat) := by
    rw [← Rat.divInt_eq_div]; exact (Rat.num_divInt_den q).symm
  have h2 := Rat.div_mul_cancel (a := (q.num : Rat)) h0
  rw [← h1] at h2
  exact h2
theorem cd_list {e : Nat} : ∀ {l : List Rat}, (∀ q ∈ l, Qb e q) → ∃ D N, Cd D N l ∧ D ≤ 2 ^ (e * l.length) ∧ N ≤ 2 ^ (e * l.length + e)
  | [], _ => ⟨1, 1, Cd.nil (by omega), by simp, Nat.one_le_two_pow⟩
  | q :: l, h => by
    obtain ⟨D, N, h1, h2, h3⟩ := cd_list (l := l) (fun p hp => h p (List.mem_cons_of_mem _ hp))
    have hq := h q (List.mem_cons_self ..)
    have e1 : e * (q :: l).length = e * l.length + e := by rw [List.length_cons, Nat.mul_add, Nat.mul_one]
    have k1 := (h1.scale (Nat.pos_of_ne_zero q.den_nz))
    have k2 := ((cd_one hq).scale h1.1)
    rw [Nat.mul_comm] at k2
    refine ⟨D * q.den, 2 ^ (e * l.length + e + e), ?_, ?_, ?_⟩
    · refine (Cd.app (a := [q]) (k2.mono ?_) (k1.mono ?_))
      · refine Nat.le_trans (Nat.mul_le_mul_left _ h2) ?_
        rw [← Nat.pow_add]; exact pow_le2 (by omega)
      · refine Nat.le_trans (Nat.mul_le_mul h3 (Nat.le_of_lt hq.2)) ?_
        rw [← Nat.pow_add]; exact Nat.le_refl _
    · rw [e1, Nat.pow_add]; exact Nat.mul_le_mul h2 (Nat.le_of_lt hq.2)
    · rw [e1]; exact Nat.le_refl _
/-- A number of at most m fractions of at most w words. -/
def briefX (w m : Nat) (x : List Rt) : Bool := decide (x.length ≤ m) && x.all (fun r => decide (r.num.length ≤ w ∧ r.den.length ≤ w))
def briefB (w m : Nat) (l : List (List Rt)) : Bool := l.all (briefX w m)
def lightB (rs xs : List (List Rt)) : Bool :=
  if rs.length ≤ 1 ∨ (5 < rs.length ∧ rs.length ≤ 8) then briefB 3 40 (rs ++ xs)
  else if rs.length = 2 then briefB 1 40 (rs ++ xs) else if rs.length = 3 then briefB 1 4 (rs ++ xs) else false
def wideB (rs xs : List (List Rt)) : Bool := if rs.length = 2 then briefB 2 40 (rs ++ xs) else lightB rs xs
/-- A fraction that came in. -/
def Rt.wok (r : Rt) : Prop := Ws r.num ∧ Ws r.den
theorem Rt.wok.ok {r : Rt} {k : Nat} (h : r.wok) (hn : r.num.length ≤ k) (hd : r.den.length ≤ k) (hk : k ≤ 100) : r.ok := ⟨h.1, h.2, by unfold lim; omega, by unfold lim; omega⟩
theorem Rt.ok.wok {r : Rt} (h : r.ok) : r.wok := ⟨h.1, h.2.1⟩
/-- Lists of fractions that came in. -/
def RsOk (l : List (List Rt)) : Prop := ∀ x ∈ l, (∀ r ∈ x, r.wok) ∧ x.length ≤ 281474976710656
theorem RsOk.app {a b : List (List Rt)} (ha : RsOk a) (hb : RsOk b) : RsOk (a ++ b) := fun x hx => by
  rcases List.mem_append.1 hx with h | h
  · exact ha x h
  · exact hb x h
theorem brief_x {w m : Nat} {x : List Rt} (h : briefX w m x = true) (hw : 1 ≤ w) (hw3 : w ≤ 3) (hok : ∀ r ∈ x, r.wok) : x.length ≤ m ∧ (∀ q ∈ lq x, Qb (32 * w) q) ∧ ∀ r ∈ x, r.ok := by
  unfold briefX at h
  simp only [Bool.and_eq_true, decide_eq_true_eq, List.all_eq_true] at h
  have ho : ∀ r ∈ x, r.ok := fun r hr => (hok r hr).ok (h.2 r hr).1 (h.2 r hr).2 (by omega)
  refine ⟨h.1, fun q hq => ?_, ho⟩
  obtain ⟨r, hr, rfl⟩ := List.mem_map.1 hq
  exact Rt.qb (ho r hr) hw (h.2 r hr).1 (h.2 r hr).2
theorem brief_nr {w m : Nat} {x : List Rt} (h : briefX w m x = true) (hw : 1 ≤ w) (hw3 : w ≤ 3) (hm : m ≤ 40) (hok : ∀ r ∈ x, r.wok) : NR x 4000 := by
  obtain ⟨h1, h2, ho⟩ := brief_x h hw hw3 hok
  obtain ⟨D, N, h3, h4, h5⟩ := cd_list h2
  have h6 : (lq x).length ≤ 40 := by rw [List.length_map]; omega
  have h7 : 32 * w * (lq x).length ≤ 96 * 40 := Nat.mul_le_mul (by omega) h6
  obtain ⟨k, hk⟩ : ∃ k, k = 4000 := ⟨_, rfl⟩
  rw [← hk]
  exact ⟨ho, by omega, D, N, h3, Nat.le_trans h4 (pow_le2 (by omega)), Nat.le_trans h5 (pow_le2 (by omega))⟩
theorem llq_flat : ∀ (rs : List (List Rt)) {m : Nat}, (∀ x ∈ rs, x.length ≤ m) → (llq rs).flatten.length ≤ m * rs.length
  | [], _, _ => by simp
  | x :: rs, m, h => by
    have h1 := llq_flat rs (fun y hy => h y (List.mem_cons_of_mem _ hy))
    have h2 := h x (List.mem_cons_self ..)
    have : (llq (x :: rs)).flatten.length = x.length + (llq rs).flatten.length := by simp [llq, lq]
    rw [this, List.length_cons, Nat.mul_add]; omega
theorem brief_tr {w m : Nat} {rs : List (List Rt)} (h : ∀ x ∈ rs, briefX w m x = true) (hw : 1 ≤ w) (hw3 : w ≤ 3) (hm : m ≤ 40) (hl : rs.length ≤ 8) (hok : RsOk rs) : TR rs 40000 := by
  have hq : ∀ q ∈ (llq rs).flatten, Qb (32 * w) q := by
    intro q hq
    obtain ⟨y, hy, hq⟩ := List.mem_flatten.1 hq
    obtain ⟨x, hx, rfl⟩ := List.mem_map.1 hy
    exact (brief_x (h x hx) hw hw3 (hok x hx).1).2.1 q hq
  obtain ⟨D, N, h3, h4, h5⟩ := cd_list hq
  have h6 : (llq rs).flatten.length ≤ 40 * 8 := by
    refine Nat.le_trans (llq_flat rs (m := m) (fun x hx => (brief_x (h x hx) hw hw3 (hok x hx).1).1)) ?_
    exact Nat.mul_le_mul hm hl
  have h7 : 32 * w * (llq rs).flatten.length ≤ 96 * (40 * 8) := Nat.mul_le_mul (by omega) h6
  obtain ⟨k, hk⟩ : ∃ k, k = 40000 := ⟨_, rfl⟩
  rw [← hk]
  refine ⟨fun d hd => (brief_x (h d hd) hw hw3 (hok d hd).1).2.2, fun d hd => (hok d hd).2, by omega, ⟨D, N, h3.1, fun d hd => h3.sub (fun q hq => List.mem_flatten.2 ⟨d, hd, hq⟩), Nat.le_trans h4 (pow_le2 (by omega)), Nat.le_trans h5 (pow_le2 (by omega))⟩, by omega⟩
/-- What a light tower and numbers are. -/
structure Lt (rs xs : List (List Rt)) : Prop where
  tr : TR rs 40000
  nr : ∀ x ∈ xs, NR x 4000
  ll : rs.length ≤ 8
theorem brief_lt {w m : Nat} {rs xs : List (List Rt)} (h : briefB w m (rs ++ xs) = true) (hw : 1 ≤ w) (hw3 : w ≤ 3) (hm : m ≤ 40) (hl : rs.length ≤ 8) (hr : RsOk rs) (hx : RsOk xs) : Lt rs xs := by
  unfold briefB at h
  rw [List.all_eq_true] at h
  exact ⟨brief_tr (fun x hx => h x (List.mem_append_left _ hx)) hw hw3 hm hl hr, fun x hx' => brief_nr (h x (List.mem_append_right _ hx')) hw hw3 hm (hx x hx').1, hl⟩
theorem light_lt {rs xs : List (List Rt)} (h : lightB rs xs = true) (hr : RsOk rs) (hx : RsOk xs) : Lt rs xs := by
  unfold lightB at h
  split at h
  · exact brief_lt h (by omega) (by omega) (by omega) (by omega) hr hx
  · split at h
    · exact brief_lt h (by omega) (by omega) (by omega) (by omega) hr hx
    · split at h
      · exact brief_lt h (by omega) (by omega) (by omega) (by omega) hr hx
      · cases h
theorem wide_lt {rs xs : List (List Rt)} (h : wideB rs xs = true) (hr : RsOk rs) (hx : RsOk xs) : Lt rs xs := by
  unfold wideB at h
  split at h
  · exact brief_lt h (by omega) (by omega) (by omega) (by omega) hr hx
  · exact light_lt h hr hx
/-! ### Assemblies -/
structure Pl where
  c : List Rt
  s : List Rt
  x : List Rt
  y : List Rt
instance : Inhabited Pl := ⟨⟨[], [], [], []⟩⟩
def Pl.av (p : Pl) : AV := .agg [nR p.c, nR p.s, nR p.x, nR p.y]
def Pl.l (p : Pl) : List (List Rt) := [p.c, p.s, p.x, p.y]
structure As where
  rs : List (List Rt)
  bs : List Pl
  ms : List Int
def As.av (a : As) : AV := .agg [.lst 1 (a.rs.map nR), .lst 4 (a.bs.map Pl.av), .lst 1 (a.ms.map i64)]
structure As.ok (a : As) : Prop where
  rs : RsOk a.rs
  rl : a.rs.length ≤ 281474976710656
  bs : ∀ b ∈ a.bs, RsOk b.l
  bl : a.bs.length ≤ 281474976710656
def asB (a : As) : Bool :=
  a.bs.all (fun b => wideB a.rs b.l) && (decide (a.bs.length ≤ 20) && wideB a.rs [] && decide (a.rs.length ≤ 2 ∨ 5 < a.rs.length))
/-- A light assembly. -/
structure AL (a : As) : Prop where
  tr : TR a.rs 40000
  nr : ∀ b ∈ a.bs, ∀ x ∈ b.l, NR x 4000
  ll : a.rs.length ≤ 8
  bl : a.bs.length ≤ 20
theorem rs_nil : RsOk [] := fun x hx => by cases hx
theorem as_al {a : As} (h : asB a = true) (hok : a.ok) : AL a := by
  unfold asB at h
  simp only [Bool.and_eq_true, decide_eq_true_eq, List.all_eq_true] at h
  obtain ⟨h1, ⟨h2, h3⟩, h4⟩ := h
  have h5 := wide_lt h3 hok.rs rs_nil
  exact ⟨h5.tr, fun b hb => (wide_lt (h1 b hb) hok.rs (hok.bs b hb)).nr, h5.ll, h2⟩
/-! ### Loops that ask all -/
theorem all_step {α : Type} {l : List α} {p : α → Bool} {i : Nat} {x : α} (h : (l.take i).all p = true) (hx : l[i]? = some x) (hp : p x = true) : (l.take (i + 1)).all p = true := by
  rw [take_succ_get hx, List.all_append, h]; simp [hp]
theorem all_miss {α : Type} {l : List α} {p : α → Bool} {i : Nat} {x : α} (hx : l[i]? = some x) (hp : p x = false) : l.all p = false := by
  refine Bool.eq_false_iff.2 (fun h => ?_)
  rw [List.all_eq_true] at h
  rw [h x (List.mem_of_getElem? hx)] at hp; cases hp
theorem all_end {α : Type} {l : List α} {p : α → Bool} {i : Nat} (hi : i = l.length) (h : (l.take i).all p = true) : l.all p = true := by
  rw [hi, List.take_length] at h; exact h
/-! ### Linkages and poses -/
/-- What a linkage that came in is. -/
structure Li.okw (l : Li) : Prop where
  name : l.name.size ≤ 281474976710656
  pts : ∀ b ∈ l.bodies, b.name.size ≤ 281474976710656 ∧ b.pts.length ≤ 281474976710656 ∧ ∀ m ∈ b.pts, m.name.size ≤ 281474976710656 ∧ m.x.wok ∧ m.y.wok
  jnames : ∀ j ∈ l.joints, j.name.size ≤ 281474976710656
  dnames : ∀ d ∈ l.drivers, d.name.size ≤ 281474976710656
  lb : l.bodies.length ≤ 281474976710656
  lj : l.joints.length ≤ 281474976710656
  ld : l.drivers.length ≤ 281474976710656
def mkB (m : Mk) : Bool := decide (m.x.num.length ≤ 4 ∧ m.x.den.length ≤ 4 ∧ m.y.num.length ≤ 4 ∧ m.y.den.length ≤ 4)
def bdB (b : Bd) : Bool := decide (b.pts.length ≤ 30) && b.pts.all mkB
def liB (l : Li) : Bool := l.bodies.all bdB && decide (l.bodies.length ≤ 30 ∧ l.joints.length ≤ 60 ∧ l.drivers.length ≤ 30)
theorem mk_ok {m : Mk} (h : mkB m = true) (hx' : m.x.wok) (hy' : m.y.wok) : m.ok := by
  unfold mkB at h
  rw [decide_eq_true_eq] at h
  have hx := hx'.ok h.1 h.2.1 (by omega)
  have hy := hy'.ok h.2.2.1 h.2.2.2 (by omega)
  exact ⟨hx, hy, (Rt.qb hx (k := 4) (by omega) h.1 h.2.1).mono (by omega), (Rt.qb hy (k := 4) (by omega) h.2.2.1 h.2.2.2).mono (by omega)⟩
theorem li_ok {l : Li} (h : liB l = true) (ho : l.okw) : l.ok := by
  unfold liB at h
  rw [Bool.and_eq_true, List.all_eq_true] at h
  refine ⟨ho.name, fun b hb => ?_, ho.jnames, ho.dnames, ho.lb, ho.lj, ho.ld⟩
  have h1 := h.1 b hb
  unfold bdB at h1
  rw [Bool.and_eq_true, List.all_eq_true] at h1
  obtain ⟨o1, o2, o3⟩ := ho.pts b hb
  exact ⟨fun m hm => mk_ok (h1.2 m hm) (o3 m hm).2.1 (o3 m hm).2.2, fun m hm => (o3 m hm).1, o2, o1⟩
/-- The fractions of a pose that came in. -/
structure Pse.rok (p : Pse) : Prop where
  t : p.turn.t.ok
  x : p.at_.x.ok
  y : p.at_.y.ok
/-- The words of a pose that came in. -/
structure Pse.wok (p : Pse) : Prop where
  t : p.turn.t.wok
  x : p.at_.x.wok
  y : p.at_.y.wok
theorem Pse.wok.rs {p : Pse} (h : p.wok) : RsOk [[p.turn.t, p.at_.x], [p.at_.y]] := by
  intro x hx
  simp only [List.mem_cons, List.not_mem_nil, or_false] at hx
  rcases hx with rfl | rfl
  · refine ⟨fun r hr => ?_, by show 2 ≤ _; omega⟩
    simp only [List.mem_cons, List.not_mem_nil, or_false] at hr
    rcases hr with rfl | rfl
    · exact h.t
    · exact h.x
  · refine ⟨fun r hr => ?_, by show 1 ≤ _; omega⟩
    simp only [List.mem_cons, List.not_mem_nil, or_false] at hr
    subst hr
    exact h.y
def psB (p : Pse) : Bool := lightB [] [[p.turn.t, p.at_.x], [p.at_.y]]
def drB (l : Li) (ps : List Pse) : Bool := ps.all psB && (decide (ps.length ≤ 20) && liB l)
def drawnA (l : Li) (ps : List Pse) : AV := .agg [.v (.string l.name), .lst 2 (l.bodies.map Bd.av), .lst 7 (l.joints.map Jt.av), .lst 2 (l.drivers.map Dr.av), .lst 10 (ps.map Pse.av)]
/-- A light pose. -/
structure Pse.lok (p : Pse) : Prop where
  ok : p.rok
  t : Qb 96 p.turn.t.q
  x : Qb 96 p.at_.x.q
  y : Qb 96 p.at_.y.q
theorem ps_lok {p : Pse} (h : psB p = true) (ho : p.wok) : p.lok := by
  unfold psB lightB at h
  rw [if_pos (.inl (Nat.zero_le _))] at h
  unfold briefB at h
  rw [List.nil_append, List.all_eq_true] at h
  obtain ⟨_, h1, o1⟩ := brief_x (h _ (List.mem_cons_self ..)) (by omega) (by omega) (ho.rs _ (List.mem_cons_self ..)).1
  obtain ⟨_, h2, o2⟩ := brief_x (h _ (List.mem_cons_of_mem _ (List.mem_cons_self ..))) (by omega) (by omega) (ho.rs _ (List.mem_cons_of_mem _ (List.mem_cons_self ..))).1
  exact ⟨⟨o1 _ (by simp), o1 _ (by simp), o2 _ (by simp)⟩, h1 _ (by simp [lq]), h1 _ (by simp [lq]), h2 _ (by simp [lq])⟩
/-! ### Conditions -/
theorem orGt_t {a b w : Nat} (h : cond (icmp .gtr (a : Int) (w : Int)) true (icmp .gtr (b : Int) (w : Int)) = true) : ¬ (a ≤ w ∧ b ≤ w) := by
  simp only [icmp] at h
  by_cases h1 : (w : Int) < a
  · omega
  · rw [decide_eq_false (by omega)] at h
    have : (w : Int) < b := of_decide_eq_true h
    omega
theorem orGt_f {a b w : Nat} (h : cond (icmp .gtr (a : Int) (w : Int)) true (icmp .gtr (b : Int) (w : Int)) = false) : a ≤ w ∧ b ≤ w := by
  simp only [icmp] at h
  by_cases h1 : (w : Int) < a
  · rw [decide_eq_true (by omega)] at h; cases h
  · rw [decide_eq_false (by omega)] at h
    have : ¬ (w : Int) < b := of_decide_eq_false h
    omega
theorem few_b {n : Nat} : cond (icmp .leq (n : Int) 1) true (cond (icmp .gtr (n : Int) 5) (icmp .leq (n : Int) 8) false) = decide (n ≤ 1 ∨ (5 < n ∧ n ≤ 8)) := by
  have e1 : icmp .leq (n : Int) 1 = decide (n ≤ 1) := decide_eq_decide.2 (by omega)
  have e2 : icmp .gtr (n : Int) 5 = decide (5 < n) := decide_eq_decide.2 (by omega)
  have e3 : icmp .leq (n : Int) 8 = decide (n ≤ 8) := decide_eq_decide.2 (by omega)
  rw [e1, e2, e3, Bool.eq_iff_iff, decide_eq_true_eq]
  by_cases h1 : n ≤ 1
  · rw [decide_eq_true h1]; exact ⟨fun _ => .inl h1, fun _ => rfl⟩
  · rw [decide_eq_false h1]
    by_cases h2 : 5 < n
    · rw [decide_eq_true h2]; exact ⟨fun h => .inr ⟨h2, of_decide_eq_true h⟩, fun h => decide_eq_true (by omega)⟩
    · rw [decide_eq_false h2]; exact ⟨fun h => (by cases h), fun h => (by omega)⟩
theorem few_t {n : Nat} (h : cond (icmp .leq (n : Int) 1) true (cond (icmp .gtr (n : Int) 5) (icmp .leq (n : Int) 8) false) = true) : n ≤ 1 ∨ (5 < n ∧ n ≤ 8) := by
  rw [few_b] at h; exact of_decide_eq_true h
theorem few_f {n : Nat} (h : cond (icmp .leq (n : Int) 1) true (cond (icmp .gtr (n : Int) 5) (icmp .leq (n : Int) 8) false) = false) : ¬ (n ≤ 1 ∨ (5 < n ∧ n ≤ 8)) := by
  rw [few_b] at h; exact of_decide_eq_false h
theorem leq_b {n k : Nat} : icmp .leq (n : Int) (k : Int) = decide (n ≤ k) := by simp only [icmp]; exact decide_eq_decide.2 (by omega)
theorem gtr_b {n k : Nat} : icmp .gtr (n : Int) (k : Int) = decide (k < n) := by simp only [icmp]; exact decide_eq_decide.2 (by omega)
theorem or_cond (a b : Bool) : cond a true b = (a || b) := by cases a <;> rfl
theorem liB_end {l : Li} (h : l.bodies.all bdB = true) :
    cond (cond (icmp .leq (l.bodies.length : Int) 30) (icmp .leq (l.joints.length : Int) 60) false) (icmp .leq (l.drivers.length : Int) 30) false = liB l := by
  unfold liB
  have e1 := leq_b (n := l.bodies.length) (k := 30)
  have e2 := leq_b (n := l.joints.length) (k := 60)
  have e3 := leq_b (n := l.drivers.length) (k := 30)
  rw [h, Bool.true_and, and_cond, and_cond]
  refine (congr (congrArg _ (congr (congrArg _ e1) e2)) e3).trans ?_
  rw [← Bool.decide_and, ← Bool.decide_and]
  exact decide_eq_decide.2 ⟨fun h => ⟨h.1.1, h.1.2, h.2⟩, fun h => ⟨⟨h.1, h.2.1⟩, h.2.2⟩⟩
theorem drB_end {l : Li} {ps : List Pse} (h : ps.all psB = true) : cond (icmp .leq (ps.length : Int) 20) (liB l) false = drB l ps := by
  unfold drB
  have e1 := leq_b (n := ps.length) (k := 20)
  rw [h, Bool.true_and, and_cond]
  exact congrArg (· && liB l) e1
theorem four_b {m : Mk} : cond (cond (cond (icmp .gtr (m.x.num.length : Int) 4) true (icmp .gtr (m.x.den.length : Int) 4)) true (icmp .gtr (m.y.num.length : Int) 4)) true (icmp .gtr (m.y.den.length : Int) 4) = !mkB m := by
  unfold mkB
  have e1 := gtr_b (n := m.x.num.length) (k := 4)
  have e2 := gtr_b (n := m.x.den.length) (k := 4)
  have e3 := gtr_b (n := m.y.num.length) (k := 4)
  have e4 := gtr_b (n := m.y.den.length) (k := 4)
  rw [or_cond, or_cond, or_cond]
  refine (congr (congrArg _ (congr (congrArg _ (congr (congrArg _ e1) e2)) e3)) e4).trans ?_
  rw [← Bool.decide_or, ← Bool.decide_or, ← Bool.decide_or, ← decide_not]
  exact decide_eq_decide.2 (by omega)
theorem four_t {m : Mk} (h : cond (cond (cond (icmp .gtr (m.x.num.length : Int) 4) true (icmp .gtr (m.x.den.length : Int) 4)) true (icmp .gtr (m.y.num.length : Int) 4)) true (icmp .gtr (m.y.den.length : Int) 4) = true) : mkB m = false := by
  rw [four_b] at h; exact not_t h
theorem four_f {m : Mk} (h : cond (cond (cond (icmp .gtr (m.x.num.length : Int) 4) true (icmp .gtr (m.x.den.length : Int) 4)) true (icmp .gtr (m.y.num.length : Int) 4)) true (icmp .gtr (m.y.den.length : Int) 4) = false) : mkB m = true := by
  rw [four_b] at h; exact not_f h
end Go.Lw
namespace Go.Lw
open Go.Proofs
section
variable {W : World} {H : Type} {enc : TypeId × Value → H}
theorem op_u32 : Opens Tryz.prog W enc 186 (fun n : Nat => u32 n) (fun n => n < 4294967296) :=
 (opens_int (k := .u32) Tryz.underlying186).map Int.toNat _ _ (fun n h => by
  have h1 : 0 ≤ n ∧ n ≤ 4294967295 := by simpa [Lit.wf, IntKind.min, IntKind.max, IntKind.signed, IntKind.bits] using h
  have h2 : ((n.toNat : Nat) : Int) = n := by omega
  exact ⟨by omega, by unfold u32; rw [h2]⟩)
theorem op_ws : Opens Tryz.prog W enc 66 ws (fun l => Ws l ∧ l.length ≤ 281474976710656) :=
 (opens_slice Tryz.underlying66 (n := 1) (by kernel_rfl) (by omega) (by kernel_rfl) op_u32 (fun _ => rfl)).map id _ _ (fun l h => ⟨⟨fun x hx => h.1 x hx, h.2⟩, rfl⟩)
theorem op_bool : Opens Tryz.prog W enc 4 bl (fun _ => True) := opens_bool Tryz.underlying4
theorem op_int : Opens Tryz.prog W enc 3 i64 (fun _ => True) := (opens_int (k := .i64) Tryz.underlying3).map id _ _ (fun n h => ⟨trivial, rfl⟩)
theorem op_str : Opens Tryz.prog W enc 9 (fun s : ByteArray => AV.v (.string s)) (fun s => s.size ≤ 281474976710656) := opens_string Tryz.underlying9
theorem op_rat : Opens Tryz.prog W enc 68 Rt.av Rt.wok :=
 (opens_struct (n := 3) Tryz.underlying68 (by kernel_rfl)
  (.cons rfl (n := 1) (by kernel_rfl) op_bool (fun _ => rfl) (.cons rfl (n := 1) (by kernel_rfl) op_ws (fun _ => rfl) (.cons rfl (n := 1) (by kernel_rfl) op_ws (fun _ => rfl) (.nil _)))) (fun _ => rfl)).map
  (fun z => ⟨z.1, z.2.1, z.2.2.1⟩) _ _ (fun z h => ⟨⟨h.2.1.1, h.2.2.1.1⟩, rfl⟩)
def NumOk (x : List Rt) : Prop := (∀ r ∈ x, r.wok) ∧ x.length ≤ 281474976710656
abbrev asG (a : As) : List AV := [.lst 1 (a.rs.map nR), .lst 4 (a.bs.map Pl.av), .lst 1 (a.ms.map i64)]
theorem op_turn : Opens Tryz.prog W enc 81 Tn.av (fun x => x.t.wok) :=
 (opens_struct (n := 4) Tryz.underlying81 (by kernel_rfl) (.cons rfl (n := 3) (by kernel_rfl) op_rat (fun _ => rfl) (.cons rfl (n := 1) (by kernel_rfl) op_bool (fun _ => rfl) (.nil _))) (fun _ => rfl)).map
  (fun z => ⟨z.1, z.2.1⟩) _ _ (fun z h => ⟨h.1, rfl⟩)
theorem op_place : Opens Tryz.prog W enc 83 Plc.av (fun x => x.x.wok ∧ x.y.wok) :=
 (opens_struct (n := 6) Tryz.underlying83 (by kernel_rfl) (.cons rfl (n := 3) (by kernel_rfl) op_rat (fun _ => rfl) (.cons rfl (n := 3) (by kernel_rfl) op_rat (fun _ => rfl) (.nil _))) (fun _ => rfl)).map
  (fun z => ⟨z.1, z.2.1⟩) _ _ (fun z h => ⟨⟨h.1, h.2.1⟩, rfl⟩)
theorem op_pose : Opens Tryz.prog W enc 85 Pse.av Pse.wok :=
 (opens_struct (n := 10) Tryz.underlying85 (by kernel_rfl) (.cons rfl (n := 4) (by kernel_rfl) op_turn (fun _ => rfl) (.cons rfl (n := 6) (by kernel_rfl) op_place (fun _ => rfl) (.nil _))) (fun _ => rfl)).map
  (fun z => ⟨z.1, z.2.1⟩) _ _ (fun z h => ⟨⟨h.1, h.2.1.1, h.2.1.2⟩, rfl⟩)
theorem op_poses : Opens Tryz.prog W enc 48 (fun l : List Pse => .lst 10 (l.map Pse.av)) (fun l => (∀ x ∈ l, x.wok) ∧ l.length ≤ 281474976710656) :=
 opens_slice Tryz.underlying48 (n := 10) (by kernel_rfl) (by omega) (by kernel_rfl) op_pose (fun _ => rfl)
theorem op_mark : Opens Tryz.prog W enc 91 Mk.av (fun m => m.name.size ≤ 281474976710656 ∧ m.x.wok ∧ m.y.wok) :=
 (opens_struct (n := 7) Tryz.underlying91 (by kernel_rfl)
  (.cons rfl (n := 1) (by kernel_rfl) op_str (fun _ => rfl) (.cons rfl (n := 3) (by kernel_rfl) op_rat (fun _ => rfl) (.cons rfl (n := 3) (by kernel_rfl) op_rat (fun _ => rfl) (.nil _)))) (fun _ => rfl)).map
  (fun z => ⟨z.1, z.2.1, z.2.2.1⟩) _ _ (fun z h => ⟨⟨h.1, h.2.1, h.2.2.1⟩, rfl⟩)
theorem op_body : Opens Tryz.prog W enc 89 Bd.av (fun b => b.name.size ≤ 281474976710656 ∧ b.pts.length ≤ 281474976710656 ∧ ∀ m ∈ b.pts, m.name.size ≤ 281474976710656 ∧ m.x.wok ∧ m.y.wok) :=
 (opens_struct (n := 2) Tryz.underlying89 (by kernel_rfl)
  (.cons rfl (n := 1) (by kernel_rfl) op_str (fun _ => rfl) (.cons rfl (n := 1) (by kernel_rfl) (opens_slice Tryz.underlying87 (n := 7) (by kernel_rfl) (by omega) (by kernel_rfl) op_mark (fun _ => rfl)) (fun _ => rfl) (.nil _))) (fun _ => rfl)).map
  (fun z => ⟨z.1, z.2.1⟩) _ _ (fun z h => ⟨⟨h.1, h.2.1.2, h.2.1.1⟩, rfl⟩)
theorem op_joint : Opens Tryz.prog W enc 76 Jt.av (fun j => j.name.size ≤ 281474976710656) :=
 (opens_struct (n := 7) Tryz.underlying76 (by kernel_rfl)
  (.cons rfl (n := 1) (by kernel_rfl) op_str (fun _ => rfl) (.cons rfl (n := 1) (by kernel_rfl) op_int (fun _ => rfl) (.cons rfl (n := 1) (by kernel_rfl) op_int (fun _ => rfl) (.cons rfl (n := 1) (by kernel_rfl) op_int (fun _ => rfl)
   (.cons rfl (n := 1) (by kernel_rfl) op_int (fun _ => rfl) (.cons rfl (n := 1) (by kernel_rfl) op_int (fun _ => rfl) (.cons rfl (n := 1) (by kernel_rfl) op_int (fun _ => rfl) (.nil _)))))))) (fun _ => rfl)).map
  (fun z => ⟨z.1, z.2.1, z.2.2.1, z.2.2.2.1, z.2.2.2.2.1, z.2.2.2.2.2.1, z.2.2.2.2.2.2.1⟩) _ _ (fun z h => ⟨h.1, rfl⟩)
theorem op_driver : Opens Tryz.prog W enc 105 Dr.av (fun d => d.name.size ≤ 281474976710656) :=
 (opens_struct (n := 2) Tryz.underlying105 (by kernel_rfl) (.cons rfl (n := 1) (by kernel_rfl) op_str (fun _ => rfl) (.cons rfl (n := 1) (by kernel_rfl) op_int (fun _ => rfl) (.nil _))) (fun _ => rfl)).map
  (fun z => ⟨z.1, z.2.1⟩) _ _ (fun z h => ⟨h.1, rfl⟩)
abbrev liG (l : Li) : List AV := [.v (.string l.name), .lst 2 (l.bodies.map Bd.av), .lst 7 (l.joints.map Jt.av), .lst 2 (l.drivers.map Dr.av)]
theorem op_link : Opens Tryz.prog W enc 26 (fun l : Li => .agg (liG l)) Li.okw :=
 (opens_struct (n := 4) Tryz.underlying26 (by kernel_rfl)
  (.cons rfl (n := 1) (by kernel_rfl) op_str (fun _ => rfl)
   (.cons rfl (n := 1) (by kernel_rfl) (opens_slice Tryz.underlying22 (n := 2) (by kernel_rfl) (by omega) (by kernel_rfl) op_body (fun _ => rfl)) (fun _ => rfl)
    (.cons rfl (n := 1) (by kernel_rfl) (opens_slice Tryz.underlying23 (n := 7) (by kernel_rfl) (by omega) (by kernel_rfl) op_joint (fun _ => rfl)) (fun _ => rfl)
     (.cons rfl (n := 1) (by kernel_rfl) (opens_slice Tryz.underlying24 (n := 2) (by kernel_rfl) (by omega) (by kernel_rfl) op_driver (fun _ => rfl)) (fun _ => rfl) (.nil _))))) (fun _ => rfl)).map
  (fun z => ⟨z.1, z.2.1, z.2.2.1, z.2.2.2.1⟩) _ _ (fun z h => ⟨⟨h.1, h.2.1.1, h.2.2.1.1, h.2.2.2.1.1, h.2.1.2, h.2.2.1.2, h.2.2.2.1.2⟩, rfl⟩)
theorem op_u8 : Opens Tryz.prog W enc 5 (fun n : Nat => AV.v (.int .u8 n)) (fun n => n < 256) :=
 (opens_int (k := .u8) Tryz.underlying5).map Int.toNat _ _ (fun n h => by
  have h1 : 0 ≤ n ∧ n ≤ 255 := by simpa [Lit.wf, IntKind.min, IntKind.max, IntKind.signed, IntKind.bits] using h
  have h2 : ((n.toNat : Nat) : Int) = n := by omega
  exact ⟨by omega, by rw [h2]⟩)
abbrev rtG (r : Rt) : List AV := [bl r.neg, ws r.num, ws r.den]
theorem op_ratA : Opens Tryz.prog W enc 68 (fun r : Rt => .agg (rtG r)) Rt.wok := op_rat
abbrev drG (z : Li × List Pse) : List AV := [.v (.string z.1.name), .lst 2 (z.1.bodies.map Bd.av), .lst 7 (z.1.joints.map Jt.av), .lst 2 (z.1.drivers.map Dr.av), .lst 10 (z.2.map Pse.av)]
theorem op_drawn : Opens Tryz.prog W enc 51 (fun z : Li × List Pse => .agg (drG z)) (fun z => z.1.okw ∧ (∀ p ∈ z.2, p.wok) ∧ z.2.length ≤ 281474976710656) :=
 (opens_struct (n := 5) Tryz.underlying51 (by kernel_rfl) (.cons rfl (n := 4) (by kernel_rfl) op_link (fun _ => rfl) (.cons rfl (n := 1) (by kernel_rfl) op_poses (fun _ => rfl) (.nil _))) (fun _ => rfl)).map
  (fun z => ⟨z.1, z.2.1⟩) _ _ (fun z h => ⟨⟨h.1, h.2.1.1, h.2.1.2⟩, rfl⟩)
end
end Go.Lw
namespace Go.Lw
open Go.Proofs Go.Proofs.YtnjialefedaceaaGreat
open Go.ChangeShapes Go.WideShapes Go.ChangeAt Go.RowKit
theorem own : ownKnob Tryz.prog.godebug = none := by kernel_rfl
theorem laidOut : laidOutB Tryz.prog = true := by kernel_rfl
theorem cells_one_of {v : Value} (h : ∀ cs, v ≠ .agg cs) : v.cells = #[v] := by
 cases v <;> first | rfl | exact absurd rfl (h _)
theorem notAgg_int {P : Program} {W : World} {r : Reach} {b0 : Nat} {t : TypeId} {k : IntKind} {v : Value} (ht : P.underlying t = some (.int k)) (hval : Value.okWide P W r b0 t v) : v.cells = #[v] := by
 refine cells_one_of (fun cs h => ?_)
 subst h
 unfold Value.okWide at hval
 rw [ht] at hval
 unfold Cell.okWide at hval
 rw [ht] at hval
 unfold Cell.ok at hval
 rw [ht] at hval
 exact hval
/-- Every place of an argument reads behind the call as before. -/
theorem arg_back {H : Type} {enc : TypeId × Value → H} {W W' : World} {t : TypeId} {v : Value} {d : DataW H} {ps : List MemPlace} {sp' : Nat → Bool} (hr : Tryz.prog.readableRec t = true) (ht : t < Tryz.prog.types.size)
  (h : DataW.Trod enc Tryz.prog W 0 (fun _ => true) true t v d ps) (hb : Below W.heap.size W W') (hlt : ∀ x ∈ ps, x.block < W.heap.size) (hs : ∀ p ∈ ps, sp' p.block = true) : DataW.Trod enc Tryz.prog W' 0 sp' true t v d ps :=
 WideElems.Trod_stays laidOut hr ht h (fun x hx => hb.same (hlt x hx)) hs
end Go.Lw
namespace Go.Lw
open Go.Proofs
theorem trim_end {m : List Nat} {n : Nat} (hm : Ws m) (hn : n ≤ m.length) (hv : val (m.take n) = val m) (h0 : n ≠ 0) (hw : wordW m (n - 1) ≠ 0) :
  AV.fz 24 1 ([] ++ ((m.map u32).drop 0).take (n - 0)) (.ms 24 1 0 (0 + (((m.map u32).drop 0).take (n - 0)).length)) = ws (ofNat (val m)) := by
 have h1 : m.take n = ofNat (val m) := by
  refine ofNat_eq (fun x hx => hm x (List.mem_of_mem_take hx)) ?_ hv
  intro x hx
  rw [List.getLast?_eq_getElem?, List.length_take, Nat.min_eq_left hn, List.getElem?_take, if_pos (by omega), word_get (by omega)] at hx
  cases hx; exact hw
 rw [fz_ms (by simp), ← h1, ws]
 simp [List.map_take, Nat.min_eq_left hn, List.take_take]
theorem whole_end (b : Bool) (n : Nat) : AV.agg [bl (bif b then icmp BinOp.gtr (↑(ofNat n).length) 0 else false), ws (ofNat n)] = zA (sgn b n) := by
 have h1 : (sgn b n).natAbs = n := by unfold sgn; split <;> omega
 unfold zA ofInt Wh.av
 dsimp only
 rw [h1]
 congr 3
 have h2 : (ofNat n).length = 0 ↔ n = 0 := by
  rw [List.length_eq_zero_iff]
  constructor
  ·intro h; have := val_ofNat n; rw [h] at this; exact this.symm
  ·intro h; rw [h]; rfl
 cases b with
 | false => simp [sgn]
 | true => simp [sgn, icmp]; omega
theorem c_word (m : List Nat) (i : Nat) (hm : Ws m) : FnC Tryz.prog 248 [ws m, i64 i] (u64 (wordW m i)) := by
 refine gF0 Tryz.func248 ?_
 refine gl ?_
 refine gC (fun ht8 => ?_) (fun ht8 => ?_)
 ·simp [icmp] at ht8
  have := wordW_lt hm i
  refine gi (getw (i := i) ht8) ?_
  refine gv (u64_in (by omega)) ?_
  refine gE1 ?_
  rfl
 ·simp [icmp] at ht8
  refine gE1 ?_
  simp [u64, word_out ht8]
theorem c_trim (m : List Nat) (hm : Ws m) (hb : m.length ≤ big) : FnC Tryz.prog 219 [ws m] (ws (ofNat (val m))) := by
 refine gF0 Tryz.func219 ?_ (0, 0)
 refine gLen (t := 0) rfl (fun hl => ?_)
 refine go ?_
 refine gl ?_
 refine gL1 [0] [] (fun (n : Nat) => [(3, some (i64 n))]) (fun _ => []) (fun n => n ≤ m.length ∧ val (m.take n) = val m) (fun n => n) m.length ⟨Nat.le_refl _, by rw [List.take_length]⟩ ?_
 rintro n ⟨hn, hv⟩ K1 hK1
 refine gaG (fun h => (i64_sub1 (by simp [icmp] at h; omega) (by omega))) ?_
 refine giG (fun h => (getw (i := n - 1) (by simp [icmp] at h; omega))) ?_
 refine gC (fun ht15 => ?_) (fun ht15 => ?_)
 ·have ht15 : 0 < n ∧ wordW m (n - 1) = 0 := by simpa [icmp] using ht15
  refine ga (i64_sub1 (by omega) (by omega)) ?_
  exact gK1 hK1 (n - 1) ⟨by omega, by have h := @val_take_word m (n - 1); rw [show n - 1 + 1 = n by omega, ht15.2] at h; simp at h; omega⟩
 ·have ht15 : 0 < n → wordW m (n - 1) ≠ 0 := by simpa [icmp] using ht15
  refine gC (fun ht19 => ?_) (fun ht19 => ?_)
  ·have h0 : n = 0 := by simpa [icmp] using ht19
   subst h0
   refine gR ?_
   exact fin_sub1 (by rw [show val m = 0 from hv.symm.trans rfl]; exact Sub.nil _ _ _)
  ·have h0 : n ≠ 0 := by simpa [icmp] using ht19
   refine gs (s_buildMs0 T66 rfl T186 rfl rfl rfl) ?_
   refine gs (s_sliceLst (.tmp rfl) (.none _) (.some _ (.tmp rfl) (by omega)) T66 rfl T186 rfl (by omega) (by simp; omega) rfl) ?_
   refine gs (s_append (.tmp rfl) rfl rfl (.tmp rfl) T66 rfl T186 rfl rfl (by unfold big at hb; simp only [List.length_take, List.length_drop, List.length_map]; omega) rfl rfl) ?_ (77777, 0)
   refine gW (Wk.freeze (k := 24) rfl) ?_
   refine go ?_
   refine gR ?_
   exact fin_eq1 (trim_end hm hn hv h0 (ht15 (by omega)))
theorem c_integer_Valid (w : Wh) (h : w.ok) : FnC Tryz.prog 128 [w.av] (bl w.valid) := by
 have hl : w.mag.length ≤ maxL := h.2
 refine gF0 Tryz.func128 ?_
 refine gl ?_
 refine gC (fun ht6 => ?_) (fun ht6 => ?_)
 ·have h0 : w.mag = [] := by simpa [icmp] using ht6
  refine gE1 ?_
  simp [bl, Wh.valid, h0]
 ·have h0 : w.mag.length ≠ 0 := by simpa [icmp] using ht6
  refine gl ?_
  refine ga (i64_sub1 (by omega) (by omega)) ?_
  refine gi (getw (i := w.mag.length - 1) (by omega)) ?_
  refine gE1 ?_
  have h1 : w.mag ≠ [] := fun h => h0 (by rw [h]; rfl)
  simp only [bl, Wh.valid, if_neg h1, List.getLast?_eq_getElem?, word_get (show w.mag.length - 1 < w.mag.length by omega), icmp]
  congr 2
  generalize wordW w.mag _ = x
  rw [Bool.eq_iff_iff]; simp
theorem c_integer_mag (w : Wh) (h : w.ok) : FnC Tryz.prog 184 [w.av] (ws w.m) := by
 refine gF0 Tryz.func184 ?_
 refine gc (c_integer_Valid w h) ?_
 refine gC (fun ht5 => ?_) (fun ht5 => ?_)
 ·have h0 : w.valid = false := by simpa [icmp] using ht5
  refine gR ?_
  exact fin_sub1 (by rw [show w.m = [] by simp [Wh.m, h0]]; exact Sub.nil _ _ _)
 ·have h0 : w.valid = true := by simpa [icmp] using ht5
  refine gE1 ?_
  simp only [Wh.m, h0]; rfl
theorem c_integer_neg (w : Wh) (h : w.ok) : FnC Tryz.prog 185 [w.av] (bl w.n) := by
 refine gF0 Tryz.func185 ?_
 refine gc (c_integer_Valid w h) ?_
 refine gE1 ?_
 simp only [Wh.n, bl]; cases w.valid <;> rfl
theorem c_integer_whole (b : Bool) (m : List Nat) (hm : Ws m) (hb : m.length ≤ big) : FnC Tryz.prog 187 [bl b, ws m] (zA (sgn b (val m))) := by
 refine gF0 Tryz.func187 ?_
 refine gc (c_trim m hm hb) ?_
 refine glG ?_
 refine gE1 ?_
 exact whole_end b (val m)
theorem c_integer_compare (a b : List Nat) (ha : Ws a) (hb : Ws b) (na : Nz a) (nb : Nz b) : FnC Tryz.prog 183 [ws a, ws b] (i64 (if val a < val b then -1 else if val b < val a then 1 else 0)) := by
  refine gF0 Tryz.func183 ?_ (0, 0)
  refine gLen (t := 0) rfl (fun hla => ?_)
  refine gLen (t := 1) rfl (fun hlb => ?_)
  unfold maxL at hla hlb
  refine go ?_
  refine gl ?_
  refine gl ?_
  refine gC (fun ht10 => ?_) (fun ht10 => ?_)
  · have h0 : a.length ≠ b.length := by simpa [icmp, Int.ofNat_inj] using ht10
    refine gl ?_
    refine gl ?_
    refine gC (fun ht15 => ?_) (fun ht15 => ?_)
    · have h1 : a.length < b.length := by simpa [icmp] using ht15
      have h2 := val_cmp_len ha nb h1
      refine gE1 ?_
      simp [i64, h2]
    · have h1 : b.length ≤ a.length := by simpa [icmp] using ht15
      have h2 := val_cmp_len hb na (show b.length < a.length by omega)
      refine gE1 ?_
      simp [i64, h2, Nat.lt_asymm h2]
  · have h0 : a.length = b.length := by simpa [icmp, Int.ofNat_inj] using ht10
    refine gl ?_
    refine ga (i64_subI (by omega)) ?_
    refine gL1 [0, 1] [] (fun (n : Nat) => [(5, some (i64 ((n : Int) - 1)))]) (fun _ => []) (fun n => n ≤ a.length ∧ a.drop n = b.drop n) (fun n => n) a.length ⟨Nat.le_refl _, by rw [List.drop_length, h0, List.drop_length]⟩ ?_ (h1 := (.cons rfl (Sub.int rfl) .nil))
    rintro n ⟨hn, hd⟩ K1 hK1
    refine gC (fun ht20 => ?_) (fun ht20 => ?_)
    · have hn0 : 1 ≤ n := by have := ht20; simp [icmp] at this; omega
      refine gi (getz (n := n - 1) (by omega) (by first | omega | (simp; omega))) ?_
      refine gi (getz (n := n - 1) (by omega) (by first | omega | (simp; omega))) ?_
      refine gD ?_
      refine gC (fun ht31 => ?_) (fun ht31 => ?_)
      · have h3 : wordW a (n - 1) ≠ wordW b (n - 1) := by simpa [icmp, Int.ofNat_inj] using ht31
        refine gi (getz (n := n - 1) (by omega) (by first | omega | (simp; omega))) ?_
        refine gi (getz (n := n - 1) (by omega) (by first | omega | (simp; omega))) ?_
        refine gD ?_
        refine gC (fun ht40 => ?_) (fun ht40 => ?_)
        · have h4 : wordW a (n - 1) < wordW b (n - 1) := by simpa [icmp] using ht40
          have h5 := lt_of_words ha h0 (by omega) (by rw [Nat.sub_add_cancel hn0]; exact hd) h4
          refine gE1 ?_
          simp [i64, h5]
        · have h4 : wordW b (n - 1) < wordW a (n - 1) := by have : wordW b (n - 1) ≤ wordW a (n - 1) := by simpa [icmp] using ht40
                                                            omega
          have h5 := lt_of_words hb h0.symm (by omega) (by rw [Nat.sub_add_cancel hn0]; exact hd.symm) h4
          refine gE1 ?_
          simp [i64, h5, Nat.lt_asymm h5]
      · have h3 : wordW a (n - 1) = wordW b (n - 1) := by simpa [icmp, Int.ofNat_inj] using ht31
        refine ga (i64_subI (by omega)) ?_
        exact gK1 hK1 (n - 1) ⟨by omega, by rw [List.drop_eq_getElem_cons (show n - 1 < a.length by omega), List.drop_eq_getElem_cons (show n - 1 < b.length by omega), Nat.sub_add_cancel hn0, hd]; congr 1; exact getElem_of_word (by omega) (by omega) h3⟩
    · have hn0 : n = 0 := by have := ht20; simp [icmp] at this; omega
      subst hn0
      refine gE1 ?_
      simp at hd; simp [i64, hd]
theorem c_integer_plus (a b : List Nat) (ha : Ws a) (hb : Ws b) (la : a.length < big) (lb : b.length < big) : FnC Tryz.prog 241 [ws a, ws b] (ws (ofNat (val a + val b))) := by
  unfold big at la lb
  obtain ⟨n, hn⟩ : ∃ n, n = max a.length b.length + 1 := ⟨_, rfl⟩
  refine gF0 Tryz.func241 ?_
  refine gl ?_
  refine gl ?_
  refine gs (s_max (.tmp rfl) (.tmp rfl) rfl) ?_
  refine ga (show _ = (n : Int) by rw [i64_addI (by omega)]; omega) ?_
  refine gs (s_make (.tmp rfl) T66 rfl T186 rfl rfl (by omega) (by dsimp only; omega) rfl) ?_
  refine gL3 [0, 1, 16] [] (fun (out : List Nat) (c i : Nat) => [(5, some (.ms 14 1 0 n)), (6, some (u64 c)), (17, some (i64 i))]) (fun out _ _ => [(14, some (.row 1 (out.map u32)))]) (fun out c i => out.length = n ∧ i ≤ n ∧ Ws out ∧ c ≤ 1 ∧ val (out.take i) + c * 4294967296 ^ i = val (a.take i) + val (b.take i)) (fun _ _ i => n - i) (List.replicate n 0) 0 0 ⟨by simp, by omega, ws_rep n, by omega, by simp [val]⟩ ?_ (h2 := (.cons rfl (BlkSub.of (by rw [List.map_replicate]; rfl)) .nil))
  rintro out c i ⟨ho, hi, hw, hc, hv⟩ K1 hK1
  refine gC (fun ht18 => ?_) (fun ht18 => ?_) (st2 := (10, 0))
  · have hin : i < n := by simpa [icmp] using ht18
    have h1 := wordW_lt ha i
    have h2 := wordW_lt hb i
    refine gc (by apply c_word <;> assumption) ?_
    refine gc (by apply c_word <;> assumption) ?_
    refine ga (u64_add (by omega)) ?_
    refine ga (u64_add (by omega)) ?_
    refine gv (u32_wrap _) ?_
    refine gs (s_idxMs0 (n := i) (.tmp rfl) (.tmp rfl) T66 rfl T186 rfl (by omega) (by first | omega | (simp; omega)) rfl) ?_
    refine gs (s_stElem (.tmp rfl) rfl (getw (i := i) (by omega)) rfl (.tmp rfl) rfl rfl T186 rfl rfl) ?_
    refine gs (s_shrW (.tmp rfl) (.const _) (by omega) (u64_shr _ 32 (by omega)) rfl) ?_
    refine ga (i64_addI (by omega)) ?_
    exact gK3 hK1 (out.set i ((c + (wordW a i + wordW b i)) % 4294967296)) ((c + (wordW a i + wordW b i)) / 4294967296) (i + 1) ⟨by simp [ho], by omega, ws_set hw (by omega), by omega, by rw [val_set_take (by omega), val_take_word, val_take_word, Nat.pow_succ]; exact plus_step hv⟩ (hw := Wk.of (by repeat (first | exact SlW.nil | refine SlW.k ?_)) (.cons rfl (BlkSub.of (by rw [List.map_set]; rfl)) .nil))
  · have hin : i = n := by have : n ≤ i := by simpa [icmp] using ht18
                           omega
    refine gW ((Wk.freeze (k := 14) rfl).trans <| Wk.of (sl := [(5, some (ws out))]) (hp := []) (.cons rfl (Sub.of (fz_all (by simp [ho]))) .nil) .nil) ?_
    refine gc (c_trim out hw (by unfold big; omega)) ?_
    refine gE1 ?_
    rw [plus_end ha hb hn ho (hin ▸ hv)]
theorem c_integer_less (a b : List Nat) (ha : Ws a) (hb : Ws b) (la : a.length ≤ big) (lb : b.length ≤ a.length) (hle : val b ≤ val a) : FnC Tryz.prog 242 [ws a, ws b] (ws (ofNat (val a - val b))) := by
  have la' := la
  unfold big at la
  obtain ⟨n, hn⟩ : ∃ n, n = a.length := ⟨_, rfl⟩
  refine gF0 Tryz.func242 ?_
  refine gl ?_
  refine gs (s_make (.tmp rfl) T66 rfl T186 rfl rfl (by omega) (by dsimp only; omega) rfl) ?_
  refine gL3 [0, 1, 13] [] (fun (out : List Nat) (c i : Nat) => [(5, some (.ms 11 1 0 a.length)), (6, some (u64 c)), (14, some (i64 i))]) (fun out _ _ => [(11, some (.row 1 (out.map u32)))]) (fun out c i => out.length = a.length ∧ i ≤ a.length ∧ Ws out ∧ c ≤ 1 ∧ val (out.take i) + val (b.take i) = val (a.take i) + c * 4294967296 ^ i) (fun _ _ i => a.length - i) (List.replicate a.length 0) 0 0 ⟨by simp, by omega, ws_rep _, by omega, by simp [val]⟩ ?_ (h2 := (.cons rfl (BlkSub.of (by rw [List.map_replicate]; rfl)) .nil))
  rintro out c i ⟨ho, hi, hw, hc, hv⟩ K1 hK1
  refine gC (fun ht15 => ?_) (fun ht15 => ?_) (st2 := (10, 0))
  · have hin : i < a.length := by simpa [icmp] using ht15
    have h1 := wordW_lt ha i
    have h2 := wordW_lt hb i
    have h3 := less_step h1 h2 hc hv
    obtain ⟨d, hd⟩ : ∃ d, d = if wordW b i + c ≤ wordW a i then wordW a i - wordW b i - c else wordW a i + 18446744073709551616 - wordW b i - c := ⟨_, rfl⟩
    rw [← hd] at h3
    have hd1 : d < 18446744073709551616 := by rw [hd]; split <;> omega
    refine gi (getz (n := i) (by omega) (by first | omega | (simp; omega))) ?_
    refine gv (u64_in (by omega)) ?_
    refine gc (by apply c_word <;> assumption) ?_
    refine ga (u64_sub (by omega) (by omega)) ?_
    refine ga (show _ = (d : Int) by rw [u64_sub (by split <;> omega) (by omega), hd]; congr 1; (repeat' split) <;> omega) ?_
    refine gD ?_
    refine gv (u32_wrap _) ?_
    refine gs (s_idxMs0 (n := i) (.tmp rfl) (.tmp rfl) T66 rfl T186 rfl (by omega) (by first | omega | (simp; omega)) rfl) ?_
    refine gs (s_stElem (.tmp rfl) rfl (getw (i := i) (by omega)) rfl (.tmp rfl) rfl rfl T186 rfl rfl) ?_
    refine gs (s_shrW (.tmp rfl) (.const _) (by omega) (u64_shr _ 63 (by omega)) rfl) ?_
    refine ga (i64_addI (by omega)) ?_
    exact gK3 hK1 (out.set i (d % 4294967296)) (d / 2 ^ 63) (i + 1) ⟨by simp [ho], by omega, ws_set hw (by omega), by omega, by rw [val_set_take (by omega), val_take_word, val_take_word, Nat.pow_succ]; exact h3⟩ (hw := Wk.of (by repeat (first | exact SlW.nil | refine SlW.k ?_)) (.cons rfl (BlkSub.of (by rw [List.map_set]; rfl)) .nil))
  · have hin : i = a.length := by have : a.length ≤ i := by simpa [icmp] using ht15
                                  omega
    refine gW ((Wk.freeze (k := 11) rfl).trans <| Wk.of (sl := [(5, some (ws out))]) (hp := []) (.cons rfl (Sub.of (fz_all (by simp [ho]))) .nil) .nil) ?_
    refine gc (c_trim out hw (by rw [ho]; exact la')) ?_
    refine gE1 ?_
    rw [less_end hw ho hle lb (hin ▸ hv)]
end Go.Lw
