/- CertifyVerifies: for any linkage, turns and assembly the law returns true and leaves its arguments as they were. No condition. Part 6 of 6: the statement -/
import Derived.Test.YtnjialefedaceaaGreatXe
set_option linter.unusedVariables false
namespace Go.Lw
open Go.Proofs
theorem c_r28_body {a : As} (ha : AL a) (h1 : chkE a.rs = 0) {i : Nat} {b : Pl} (hb : a.bs[i]? = some b) : FnC Tryz.prog 38 [a.av, i64 i] (bl (bodyB a.rs i b)) := by
 have kb := kb4
 have hbl := ha.bl
 have hi := (List.getElem?_eq_some_iff.1 hb).1
 obtain ⟨tw, hta⟩ := chk_tw ha.tr h1
 have h5 : a.rs.length ≤ 5 := by have := tw.five; rwa [List.length_map] at this
 have hll : (llq a.rs).length = a.rs.length := List.length_map _
 have hbn := ha.nr b (List.mem_of_getElem? hb)
 refine gF0 Tryz.func38 ?_
 refine go ?_
 refine gs (s_idxLst (.tmp rfl) (.tmp rfl) T31 rfl T62 rfl (by omega) (getmap hb) rfl) ?_
 refine gs (s_call (c_r11_Bad a.rs 40000 4000 ha.tr b.l hbn (by omega) (by show 4 ≤ _; omega)) (.cons (.tmp rfl) (.cons (.tmp rfl) .nil)) rfl rfl) ?_
 refine gC (fun ht24 => ?_) (fun ht24 => ?_)
 ·have h4 := neq_t ht24
  refine go ?_
  refine gE1 ?_
  unfold bodyB; rw [decide_eq_false h4]; rfl
 ·have h4 := neq_f ht24
  obtain ⟨hba, hbo⟩ := pl_canon h4 hbn h5
  rw [← hll] at hbo
  have hdn := dot_nm tw hbo.c hbo.s hbo.c hbo.s
  have hdot := c_r11_Dot tw hbo.c hbo.s hbo.c hbo.s (by omega)
  rw [← hta] at hdot
  have heq := c_r11_Equal tw hdn (nm_q (q := ((1 : Int) : Rat)) tw.five Qb.one) (by omega)
  rw [dec_sh, ← hta] at heq
  have hfq : frameQ.ok (llq a.rs).length 4000 := frame_ok tw.five
  have hsp := c_r26_SamePlaced tw hbo.c hbo.s hbo.x hbo.y hfq.c hfq.s hfq.x hfq.y (by omega)
  rw [← hta] at hsp
  refine gW (Wk.of (sl := [(1, some (i64 i)), (2, some (.ptr 2 0)), (5, some (.ptr 5 0))]) (hp := [(2, some (.box a.av.cells)), (5, some (.box (Pq.av ⟨lq b.c, lq b.s, lq b.x, lq b.y⟩).cells))]) (by repeat (first | exact SlW.nil | refine SlW.k ?_)) (.cons rfl (.refl _) (.cons rfl (BlkSub.of (congrArg (fun v => Blk.box (AV.cells v)) hba)) .nil))) ?_
  refine go ?_
  refine gs (s_call hdot (.cons (.tmp rfl) (.cons (.tmp rfl) (.cons (.tmp rfl) .nil))) rfl rfl) ?_
  refine gs (s_call (c_r14_Int 1 (by omega)) (.cons (.const _) .nil) rfl rfl) ?_
  refine gs (s_call heq (.cons (.tmp rfl) (.cons (.tmp rfl) (.cons (.tmp rfl) .nil))) rfl rfl) ?_
  refine gD ?_
  refine gC (fun ht39 => ?_) (fun ht39 => ?_)
  ·have h6 := not_t ht39
   refine go ?_
   refine gE1 ?_
   unfold bodyB; rw [show unitB (llq a.rs) b = false from h6, Bool.false_and, Bool.and_false]; rfl
  ·have h6 := not_f ht39
   refine go ?_
   refine gs (s_guard rfl rfl rfl (fun h => s_call c_r26_Frame .nil rfl rfl)) ?_
   refine gs (s_guard rfl rfl rfl (fun h => s_call hsp (.cons (.opt rfl (o1 h)) (.cons (.opt rfl (o1 h)) (.cons (.opt rfl (o1 h)) .nil))) rfl rfl)) ?_
   refine gD ?_
   refine gE1 ?_
   unfold bodyB; rw [h4, show unitB (llq a.rs) b = true from h6]; exact congrArg bl body_cond
theorem c_r28_Bad (l : Li) (hl : l.ok) (xs : List Tn) (hx : ∀ x ∈ xs, x.t.ok) (hxl : xs.length ≤ 281474976710656) : FnC Tryz.prog 10 [l.av, .lst 4 (xs.map Tn.av)] (i64 (badE l xs)) := by
 have hld := hl.ld
 refine gF0 Tryz.func10 ?_
 refine go ?_
 refine gs (s_call (c_r19_Check l hl) (.cons (.tmp rfl) .nil) rfl rfl) ?_
 refine gC (fun ht12 => ?_) (fun ht12 => ?_)
 ·have h1 := neq_t ht12
  refine go ?_
  refine gE1 ?_
  rw [badE_li h1]
 ·have h1 := neq_f ht12
  refine go ?_
  refine gs (s_lenMap (.tmp rfl) T27 rfl rfl) ?_
  refine gs (s_lenMap (.tmp rfl) T24 rfl rfl) ?_
  refine gC (fun ht19 => ?_) (fun ht19 => ?_)
  ·have h2 : xs.length ≠ l.drivers.length := by have := neq_t' ht19; omega
   refine go ?_
   refine gE1 ?_
   rw [badE_len h1 h2]; rfl
  ·have h2 : xs.length = l.drivers.length := by have := neq_f' ht19; omega
   refine go ?_
   refine gs (s_lenMap (.tmp rfl) T27 rfl rfl) ?_
   refine gL1 (fun (i : Nat) => (⟨[(20, some (.lst 4 (xs.map Tn.av))), (21, some (i64 xs.length)), (22, some (i64 i))], []⟩ : AS)) (fun (i : Nat) => i ≤ xs.length ∧ ∀ x ∈ xs.take i, x.err = 0) (fun (i : Nat) => xs.length - i) 0 ⟨Nat.zero_le _, fun x hx => by simp at hx⟩ ?_
   rintro i ⟨hi, hj⟩ K1 hK1
   refine go ?_
   refine gC (fun ht23 => ?_) (fun ht23 => ?_)
   ·have hin := lss_t ht23
    obtain ⟨x, hxx⟩ := getx hin
    refine go ?_
    refine gs (s_idxLst (.tmp rfl) (.tmp rfl) T27 rfl T81 rfl (by omega) (getmap hxx) rfl) ?_
    refine gs (s_call (c_r12_Check x (hx x (List.mem_of_getElem? hxx))) (.cons (.tmp rfl) .nil) rfl rfl) ?_
    refine gC (fun ht29 => ?_) (fun ht29 => ?_)
    ·have h3 := neq_t ht29
     refine go ?_
     refine gE1 ?_
     rw [badE_x h1 h2 hxx hj h3]
    ·have h3 := neq_f ht29
     refine go ?_
     refine gs (s_arithW (.tmp rfl) (.const _) rfl (i64_add1 (by unfold maxL; omega)) rfl) ?_
     exact gK1 hK1 (i + 1) ⟨hin, fun y hy => by rw [take_succ_get hxx] at hy; rcases List.mem_append.1 hy with h9 | h9; exact hj y h9; (rw [List.mem_singleton.1 h9]; exact h3)⟩
   ·have hin := lss_end hi ht23
    subst hin
    rw [List.take_length] at hj
    refine go ?_
    refine gE1 ?_
    rw [badE_0 h1 h2 hj]; rfl
theorem c_r28_Fault {l : Li} (hl : l.ok) (hli : liE l = 0) (xs : List Tn) (hx : ∀ x ∈ xs, x.t.ok ∧ x.err = 0 ∧ Qb 1000 x.t.q) (hxl : xs.length = l.drivers.length) {a : As} (ha : AL a) : FnC Tryz.prog 12 [l.av, .lst 4 (xs.map Tn.av), a.av] (fltA (flt l xs a)) := by
 have kb := kb4
 have hbl := ha.bl
 have hlj := hl.lj
 have hld := hl.ld
 refine gF0 Tryz.func12 ?_
 refine go ?_
 refine gs (s_call (Con.subA (.cons (.refl _) (.cons (Sub.nil 1 none 0) .nil)) (c_r11_Bad a.rs 40000 4000 ha.tr [] (fun x hx => by cases hx) (by omega) (by show 0 ≤ _; omega))) (.cons (.tmp rfl) (.cons (.const _) .nil)) rfl rfl) ?_
 refine gs (s_guard rfl rfl rfl (fun h => s_lenMap (.opt rfl (o1 h)) T31 rfl rfl)) ?_
 refine gs (s_guard rfl rfl rfl (fun h => s_lenMap (.opt rfl (o1 h)) T22 rfl rfl)) ?_
 refine gC (fun ht25 => ?_) (fun ht25 => ?_)
 ·have h1 : chkE a.rs ≠ 0 ∨ a.bs.length ≠ l.bodies.length := fl1_t ht25
  refine go ?_
  refine gE1 ?_
  rw [flt_1 h1]; rfl
 ·have h1 : ¬ (chkE a.rs ≠ 0 ∨ a.bs.length ≠ l.bodies.length) := fl1_f ht25
  have hc : chkE a.rs = 0 := Decidable.not_not.1 (fun h => h1 (.inl h))
  have hln : a.bs.length = l.bodies.length := Decidable.not_not.1 (fun h => h1 (.inr h))
  refine go ?_
  refine gs (s_lenMap (.tmp rfl) T31 rfl rfl) ?_
  refine gL1 (fun (i : Nat) => (⟨[(1, some (.lst 4 (xs.map Tn.av))), (3, some (.ptr 3 0)), (5, some (.ptr 5 0)), (6, some (.ptr 6 0)), (29, some (i64 a.bs.length)), (30, some (i64 i))], [(3, some (.box l.av.cells)), (5, some (.box a.av.cells)), (6, some (.box [i64 0, i64 0]))]⟩ : AS)) (fun (i : Nat) => i ≤ a.bs.length ∧ ∀ j, j < i → bodyB a.rs j (a.bs.getD j default) = true) (fun (i : Nat) => a.bs.length - i) 0 ⟨Nat.zero_le _, fun j h => by omega⟩ ?_
  rintro i ⟨hi, hj⟩ K1 hK1
  refine go ?_
  refine gC (fun ht31 => ?_) (fun ht31 => ?_)
  ·have hin := lss_t ht31
   obtain ⟨b, hb⟩ := getx hin
   have hbd : a.bs.getD i default = b := getD_of hb
   refine go ?_
   refine gs (s_call (c_r28_body ha hc hb) (.cons (.tmp rfl) (.cons (.tmp rfl) .nil)) rfl rfl) ?_
   refine gC (fun ht36 => ?_) (fun ht36 => ?_)
   ·have h2 := not_t ht36
    refine go ?_
    refine gE1 ?_
    rw [flt_2 h1 (firstB_at hin hj (by rw [hbd]; exact h2))]; rfl
   ·have h2 := not_f ht36
    refine go ?_
    refine gs (s_arithW (.tmp rfl) (.const _) rfl (i64_add1 (by unfold maxL; omega)) rfl) ?_
    exact gK1 hK1 (i + 1) ⟨hin, fun j h9 => by rcases Nat.lt_or_ge j i with g | g; exact hj j g; (have : j = i := by omega); subst this; rw [hbd]; exact h2⟩
  ·have hin := lss_end hi ht31
   subst hin
   have f1 := firstB_all hj
   have hg := good_of hl hli ha hc hln hj
   refine go ?_
   refine gs (s_lenMap (.tmp rfl) T23 rfl rfl) ?_
   refine gL1 (fun (i : Nat) => (⟨[(1, some (.lst 4 (xs.map Tn.av))), (3, some (.ptr 3 0)), (5, some (.ptr 5 0)), (6, some (.ptr 6 0)), (41, some (.lst 7 (l.joints.map Jt.av))), (42, some (i64 l.joints.length)), (43, some (i64 i))], [(3, some (.box l.av.cells)), (5, some (.box a.av.cells)), (6, some (.box [i64 0, i64 0]))]⟩ : AS)) (fun (i : Nat) => i ≤ l.joints.length ∧ ∀ j, j < i → jointB l a (l.joints.getD j default) = true) (fun (i : Nat) => l.joints.length - i) 0 ⟨Nat.zero_le _, fun j h => by omega⟩ ?_
   rintro i ⟨hi2, hj2⟩ K2 hK2
   refine go ?_
   refine gC (fun ht44 => ?_) (fun ht44 => ?_)
   ·have hin := lss_t ht44
    obtain ⟨j, hjt⟩ := getx hin
    have hjd : l.joints.getD i default = j := getD_of hjt
    refine go ?_
    refine gs (s_idxLst (.tmp rfl) (.tmp rfl) T23 rfl T76 rfl (by omega) (getmap hjt) rfl) ?_
    refine gs (s_call (c_r28_joint hg hjt) (.cons (.tmp rfl) (.cons (.tmp rfl) (.cons (.tmp rfl) .nil))) rfl rfl) ?_
    refine gC (fun ht52 => ?_) (fun ht52 => ?_)
    ·have h2 := not_t ht52
     refine go ?_
     refine gE1 ?_
     rw [flt_3 h1 f1 (firstB_at hin hj2 (by rw [hjd]; exact h2))]; rfl
    ·have h2 := not_f ht52
     refine go ?_
     refine gs (s_arithW (.tmp rfl) (.const _) rfl (i64_add1 (by unfold maxL; omega)) rfl) ?_
     exact gK1 hK2 (i + 1) ⟨hin, fun j h9 => by rcases Nat.lt_or_ge j i with g | g; exact hj2 j g; (have : j = i := by omega); subst this; rw [hjd]; exact h2⟩
   ·have hin := lss_end hi2 ht44
    subst hin
    have f2 := firstB_all hj2
    obtain ⟨tw, hta, h5, hll⟩ := hg.tw
    refine go ?_
    refine gs (s_lenMap (.tmp rfl) T24 rfl rfl) ?_
    refine gL1 (fun (i : Nat) => (⟨[(1, some (.lst 4 (xs.map Tn.av))), (3, some (.ptr 3 0)), (5, some (.ptr 5 0)), (6, some (.ptr 6 0)), (57, some (.lst 2 (l.drivers.map Dr.av))), (58, some (i64 l.drivers.length)), (59, some (i64 i))], [(3, some (.box l.av.cells)), (5, some (.box a.av.cells)), (6, some (.box [i64 0, i64 0]))]⟩ : AS)) (fun (i : Nat) => i ≤ l.drivers.length ∧ ∀ j, j < i → driverB l xs a j = true) (fun (i : Nat) => l.drivers.length - i) 0 ⟨Nat.zero_le _, fun j h => by omega⟩ ?_
    rintro i ⟨hi3, hj3⟩ K3 hK3
    refine go ?_
    refine gC (fun ht60 => ?_) (fun ht60 => ?_)
    ·have hin := lss_t ht60
     obtain ⟨d, hd⟩ := getx hin
     obtain ⟨n, b, x, hq⟩ := hg.dr hx hxl hd
     obtain ⟨dname, dbody⟩ := d
     have hqn : dbody = n := hq.hn
     subst hqn
     have hqb : ({ name := dname, body := (n : Int) } : Dr).body = (n : Int) := rfl
     have hxo := hx x (List.mem_of_getElem? hq.gx)
     have hc1 : FnC Tryz.prog 41 [x.av] (qA (cosQ x.half x.t.q)) := by have h := c_r12_Cos x.half hxo.2.2 (by omega); rw [← Rt.eq_rt hxo.1 (Tn.ok_valid hxo.2.1)] at h; exact h
     have hs1 : FnC Tryz.prog 42 [x.av] (qA (sinQ x.half x.t.q)) := by have h := c_r12_Sin x.half hxo.2.2 (by omega); rw [← Rt.eq_rt hxo.1 (Tn.ok_valid hxo.2.1)] at h; exact h
     have ec : FnC Tryz.prog 40 [towR a.rs, nR b.c, nA (sh 0 (cosQ x.half x.t.q : Rat))] (bl (eqT (llq a.rs) (decL (llq a.rs) b.c) (dec (llq a.rs).length (sh 0 (cosQ x.half x.t.q : Rat))))) := by rw [hta, hq.ec]; exact c_r11_Equal tw hq.po.c (nm_q tw.five (qb_cos hxo.2.2)) (by omega)
     have es : FnC Tryz.prog 40 [towR a.rs, nR b.s, nA (sh 0 (sinQ x.half x.t.q : Rat))] (bl (eqT (llq a.rs) (decL (llq a.rs) b.s) (dec (llq a.rs).length (sh 0 (sinQ x.half x.t.q : Rat))))) := by rw [hta, hq.es]; exact c_r11_Equal tw hq.po.s (nm_q tw.five (qb_sin hxo.2.2)) (by omega)
     refine go ?_
     refine gs (s_idxLst (.tmp rfl) (.tmp rfl) T24 rfl T105 rfl (by omega) (getmap hd) rfl) ?_
     refine gs (s_idxLst (.tmp rfl) (.tmp rfl) T31 rfl T62 rfl (by omega) (getmap hq.gb) rfl) ?_
     refine gs (s_idxLst (.tmp rfl) (.tmp rfl) T27 rfl T81 rfl (by omega) (getmap hq.gx) rfl) ?_
     refine gs (s_call hc1 (.cons (.tmp rfl) .nil) rfl rfl) ?_
     refine gs (s_call (r4_Of ((qb_cos hxo.2.2).qs (by omega))) (.cons (.tmp rfl) .nil) rfl rfl) ?_
     refine gs (s_call ec (.cons (.tmp rfl) (.cons (.tmp rfl) (.cons (.tmp rfl) .nil))) rfl rfl) ?_
     refine gs (s_guard rfl rfl rfl (fun h => s_idxLst (.opt rfl (o1 h)) (.opt rfl (o1 h)) T27 rfl T81 rfl (by omega) (getmap hq.gx) rfl)) ?_
     refine gs (s_guard rfl rfl rfl (fun h => s_call hs1 (.cons (.opt rfl (o1 h)) .nil) rfl rfl)) ?_
     refine gs (s_guard rfl rfl rfl (fun h => s_call (r4_Of ((qb_sin hxo.2.2).qs (by omega))) (.cons (.opt rfl (o1 h)) .nil) rfl rfl)) ?_
     refine gs (s_guard rfl rfl rfl (fun h => s_call es (.cons (.opt rfl (o1 h)) (.cons (.opt rfl (o1 h)) (.cons (.opt rfl (o1 h)) .nil))) rfl rfl)) ?_
     refine gD ?_
     refine gC (fun ht95 => ?_) (fun ht95 => ?_)
     ·have h2 : driverB l xs a i = false := by rw [hq.eq]; unfold turnB; rcases or_t ht95 with g | g; (rw [g]; rfl); (rw [g, Bool.and_false])
      refine go ?_
      refine gE1 ?_
      rw [flt_4 h1 f1 f2 (firstB_at hin hj3 h2)]; rfl
     ·have h2 : driverB l xs a i = true := by rw [hq.eq]; unfold turnB; have g := or_f ht95; rw [g.1, g.2]; rfl
      refine go ?_
      refine gs (s_arithW (.tmp rfl) (.const _) rfl (i64_add1 (by unfold maxL; omega)) rfl) ?_
      exact gK1 hK3 (i + 1) ⟨hin, fun j h9 => by rcases Nat.lt_or_ge j i with g | g; exact hj3 j g; (have : j = i := by omega); subst this; exact h2⟩
    ·have hin := lss_end hi3 ht60
     subst hin
     have f3 := firstB_all hj3
     refine go ?_
     refine gE1 ?_
     rw [flt_0 h1 f1 f2 f3]; rfl
end Go.Lw
namespace Go.Lw
open Go.Proofs
theorem c_first_Placed (bs : List Pl) (hl : bs.length ≤ 281474976710656) (f : FuncId) (c : List AV) (ok : Nat → Bool)
  (hf : ∀ (i : Nat) (b : Pl), bs[i]? = some b → (∀ j, j < i → ok j = true) → FnC Tryz.prog f ([i64 i, b.av] ++ [.iptr c]) (bl (!ok i))) :
  FnC Tryz.prog 71 [.lst 4 (bs.map Pl.av), .fn f [.iptr c]] (i64 (ixI (firstB bs.length ok))) := by
 refine gF0 Tryz.func71 ?_
 refine go ?_
 refine gs (s_lenMap (.tmp rfl) T31 rfl rfl) ?_
 refine gL1 (fun (i : Nat) => (⟨[(1, some (.fn f [.iptr c])), (7, some (.lst 4 (bs.map Pl.av))), (8, some (i64 bs.length)), (9, some (i64 i))], []⟩ : AS)) (fun (i : Nat) => i ≤ bs.length ∧ ∀ j, j < i → ok j = true) (fun (i : Nat) => bs.length - i) 0 ⟨Nat.zero_le _, fun j h => by omega⟩ ?_
 rintro i ⟨hi, hj⟩ K1 hK1
 refine go ?_
 refine gC (fun ht10 => ?_) (fun ht10 => ?_)
 ·have hin := lss_t ht10
  obtain ⟨b, hb⟩ := getx hin
  refine go ?_
  refine gs (s_idxLst (.tmp rfl) (.tmp rfl) T31 rfl T62 rfl (by omega) (getmap hb) rfl) ?_
  refine gs (s_callV (.tmp rfl) (hf i b hb hj) (.cons (.tmp rfl) (.cons (.tmp rfl) .nil)) (by first | exact hH0 | exact hH1 rfl | exact hH2 rfl rfl) rfl rfl) ?_
  refine gC (fun ht17 => ?_) (fun ht17 => ?_)
  ·have h2 := not_t ht17
   refine go ?_
   refine gE1 ?_
   rw [firstB_at hin hj h2]; rfl
  ·have h2 := not_f ht17
   refine go ?_
   refine gs (s_arithW (.tmp rfl) (.const _) rfl (i64_add1 (by unfold maxL; omega)) rfl) ?_
   exact gK1 hK1 (i + 1) ⟨hin, fun j h9 => by rcases Nat.lt_or_ge j i with g | g; exact hj j g; (have : j = i := by omega); subst this; exact h2⟩
 ·have hin := lss_end hi ht10
  subst hin
  refine go ?_
  refine gE1 ?_
  rw [firstB_all hj]; rfl
theorem c_first_Joint (bs : List Jt) (hl : bs.length ≤ 281474976710656) (f : FuncId) (c d : List AV) (ok : Nat → Bool)
  (hf : ∀ (i : Nat) (b : Jt), bs[i]? = some b → (∀ j, j < i → ok j = true) → FnC Tryz.prog f ([i64 i, b.av] ++ [.iptr c, .iptr d]) (bl (!ok i))) :
  FnC Tryz.prog 75 [.lst 7 (bs.map Jt.av), .fn f [.iptr c, .iptr d]] (i64 (ixI (firstB bs.length ok))) := by
 refine gF0 Tryz.func75 ?_
 refine go ?_
 refine gs (s_lenMap (.tmp rfl) T23 rfl rfl) ?_
 refine gL1 (fun (i : Nat) => (⟨[(1, some (.fn f [.iptr c, .iptr d])), (7, some (.lst 7 (bs.map Jt.av))), (8, some (i64 bs.length)), (9, some (i64 i))], []⟩ : AS)) (fun (i : Nat) => i ≤ bs.length ∧ ∀ j, j < i → ok j = true) (fun (i : Nat) => bs.length - i) 0 ⟨Nat.zero_le _, fun j h => by omega⟩ ?_
 rintro i ⟨hi, hj⟩ K1 hK1
 refine go ?_
 refine gC (fun ht10 => ?_) (fun ht10 => ?_)
 ·have hin := lss_t ht10
  obtain ⟨b, hb⟩ := getx hin
  refine go ?_
  refine gs (s_idxLst (.tmp rfl) (.tmp rfl) T23 rfl T76 rfl (by omega) (getmap hb) rfl) ?_
  refine gs (s_callV (.tmp rfl) (hf i b hb hj) (.cons (.tmp rfl) (.cons (.tmp rfl) .nil)) (by first | exact hH0 | exact hH1 rfl | exact hH2 rfl rfl) rfl rfl) ?_
  refine gC (fun ht17 => ?_) (fun ht17 => ?_)
  ·have h2 := not_t ht17
   refine go ?_
   refine gE1 ?_
   rw [firstB_at hin hj h2]; rfl
  ·have h2 := not_f ht17
   refine go ?_
   refine gs (s_arithW (.tmp rfl) (.const _) rfl (i64_add1 (by unfold maxL; omega)) rfl) ?_
   exact gK1 hK1 (i + 1) ⟨hin, fun j h9 => by rcases Nat.lt_or_ge j i with g | g; exact hj j g; (have : j = i := by omega); subst this; exact h2⟩
 ·have hin := lss_end hi ht10
  subst hin
  refine go ?_
  refine gE1 ?_
  rw [firstB_all hj]; rfl
theorem c_first_Driver (bs : List Dr) (hl : bs.length ≤ 281474976710656) (f : FuncId) (c d : List AV) (ok : Nat → Bool)
  (hf : ∀ (i : Nat) (b : Dr), bs[i]? = some b → (∀ j, j < i → ok j = true) → FnC Tryz.prog f ([i64 i, b.av] ++ [.iptr c, .iptr d]) (bl (!ok i))) :
  FnC Tryz.prog 78 [.lst 2 (bs.map Dr.av), .fn f [.iptr c, .iptr d]] (i64 (ixI (firstB bs.length ok))) := by
 refine gF0 Tryz.func78 ?_
 refine go ?_
 refine gs (s_lenMap (.tmp rfl) T24 rfl rfl) ?_
 refine gL1 (fun (i : Nat) => (⟨[(1, some (.fn f [.iptr c, .iptr d])), (7, some (.lst 2 (bs.map Dr.av))), (8, some (i64 bs.length)), (9, some (i64 i))], []⟩ : AS)) (fun (i : Nat) => i ≤ bs.length ∧ ∀ j, j < i → ok j = true) (fun (i : Nat) => bs.length - i) 0 ⟨Nat.zero_le _, fun j h => by omega⟩ ?_
 rintro i ⟨hi, hj⟩ K1 hK1
 refine go ?_
 refine gC (fun ht10 => ?_) (fun ht10 => ?_)
 ·have hin := lss_t ht10
  obtain ⟨b, hb⟩ := getx hin
  refine go ?_
  refine gs (s_idxLst (.tmp rfl) (.tmp rfl) T24 rfl T105 rfl (by omega) (getmap hb) rfl) ?_
  refine gs (s_callV (.tmp rfl) (hf i b hb hj) (.cons (.tmp rfl) (.cons (.tmp rfl) .nil)) (by first | exact hH0 | exact hH1 rfl | exact hH2 rfl rfl) rfl rfl) ?_
  refine gC (fun ht17 => ?_) (fun ht17 => ?_)
  ·have h2 := not_t ht17
   refine go ?_
   refine gE1 ?_
   rw [firstB_at hin hj h2]; rfl
  ·have h2 := not_f ht17
   refine go ?_
   refine gs (s_arithW (.tmp rfl) (.const _) rfl (i64_add1 (by unfold maxL; omega)) rfl) ?_
   exact gK1 hK1 (i + 1) ⟨hin, fun j h9 => by rcases Nat.lt_or_ge j i with g | g; exact hj j g; (have : j = i := by omega); subst this; exact h2⟩
 ·have hin := lss_end hi ht10
  subst hin
  refine go ?_
  refine gE1 ?_
  rw [firstB_all hj]; rfl
theorem fault1_cond {a : As} (ha : AL a) (h1 : chkE a.rs = 0) {i : Nat} {b : Pl} (hbn : ∀ x ∈ b.l, NR x 4000) :
  cond (!(decide (chksE a.rs b.l = 0) && unitB (llq a.rs) b)) true (cond (icmp .eql (i : Int) 0) (!stillB a.rs b) false) = !bodyB a.rs i b := by
 unfold bodyB
 by_cases h : chksE a.rs b.l = 0
 ·have hs : stillB a.rs b = sameP (llq a.rs) b frameQ := by
   have h2 := (chks_ok h).2
   unfold stillB eqR sameP
   rw [h2 b.c (by simp [Pl.l]), h2 b.s (by simp [Pl.l]), h2 b.x (by simp [Pl.l]), h2 b.y (by simp [Pl.l])]
   rfl
  rw [hs, decide_eq_true h, Bool.true_and, Bool.true_and]
  have e : icmp .eql (i : Int) 0 = !decide (0 < i) := by
   rw [int_eqb, ← decide_not]; exact decide_eq_decide.2 (by omega)
  rw [e]
  cases unitB (llq a.rs) b <;> cases decide (0 < i) <;> cases sameP (llq a.rs) b frameQ <;> rfl
 ·rw [decide_eq_false h]; rfl
theorem c_fault1 {a : As} (ha : AL a) (h1 : chkE a.rs = 0) {i : Nat} {b : Pl} (hb : a.bs[i]? = some b) : FnC Tryz.prog 72 [i64 i, b.av, .iptr a.av.cells] (bl (!bodyB a.rs i b)) := by
 have hbn := ha.nr b (List.mem_of_getElem? hb)
 refine gF0 Tryz.func72 ?_
 refine go ?_
 refine gs (s_call (c_certify_unit ha.tr h1 hbn) (.cons (.tmp rfl) (.cons (.tmp rfl) .nil)) rfl rfl) ?_
 refine gs (s_guardO rfl rfl rfl (fun h h2 => s_call (c_certify_still ha.tr h1 hbn) (.cons (.opt rfl (o2 h h2)) (.cons (.opt rfl (o2 h h2)) .nil)) rfl rfl)) ?_
 refine gE1 ?_
 exact congrArg bl (fault1_cond ha h1 hbn)
theorem c_fault2 {l : Li} {a : As} (hg : Good l a) {i : Nat} {j : Jt} (hj : l.joints[i]? = some j) : FnC Tryz.prog 76 [i64 i, j.av, .iptr l.av.cells, .iptr a.av.cells] (bl (!jointB l a j)) := by
 refine gF0 Tryz.func76 ?_
 refine go ?_
 refine gs (s_call (c_certify_holds hg hj) (.cons (.tmp rfl) (.cons (.tmp rfl) (.cons (.tmp rfl) .nil))) rfl rfl) ?_
 refine gE1 ?_
 rfl
theorem c_fault3 {l : Li} {a : As} (hg : Good l a) {xs : List Tn} (hx : ∀ x ∈ xs, x.t.ok ∧ x.err = 0 ∧ Qb 1000 x.t.q) (hxl : xs.length = l.drivers.length) {i : Nat} {d : Dr} (hd : l.drivers[i]? = some d) :
  FnC Tryz.prog 79 [i64 i, d.av, .iptr a.av.cells, .iptr [.lst 4 (xs.map Tn.av)]] (bl (!driverB l xs a i)) := by
 have hld := hg.lo.ld
 have hin := (List.getElem?_eq_some_iff.1 hd).1
 obtain ⟨tw, hta, h5, hll⟩ := hg.tw
 have hbl := hg.al.bl
 obtain ⟨n, b, x, hq⟩ := hg.dr hx hxl hd
 obtain ⟨dname, dbody⟩ := d
 have hqn : dbody = n := hq.hn
 subst hqn
 have hqb : ({ name := dname, body := (n : Int) } : Dr).body = (n : Int) := rfl
 have hnl := (List.getElem?_eq_some_iff.1 hq.gb).1
 have hxo := hx x (List.mem_of_getElem? hq.gx)
 have ht : FnC Tryz.prog 80 [towR a.rs, b.av, x.av] (bl (turnB (llq a.rs) b x)) := by rw [hta, hq.av]; exact c_certify_turned tw hq.po hxo.1 hxo.2.1 hxo.2.2
 refine gF0 Tryz.func79 ?_
 refine go ?_
 refine gs (s_idxLst (.tmp rfl) (.tmp rfl) T31 rfl T62 rfl (by omega) (getmap hq.gb) rfl) ?_
 refine gs (s_idxLst (.tmp rfl) (.tmp rfl) T27 rfl T81 rfl (by omega) (getmap hq.gx) rfl) ?_
 refine gs (s_call ht (.cons (.tmp rfl) (.cons (.tmp rfl) (.cons (.tmp rfl) .nil))) rfl rfl) ?_
 refine gD ?_
 refine gE1 ?_
 rw [hq.eq]; rfl
theorem c_certify_fault {l : Li} (hl : l.ok) (hli : liE l = 0) (xs : List Tn) (hx : ∀ x ∈ xs, x.t.ok ∧ x.err = 0 ∧ Qb 1000 x.t.q) (hxl : xs.length = l.drivers.length) {a : As} (ha : AL a) : FnC Tryz.prog 35 [l.av, .lst 4 (xs.map Tn.av), a.av] (fltA (flt l xs a)) := by
 have hbl := ha.bl
 refine gF0 Tryz.func35 ?_
 refine go ?_ (1, 0)
 refine gW ((Wk.freezeB (k := 3) rfl rfl).trans <| (Wk.freezeB (k := 4) rfl rfl).trans <| (Wk.freezeB (k := 5) rfl rfl).trans <| Wk.o (sl := [(3, some (.iptr l.av.cells)), (4, some (.iptr [.lst 4 (xs.map Tn.av)])), (5, some (.iptr a.av.cells)), (6, some (.ptr 6 0))]) (hp := [(6, some (.box [i64 0, i64 0]))])) ?_
 refine go ?_
 refine gs (s_call (c_tower_Check a.rs 40000 ha.tr) (.cons (.tmp rfl) .nil) rfl rfl) ?_
 refine gs (s_guard rfl rfl rfl (fun h => s_lenMap (.opt rfl (o1 h)) T31 rfl rfl)) ?_
 refine gs (s_guard rfl rfl rfl (fun h => s_lenMap (.opt rfl (o1 h)) T22 rfl rfl)) ?_
 refine gC (fun ht22 => ?_) (fun ht22 => ?_)
 ·have h1 : chkE a.rs ≠ 0 ∨ a.bs.length ≠ l.bodies.length := fl2_t ht22
  refine go ?_
  refine gE1 ?_
  rw [flt_1 h1]; rfl
 ·have h1 : ¬ (chkE a.rs ≠ 0 ∨ a.bs.length ≠ l.bodies.length) := fl2_f ht22
  have hc : chkE a.rs = 0 := Decidable.not_not.1 (fun h => h1 (.inl h))
  have hln : a.bs.length = l.bodies.length := Decidable.not_not.1 (fun h => h1 (.inr h))
  refine go ?_
  refine gs (s_call (c_first_Placed a.bs (by omega) 72 a.av.cells (fun i => bodyB a.rs i (a.bs.getD i default)) (fun i b hb _ => by have h := c_fault1 ha hc hb; rw [← getD_of (d := default) hb] at h ⊢; exact h)) (.cons (.tmp rfl) (.cons (.tmp rfl) .nil)) rfl rfl) ?_
  refine gC (fun ht29 => ?_) (fun ht29 => ?_)
  ·obtain ⟨i, hi⟩ := ix_t ht29
   refine go ?_
   refine gE1 ?_
   rw [flt_2 h1 hi, hi]; rfl
  ·have f1 := ix_f ht29
   have hg := good_of hl hli ha hc hln (firstB_none f1)
   refine go ?_
   refine gs (s_call (c_first_Joint l.joints hl.lj 76 l.av.cells a.av.cells (fun i => jointB l a (l.joints.getD i default)) (fun i j hj _ => by have h := c_fault2 hg hj; rw [← getD_of (d := default) hj] at h ⊢; exact h)) (.cons (.tmp rfl) (.cons (.tmp rfl) .nil)) rfl rfl) ?_
   refine gC (fun ht37 => ?_) (fun ht37 => ?_)
   ·obtain ⟨i, hi⟩ := ix_t ht37
    refine go ?_
    refine gE1 ?_
    rw [flt_3 h1 f1 hi, hi]; rfl
   ·have f2 := ix_f ht37
    refine go ?_
    refine gs (s_call (c_first_Driver l.drivers hl.ld 79 a.av.cells [.lst 4 (xs.map Tn.av)] (driverB l xs a) (fun i d hd _ => c_fault3 hg hx hxl hd)) (.cons (.tmp rfl) (.cons (.tmp rfl) .nil)) rfl rfl) ?_
    refine gC (fun ht45 => ?_) (fun ht45 => ?_)
    ·obtain ⟨i, hi⟩ := ix_t ht45
     refine go ?_
     refine gE1 ?_
     rw [flt_4 h1 f1 f2 hi, hi]; rfl
    ·have f3 := ix_f ht45
     refine go ?_
     refine gE1 ?_
     rw [flt_0 h1 f1 f2 f3]; rfl
theorem c_certify_Verify {l : Li} (hl : l.ok) (xs : List Tn) (hx : ∀ x ∈ xs, x.t.ok ∧ Qb 1000 x.t.q) (hxl : xs.length ≤ 281474976710656) {a : As} (ha : AL a) :
  FnC Tryz.prog 9 [l.av, .lst 4 (xs.map Tn.av), a.av] (.tup [bl (decide (badE l xs = 0) && decide ((flt l xs a).1 = 0)), fltA (if badE l xs = 0 then flt l xs a else (0, 0)), errA (badE l xs)]) := by
 have hld := hl.ld
 refine gF0 Tryz.func9 ?_
 refine go ?_
 refine gs (s_call (c_model_Check l hl) (.cons (.tmp rfl) .nil) rfl rfl) ?_
 refine gC (fun ht17 => ?_) (fun ht17 => ?_)
 ·have h1 := nNil_t ht17
  have hb : badE l xs ≠ 0 := by rw [badE_li h1]; exact h1
  refine go ?_
  refine gE3 ?_
  rw [if_neg hb, decide_eq_false hb, badE_li h1]; rfl
 ·have h1 := nNil_f ht17
  refine go ?_
  refine gs (s_lenMap (.tmp rfl) T27 rfl rfl) ?_
  refine gs (s_lenMap (.tmp rfl) T24 rfl rfl) ?_
  refine gC (fun ht25 => ?_) (fun ht25 => ?_)
  ·have h2 : xs.length ≠ l.drivers.length := by have := neq_t' ht25; omega
   have hb : badE l xs ≠ 0 := by rw [badE_len h1 h2]; decide
   refine go ?_
   refine gE3 ?_
   rw [if_neg hb, decide_eq_false hb, badE_len h1 h2]; rfl
  ·have h2 : xs.length = l.drivers.length := by have := neq_f' ht25; omega
   refine go ?_
   refine gs (s_lenMap (.tmp rfl) T27 rfl rfl) ?_
   refine gL1 (fun (i : Nat) => (⟨[(1, some (.lst 4 (xs.map Tn.av))), (3, some (.ptr 3 0)), (5, some (.ptr 5 0)), (7, some (.ptr 7 0)), (28, some (.lst 4 (xs.map Tn.av))), (29, some (i64 xs.length)), (30, some (i64 i))], [(3, some (.box l.av.cells)), (5, some (.box a.av.cells)), (7, some (.box [i64 0, i64 0]))]⟩ : AS)) (fun (i : Nat) => i ≤ xs.length ∧ ∀ x ∈ xs.take i, x.err = 0) (fun (i : Nat) => xs.length - i) 0 ⟨Nat.zero_le _, fun x hx => by simp at hx⟩ ?_
   rintro i ⟨hi, hj⟩ K1 hK1
   refine go ?_
   refine gC (fun ht31 => ?_) (fun ht31 => ?_)
   ·have hin := lss_t ht31
    obtain ⟨x, hxx⟩ := getx hin
    refine go ?_
    refine gs (s_idxLst (.tmp rfl) (.tmp rfl) T27 rfl T81 rfl (by omega) (getmap hxx) rfl) ?_
    refine gs (s_call (c_turn_Check x (hx x (List.mem_of_getElem? hxx)).1) (.cons (.tmp rfl) .nil) rfl rfl) ?_
    refine gC (fun ht37 => ?_) (fun ht37 => ?_)
    ·have h3 := nNil_t ht37
     have hb : badE l xs ≠ 0 := by rw [badE_x h1 h2 hxx hj h3]; exact h3
     refine go ?_
     refine gE3 ?_
     rw [if_neg hb, decide_eq_false hb, badE_x h1 h2 hxx hj h3]; rfl
    ·have h3 := nNil_f ht37
     refine go ?_
     refine gs (s_arithW (.tmp rfl) (.const _) rfl (i64_add1 (by unfold maxL; omega)) rfl) ?_
     exact gK1 hK1 (i + 1) ⟨hin, fun y hy => by rw [take_succ_get hxx] at hy; rcases List.mem_append.1 hy with h9 | h9; exact hj y h9; (rw [List.mem_singleton.1 h9]; exact h3)⟩
   ·have hin := lss_end hi ht31
    subst hin
    rw [List.take_length] at hj
    have hb := badE_0 h1 h2 hj
    refine go ?_
    refine gs (s_call (c_certify_fault hl h1 xs (fun x h9 => ⟨(hx x h9).1, hj x h9, (hx x h9).2⟩) h2 ha) (.cons (.tmp rfl) (.cons (.tmp rfl) (.cons (.tmp rfl) .nil))) rfl rfl) ?_
    refine gs (s_eq2 (.tmp rfl) (.tmp rfl) (by kernel_rfl) rfl) ?_
    refine gD ?_
    refine gE3 ?_
    rw [hb, if_pos rfl, ver_cond]; rfl
end Go.Lw
namespace Go.Lw
open Go.Proofs
def barB (s : ByteArray) (n : Int) : Bd := ⟨s, [⟨⟨#[97]⟩, rt ((0 : Int) : Rat), rt ((0 : Int) : Rat)⟩, ⟨⟨#[98]⟩, rt (n : Rat), rt ((0 : Int) : Rat)⟩]⟩
def fb : Li := ⟨⟨#[102, 111, 117, 114, 98, 97, 114]⟩, [barB ⟨#[102, 114, 97, 109, 101]⟩ 4, barB ⟨#[99, 114, 97, 110, 107]⟩ 3, barB ⟨#[99, 111, 117, 112, 108, 101, 114]⟩ 5, barB ⟨#[114, 111, 99, 107, 101, 114]⟩ 6],
  [⟨⟨#[111]⟩, 0, 1, 0, 0, 0, 0⟩, ⟨⟨#[112]⟩, 0, 2, 0, 1, 1, 0⟩, ⟨⟨#[113]⟩, 0, 3, 0, 0, 1, 0⟩, ⟨⟨#[114]⟩, 0, 2, 1, 3, 1, 0⟩], [⟨⟨#[100]⟩, 1⟩]⟩
def t0 : Tn := ⟨⟨false, [], []⟩, false⟩
def pl0 : Pl := ⟨[rt 1], [], [], []⟩
def as0 : As := ⟨[], [pl0, pl0, pl0, pl0], []⟩
def ps0 : Pse := ⟨t0, ⟨⟨false, [], []⟩, ⟨false, [], []⟩⟩⟩
def as1 : As := ⟨[], [pl0], []⟩
theorem eqS_data (a b : ByteArray) : eqS a b = (a.data.toList == b.data.toList) := by
 unfold eqS; rw [Go.ByteArray.toList_eq, Go.ByteArray.toList_eq]
theorem fb_li : liE fb = 0 := by
 have h1 : bdsE fb = 0 := by
  unfold bdsE firstN bdE dupB mkE
  simp only [eqS_data]
  decide +kernel
 have h2 : jtsE fb = 0 := by
  unfold jtsE firstN jtE dupB
  simp only [eqS_data]
  decide +kernel
 have h3 : drsE fb = 0 := by
  unfold drsE firstN drE dupB
  simp only [eqS_data]
  decide +kernel
 unfold liE
 rw [h1, h2, h3]
 decide +kernel
theorem fb_bad : badE fb [t0] = 0 := badE_0 fb_li rfl (fun y hy => by rw [List.mem_singleton.1 hy]; decide +kernel)
theorem fb_flt : flt fb [t0] as0 = (3, 1) := by decide +kernel
theorem bar_okw {s : ByteArray} (hs : s.size ≤ 281474976710656) {n : Int} (hn : -9223372036854775808 ≤ n ∧ n ≤ 9223372036854775807) :
  (barB s n).name.size ≤ 281474976710656 ∧ (barB s n).pts.length ≤ 281474976710656 ∧ ∀ m ∈ (barB s n).pts, m.name.size ≤ 281474976710656 ∧ m.x.wok ∧ m.y.wok := by
 have h0 : (rt ((0 : Int) : Rat)).ok := (int_qs (by omega)).ok
 have h1 : (rt (n : Rat)).ok := (int_qs hn).ok
 refine ⟨hs, by show 2 ≤ _; omega, fun m hm => ?_⟩
 simp only [barB, List.mem_cons, List.not_mem_nil, or_false] at hm
 rcases hm with rfl | rfl
 ·exact ⟨by show 1 ≤ _; omega, h0.wok, h0.wok⟩
 ·exact ⟨by show 1 ≤ _; omega, h1.wok, h0.wok⟩
theorem fb_okw : fb.okw := by
 refine ⟨by decide, fun b hb => ?_, fun j hj => ?_, fun d hd => ?_, by decide, by decide, by decide⟩
 ·simp only [fb, List.mem_cons, List.not_mem_nil, or_false] at hb
  rcases hb with rfl | rfl | rfl | rfl <;> exact bar_okw (by decide) (by omega)
 ·simp only [fb, List.mem_cons, List.not_mem_nil, or_false] at hj
  rcases hj with rfl | rfl | rfl | rfl <;> decide
 ·simp only [fb, List.mem_cons, List.not_mem_nil, or_false] at hd
  rcases hd with rfl; decide
theorem fb_ok : fb.ok := li_ok (by decide +kernel) fb_okw
theorem r0_ok : (⟨false, [], []⟩ : Rt).ok := ⟨ws_nil, ws_nil, Nat.zero_le _, Nat.zero_le _⟩
theorem q0_z : (⟨false, [], []⟩ : Rt).q = 0 := Rt.zero (fun h => h.2 rfl)
theorem ps0_lok : ps0.lok := by
 have h : Qb 96 (⟨false, [], []⟩ : Rt).q := by rw [q0_z]; exact Qb.zero.mono (by omega)
 exact ⟨⟨r0_ok, r0_ok, r0_ok⟩, h, h, h⟩
theorem rt1_ok : (rt 1).ok := (int_qs (n := 1) (by omega)).ok
theorem pl0_rs : RsOk pl0.l := by
 intro x hx
 simp only [Pl.l, pl0, List.mem_cons, List.not_mem_nil, or_false] at hx
 rcases hx with rfl | rfl | rfl | rfl
 ·exact ⟨fun r hr => by rw [List.mem_singleton.1 hr]; exact rt1_ok.wok, by show 1 ≤ _; omega⟩
 ·exact ⟨fun r hr => (by cases hr), (by show 0 ≤ _; omega)⟩
 ·exact ⟨fun r hr => (by cases hr), (by show 0 ≤ _; omega)⟩
 ·exact ⟨fun r hr => (by cases hr), (by show 0 ≤ _; omega)⟩
theorem as0_al : AL as0 := as_al (by decide +kernel) ⟨rs_nil, by decide, fun b hb => by simp only [as0, List.mem_cons, List.not_mem_nil, or_false] at hb; rcases hb with rfl | rfl | rfl | rfl <;> exact pl0_rs, by decide⟩
theorem as1_al : AL as1 := as_al (by decide +kernel) ⟨rs_nil, by decide, fun b hb => by simp only [as1, List.mem_cons, List.not_mem_nil, or_false] at hb; rcases hb with rfl; exact pl0_rs, by decide⟩
theorem mE0 : mE as1 [ps0] = 0 := by decide +kernel
theorem mB0 : mB as1 [ps0] = true := by decide +kernel
theorem ofE0 : ofE [ps0] = 0 := by decide +kernel
theorem ofL0 : asA (ofL [ps0]) = as1.av := by
 have h : ofL [ps0] = [posed ps0] := rfl
 have c1 : cosQ false 0 = 1 := by decide +kernel
 have s1 : sinQ false 0 = 0 := by decide +kernel
 have h2 : posed ps0 = ⟨[1], [], [], []⟩ := by
  show (⟨sh 0 (cosQ false (⟨false, [], []⟩ : Rt).q : Rat), sh 0 (sinQ false (⟨false, [], []⟩ : Rt).q : Rat), sh 0 ((⟨false, [], []⟩ : Rt).q : Rat), sh 0 ((⟨false, [], []⟩ : Rt).q : Rat)⟩ : Pq) = _
  rw [q0_z, c1, s1]; rfl
 rw [h, h2]; rfl
theorem CellsSub.ofL {l l' : List AV} (h : SubL l l') (ho : l'.all AV.one = true) : CellsSub (.agg l) (.agg l') :=
 ⟨h.len, fun j x y hx hy => ⟨List.all_eq_true.1 ho y (List.mem_of_getElem? hy), h.get j x y hx hy⟩⟩
theorem Sub.lst1 {sz : Nat} {e e' : AV} (h : CellsSub e e') : Sub (.lst sz [e]) (.lst sz [e']) := by
 refine Sub.lst rfl (fun i x y hx hy => ?_)
 match i, hx, hy with
 | 0, hx, hy => cases hx; cases hy; exact h
theorem sub_nb : Sub (.v (.bool false)) (bl false) := .refl _
theorem sub_nw : Sub (.v (.slice none 0 0)) (ws []) := .nil _ _ _
theorem sub_ps0 : CellsSub (.agg [.v (.bool false), .v (.slice none 0 0), .v (.slice none 0 0), .v (.bool false), .v (.bool false), .v (.slice none 0 0), .v (.slice none 0 0), .v (.bool false), .v (.slice none 0 0), .v (.slice none 0 0)]) ps0.av :=
 .ofL (.cons sub_nb (.cons sub_nw (.cons sub_nw (.cons sub_nb (.cons sub_nb (.cons sub_nw (.cons sub_nw (.cons sub_nb (.cons sub_nw (.cons sub_nw .nil)))))))))) rfl
theorem sub_t0 : CellsSub (.agg [.v (.bool false), .v (.slice none 0 0), .v (.slice none 0 0), .v (.bool false)]) t0.av :=
 .ofL (.cons sub_nb (.cons sub_nw (.cons sub_nw (.cons sub_nb .nil)))) rfl
theorem c_l25_place (s : ByteArray) (x y : Int) (hx : -9223372036854775808 ≤ x ∧ x ≤ 9223372036854775807) (hy : -9223372036854775808 ≤ y ∧ y ≤ 9223372036854775807) : FnC Tryz.prog 116 [.v (.string s), i64 x, i64 y] (Mk.av ⟨s, rt (x : Rat), rt (y : Rat)⟩) := by
 refine gF0 Tryz.func116 ?_
 refine go ?_
 refine gs (s_call (c_r02_Of x hx) (.cons (.tmp rfl) .nil) rfl rfl) ?_
 refine gs (s_call (c_r02_Of y hy) (.cons (.tmp rfl) .nil) rfl rfl) ?_
 refine gE1 ?_
 first | rfl | (simp; done)
theorem c_l25_bar (s : ByteArray) (n : Int) (hn : -9223372036854775808 ≤ n ∧ n ≤ 9223372036854775807) : FnC Tryz.prog 57 [.v (.string s), i64 n] (barB s n).av := by
 refine gF0 Tryz.func57 ?_
 refine go ?_
 refine gs (s_call (c_l25_place _ 0 0 (by omega) (by omega)) (.cons (.const _) (.cons (.const _) (.cons (.const _) .nil))) rfl rfl) ?_
 refine gs (s_call (c_l25_place _ n 0 hn (by omega)) (.cons (.const _) (.cons (.tmp rfl) (.cons (.const _) .nil))) rfl rfl) ?_
 refine gE1 ?_
 first | rfl | (simp; done)
theorem c_l25_FourBar : FnC Tryz.prog 27 [] fb.av := by
 refine gF0 Tryz.func27 ?_
 refine go ?_
 refine gs (s_call (c_l25_bar _ 4 (by omega)) (.cons (.const _) (.cons (.const _) .nil)) rfl rfl) ?_
 refine gs (s_call (c_l25_bar _ 3 (by omega)) (.cons (.const _) (.cons (.const _) .nil)) rfl rfl) ?_
 refine gs (s_call (c_l25_bar _ 5 (by omega)) (.cons (.const _) (.cons (.const _) .nil)) rfl rfl) ?_
 refine gs (s_call (c_l25_bar _ 6 (by omega)) (.cons (.const _) (.cons (.const _) .nil)) rfl rfl) ?_
 refine gE1 ?_
 first | rfl | (simp; done)
theorem c_l28_awake : FnC Tryz.prog 6 [] (bl true) := by
 have hv := c_certify_Verify fb_ok [t0] (fun x hx => by rw [List.mem_singleton.1 hx]; exact ⟨r0_ok, by show Qb 1000 (⟨false, [], []⟩ : Rt).q; rw [q0_z]; exact Qb.zero.mono (by omega)⟩) (by decide) as0_al
 rw [fb_bad, if_pos rfl, fb_flt] at hv
 have ho := c_certify_Of [ps0] (fun p hp => by rw [List.mem_singleton.1 hp]; exact ps0_lok) (by decide)
 rw [ofE0, ofL0] at ho
 have hm := c_certify_Matches as1 as1_al [ps0] (fun p hp => by rw [List.mem_singleton.1 hp]; exact ps0_lok) (by decide)
 rw [mE0, mB0] at hm
 have sp : Sub (.lst 10 [.agg [.v (.bool false), .v (.slice none 0 0), .v (.slice none 0 0), .v (.bool false), .v (.bool false), .v (.slice none 0 0), .v (.slice none 0 0), .v (.bool false), .v (.slice none 0 0), .v (.slice none 0 0)]]) (.lst 10 ([ps0].map Pse.av)) := Sub.lst1 sub_ps0
 have st : Sub (.lst 4 [.agg [.v (.bool false), .v (.slice none 0 0), .v (.slice none 0 0), .v (.bool false)]]) (.lst 4 ([t0].map Tn.av)) := Sub.lst1 sub_t0
 refine gF0 Tryz.func6 ?_
 refine go ?_
 refine gs (s_call c_r26_Frame .nil rfl rfl) ?_
 refine gs (s_call c_l25_FourBar .nil rfl rfl) ?_
 refine gs (s_call (Con.subA (.cons (.refl _) (.cons st (.cons (.agg (.cons (.nil _ _ _) (.cons (.refl _) (.cons (.nil _ _ _) .nil))) rfl) .nil))) hv) (.cons (.tmp rfl) (.cons (.tmp rfl) (.cons (.tmp rfl) .nil))) rfl rfl) ?_
 refine gD ?_
 refine gs (s_call (Con.subA (.cons sp .nil) ho) (.cons (.tmp rfl) .nil) rfl rfl) ?_
 refine gs (s_call (Con.subA (.cons (.refl _) (.cons sp .nil)) hm) (.cons (.tmp rfl) (.cons (.tmp rfl) .nil)) rfl rfl) ?_
 refine gs (s_guard rfl rfl rfl (fun h => s_eq2 (.opt rfl (o1 h)) (.opt rfl (o1 h)) (by kernel_rfl) rfl)) ?_
 refine gE1 ?_
 rfl
end Go.Lw
namespace Go.Lw
structure Gr where
  kind : Int
  bodies : List Int
  joints : List Int
  driver : Int
instance : Inhabited Gr := ⟨⟨0, [], [], 0⟩⟩
def Gr.av (g : Gr) : AV := .agg [i64 g.kind, .lst 1 (g.bodies.map i64), .lst 1 (g.joints.map i64), i64 g.driver]
/-- Whether a body is marked. -/
def kn (k : List Bool) (i : Int) : Bool := k.getD i.toNat false
def onlyK (n : Nat) (b : Int) : List Bool := (List.replicate n false).set b.toNat true
def drivenB (l : Li) (b : Int) : Bool := l.drivers.any (fun d => decide (d.body = b))
def freeB (l : Li) (known : List Bool) (b : Int) : Bool := !kn known b && !drivenB l b
def jHit (kind body : Int) (oth : List Bool) (j : Jt) : Bool := decide (j.kind = kind) && (decide (j.a = body) && kn oth j.b || decide (j.b = body) && kn oth j.a)
def jointI (l : Li) (kind body : Int) (oth : List Bool) : Int := ixI (firstB l.joints.length (fun i => !jHit kind body oth (l.joints.getD i default)))
def drHit (l : Li) (known : List Bool) (i : Nat) : Bool := !kn known (l.drivers.getD i default).body && decide (0 ≤ jointI l 0 (l.drivers.getD i default).body known)
def driverG (l : Li) (known : List Bool) : Option Gr :=
  (firstB l.drivers.length (fun i => !drHit l known i)).map fun i => ⟨0, [(l.drivers.getD i default).body], [jointI l 0 (l.drivers.getD i default).body known], i⟩
def prHit (l : Li) (known : List Bool) (i k : Nat) : Bool :=
  (freeB l known i && freeB l known k) && (decide (0 ≤ jointI l 0 i known) && decide (0 ≤ jointI l 0 k known) && decide (0 ≤ jointI l 0 i (onlyK l.bodies.length k)))
/-- The first partner behind a body. -/
def prAt (l : Li) (known : List Bool) (i : Nat) : Option Nat := (firstB (l.bodies.length - (i + 1)) (fun k => !prHit l known i (i + 1 + k))).map (· + (i + 1))
def prG (l : Li) (known : List Bool) (i k : Nat) : Gr := ⟨1, [i, k], [jointI l 0 i known, jointI l 0 k known, jointI l 0 i (onlyK l.bodies.length k)], 0⟩
def pairG (l : Li) (known : List Bool) : Option Gr :=
  (firstB l.bodies.length (fun i => (prAt l known i).isNone)).map fun i => match prAt l known i with
    | some k => prG l known i k
    | none => default
def sgHit (l : Li) (known : List Bool) (i : Nat) : Bool := freeB l known i && (decide (0 ≤ jointI l 0 i known) && decide (0 ≤ jointI l 1 i known))
def sgG (l : Li) (known : List Bool) (i : Nat) : Gr :=
  ⟨if (l.joints.getD (jointI l 1 i known).toNat default).a = i then 2 else 3, [i], [jointI l 0 i known, jointI l 1 i known], 0⟩
def singleG (l : Li) (known : List Bool) : Option Gr := (firstB l.bodies.length (fun i => !sgHit l known i)).map (sgG l known)
def nextG (l : Li) (known : List Bool) : Option Gr := (driverG l known).or ((pairG l known).or (singleG l known))
def markAll (known : List Bool) (bs : List Int) : List Bool := bs.foldl (fun k b => k.set b.toNat true) known
def findFrom (l : Li) : Nat → List Bool → List Gr → List Bool × List Gr
  | 0, known, out => (known, out)
  | n + 1, known, out => match nextG l known with
    | none => (known, out)
    | some g => findFrom l n (markAll known g.bodies) (out ++ [g])
def findG (l : Li) : List Gr := (findFrom l l.bodies.length (onlyK l.bodies.length 0) []).2
def restK (l : Li) : List Bool := (findG l).foldl (fun k g => markAll k g.bodies) (onlyK l.bodies.length 0)
def restJ (l : Li) : List Bool := (findG l).foldl (fun k g => markAll k g.joints) (List.replicate l.joints.length false)
def unmarked (k : List Bool) : List Int := ((List.range k.length).filter (fun i => !k.getD i false)).map (fun i : Nat => ((i : Nat) : Int))
def splitE (l : Li) : Nat := if (unmarked (restK l)).length + (unmarked (restJ l)).length = 0 then 0 else 7
def splitG (l : Li) : List Gr := if splitE l = 0 then findG l else []
theorem jhit_cond {kind body : Int} {oth : List Bool} {j : Jt} {va vb : Bool} (ea : kn oth j.a = va) (eb : kn oth j.b = vb) :
    cond (icmp .eql j.kind kind) (cond (cond (icmp .eql j.a body) vb false) true (cond (icmp .eql j.b body) va false)) false = jHit kind body oth j := by
  unfold jHit
  rw [int_eqb, int_eqb, int_eqb, ea, eb, and_cond, and_cond, and_cond, or_cond]
/-! ### Sizes -/
theorem len_only (n : Nat) (b : Int) : (onlyK n b).length = n := by unfold onlyK; simp
theorem len_mark : ∀ (bs : List Int) (k : List Bool), (markAll k bs).length = k.length
  | [], k => rfl
  | b :: bs, k => by
    show (markAll (k.set b.toNat true) bs).length = _
    rw [len_mark bs]; simp
theorem firstB_some {n i : Nat} {ok : Nat → Bool} (h : firstB n ok = some i) : i < n ∧ ok i = false := by
  unfold firstB at h
  rw [List.find?_range_eq_some] at h
  exact ⟨by simpa using h.2.1, by simpa using h.1⟩
theorem jointI_lt {l : Li} {kind body : Int} {oth : List Bool} : -1 ≤ jointI l kind body oth ∧ jointI l kind body oth < l.joints.length := by
  unfold jointI
  cases h : firstB l.joints.length (fun i => !jHit kind body oth (l.joints.getD i default)) with
  | none => exact ⟨by decide, by show (-1 : Int) < _; omega⟩
  | some i => have := (firstB_some h).1; exact ⟨by show (-1 : Int) ≤ (i : Int); omega, by show (i : Int) < _; omega⟩
/-- The bodies and joints of a group that is found are there. -/
structure GrOk (l : Li) (g : Gr) : Prop where
  b : ∀ x ∈ g.bodies, 0 ≤ x ∧ x < l.bodies.length
  j : ∀ x ∈ g.joints, 0 ≤ x ∧ x < l.joints.length
  lb : g.bodies.length ≤ 2
  lj : g.joints.length ≤ 3
theorem driverG_ok {l : Li} (hl : liE l = 0) {known : List Bool} {g : Gr} (h : driverG l known = some g) : GrOk l g := by
  unfold driverG at h
  rw [Option.map_eq_some_iff] at h
  obtain ⟨i, hi, rfl⟩ := h
  obtain ⟨h1, h2⟩ := firstB_some hi
  obtain ⟨d, hd⟩ := getx h1
  have h3 := inB_t (dr_in hl hd)
  unfold drHit at h2
  simp only [Bool.not_eq_false', Bool.and_eq_true, decide_eq_true_eq] at h2
  rw [getD_of hd] at h2 ⊢
  have h4 := jointI_lt (l := l) (kind := 0) (body := d.body) (oth := known)
  refine ⟨fun x hx => ?_, fun x hx => ?_, by simp, by simp⟩
  · rw [List.mem_singleton.1 hx]; exact h3
  · rw [List.mem_singleton.1 hx]; exact ⟨h2.2, h4.2⟩
theorem pairG_ok {l : Li} {known : List Bool} {g : Gr} (h : pairG l known = some g) : GrOk l g := by
  unfold pairG at h
  rw [Option.map_eq_some_iff] at h
  obtain ⟨i, hi, h⟩ := h
  obtain ⟨h1, h2⟩ := firstB_some hi
  split at h
  · rename_i k hk
    subst h
    unfold prAt at hk
    rw [Option.map_eq_some_iff] at hk
    obtain ⟨k', hk', rfl⟩ := hk
    obtain ⟨h3, h4⟩ := firstB_some hk'
    rw [show i + 1 + k' = k' + (i + 1) by omega] at h4
    unfold prHit at h4
    simp only [Bool.not_eq_false', Bool.and_eq_true, decide_eq_true_eq] at h4
    obtain ⟨_, ⟨j1, j2⟩, j3⟩ := h4
    refine ⟨fun x hx => ?_, fun x hx => ?_, by simp [prG], by simp [prG]⟩
    · simp only [prG, List.mem_cons, List.not_mem_nil, or_false] at hx
      rcases hx with rfl | rfl <;> constructor <;> omega
    · simp only [prG, List.mem_cons, List.not_mem_nil, or_false] at hx
      rcases hx with rfl | rfl | rfl
      · exact ⟨j1, jointI_lt.2⟩
      · exact ⟨j2, jointI_lt.2⟩
      · exact ⟨j3, jointI_lt.2⟩
  · rename_i hk; rw [hk] at h2; cases h2
theorem singleG_ok {l : Li} {known : List Bool} {g : Gr} (h : singleG l known = some g) : GrOk l g := by
  unfold singleG at h
  rw [Option.map_eq_some_iff] at h
  obtain ⟨i, hi, rfl⟩ := h
  obtain ⟨h1, h2⟩ := firstB_some hi
  unfold sgHit at h2
  simp only [Bool.not_eq_false', Bool.and_eq_true, decide_eq_true_eq] at h2
  obtain ⟨_, j1, j2⟩ := h2
  refine ⟨fun x hx => ?_, fun x hx => ?_, by simp [sgG], by simp [sgG]⟩
  · simp only [sgG, List.mem_cons, List.not_mem_nil, or_false] at hx
    subst hx; constructor <;> omega
  · simp only [sgG, List.mem_cons, List.not_mem_nil, or_false] at hx
    rcases hx with rfl | rfl
    · exact ⟨j1, jointI_lt.2⟩
    · exact ⟨j2, jointI_lt.2⟩
theorem nextG_ok {l : Li} (hl : liE l = 0) {known : List Bool} {g : Gr} (h : nextG l known = some g) : GrOk l g := by
  unfold nextG at h
  cases h1 : driverG l known with
  | some g' => rw [h1] at h; cases h; exact driverG_ok hl h1
  | none =>
    rw [h1] at h
    cases h2 : pairG l known with
    | some g' => rw [h2] at h; cases h; exact pairG_ok h2
    | none => rw [h2] at h; exact singleG_ok h
theorem findFrom_ok {l : Li} (hl : liE l = 0) : ∀ (n : Nat) (known : List Bool) (out : List Gr), (∀ g ∈ out, GrOk l g) → (∀ g ∈ (findFrom l n known out).2, GrOk l g) ∧ (findFrom l n known out).2.length ≤ out.length + n
  | 0, known, out, h => ⟨h, by simp [findFrom]⟩
  | n + 1, known, out, h => by
    unfold findFrom
    cases hg : nextG l known with
    | none => exact ⟨h, by simp⟩
    | some g =>
      have h1 := findFrom_ok hl n (markAll known g.bodies) (out ++ [g]) (fun x hx => by
        rcases List.mem_append.1 hx with hx | hx
        · exact h x hx
        · rw [List.mem_singleton.1 hx]; exact nextG_ok hl hg)
      refine ⟨h1.1, ?_⟩
      have := h1.2
      rw [List.length_append] at this
      show (findFrom l n (markAll known g.bodies) (out ++ [g])).2.length ≤ _
      simp only [List.length_cons, List.length_nil] at this
      omega
theorem findG_ok {l : Li} (hl : liE l = 0) : (∀ g ∈ findG l, GrOk l g) ∧ (findG l).length ≤ 8 := by
  have h := findFrom_ok hl l.bodies.length (onlyK l.bodies.length 0) [] (fun g hg => by cases hg)
  have h8 := (li_parts hl).2.2.2.1
  exact ⟨h.1, by have := h.2; simp only [List.length_nil] at this; unfold findG; omega⟩
end Go.Lw
namespace Go.Lw
open Go.Proofs
theorem c_r25_onlyO (d : Nat) (hd : Nat.blt d 1000 = true) (l : Li) (hl : l.bodies.length ≤ 1000) (b : Nat) (hb : b < l.bodies.length) :
  Con Tryz.prog 121 [l.av, i64 b] [] (.ms d 1 0 l.bodies.length) [(d, some (.row 1 ((onlyK l.bodies.length b).map bl)))] := by
 refine gF Tryz.func121 (fun k z h => by cases h) ?_
 refine go ?_
 refine gs (s_lenMap (.tmp rfl) T22 rfl rfl) ?_
 refine gs (s_make (.tmp rfl) T180 rfl T4 rfl rfl (by omega) (by dsimp only; omega) rfl) ?_
 refine gs (s_idxMs (.tmp rfl) (.tmp rfl) T180 rfl T4 rfl (by omega) (by omega) rfl) ?_
 refine gs (s_stElem (.tmp rfl) rfl (by rw [List.getElem?_replicate, if_pos (by simp; omega)]) rfl (.const _) rfl rfl T4 rfl rfl) ?_ (3, 0)
 refine gW (Wk.of (sl := [(5, some (.ms 9 1 0 l.bodies.length))]) (hp := [(9, some (.row 1 ((onlyK l.bodies.length b).map bl)))]) (.cons rfl (Sub.of (by rw [Int.toNat_natCast])) .nil) (.cons rfl (BlkSub.of (by unfold onlyK; simp only [List.map_set, List.map_replicate, Nat.zero_add, Int.toNat_natCast]; rfl)) .nil)) ?_
 refine gW (Wk.rekey (k := 9) (d := 900) rfl rfl) ?_
 refine go ?_
 refine gR ?_
 exact Fin.own1 rfl hd rfl
theorem c_r25_only (l : Li) (hl : l.bodies.length ≤ 1000) (b : Nat) (hb : b < l.bodies.length) : FnC Tryz.prog 121 [l.av, i64 b] (.lst 1 ((onlyK l.bodies.length b).map bl)) := by
 have h := Con.freeze (by rw [List.length_map, len_only]; omega) (c_r25_onlyO 0 rfl l hl b hb)
 rw [List.drop_zero, List.take_of_length_le (by rw [List.length_map, len_only]; exact Nat.le_refl _)] at h
 exact h
theorem c_r25_driven (l : Li) (hl : l.ok) (b : Int) : FnC Tryz.prog 217 [l.av, i64 b] (bl (drivenB l b)) := by
 have hld := hl.ld
 refine gF0 Tryz.func217 ?_
 refine go ?_
 refine gs (s_lenMap (.tmp rfl) T24 rfl rfl) ?_
 refine gL1 (fun (i : Nat) => (⟨[(1, some (i64 b)), (8, some (.lst 2 (l.drivers.map Dr.av))), (9, some (i64 l.drivers.length)), (10, some (i64 i))], []⟩ : AS)) (fun (i : Nat) => i ≤ l.drivers.length ∧ (l.drivers.take i).any (fun d => decide (d.body = b)) = false) (fun (i : Nat) => l.drivers.length - i) 0 ⟨Nat.zero_le _, rfl⟩ ?_
 rintro i ⟨hi, hj⟩ K1 hK1
 refine go ?_
 refine gC (fun ht11 => ?_) (fun ht11 => ?_)
 ·have hin := lss_t ht11
  obtain ⟨d, hd⟩ := getx hin
  refine go ?_
  refine gs (s_idxLst (.tmp rfl) (.tmp rfl) T24 rfl T105 rfl (by omega) (getmap hd) rfl) ?_
  refine gC (fun ht17 => ?_) (fun ht17 => ?_)
  ·have h1 : d.body = b := eql_t ht17
   refine go ?_
   refine gE1 ?_
   unfold drivenB; rw [List.any_eq_true.2 ⟨d, List.mem_of_getElem? hd, decide_eq_true h1⟩]; rfl
  ·have h1 : d.body ≠ b := eql_f ht17
   refine go ?_
   refine gs (s_arithW (.tmp rfl) (.const _) rfl (i64_add1 (by unfold maxL; omega)) rfl) ?_
   exact gK1 hK1 (i + 1) ⟨hin, any_step hd hj (decide_eq_false h1)⟩
 ·have hin := lss_end hi ht11
  subst hin
  rw [List.take_length] at hj
  refine go ?_
  refine gE1 ?_
  unfold drivenB; rw [hj]; rfl
theorem c_r25_joint (l : Li) (hl : l.ok) (hli : liE l = 0) (kind body : Int) (oth : List Bool) (ho : oth.length = l.bodies.length) : FnC Tryz.prog 178 [l.av, i64 kind, i64 body, .lst 1 (oth.map bl)] (i64 (jointI l kind body oth)) := by
 have hlj := hl.lj
 refine gF0 Tryz.func178 ?_
 refine go ?_
 refine gs (s_lenMap (.tmp rfl) T23 rfl rfl) ?_
 refine gL1 (fun (i : Nat) => (⟨[(1, some (i64 kind)), (2, some (i64 body)), (3, some (.lst 1 (oth.map bl))), (12, some (.lst 7 (l.joints.map Jt.av))), (13, some (i64 l.joints.length)), (14, some (i64 i))], []⟩ : AS)) (fun (i : Nat) => i ≤ l.joints.length ∧ ∀ j, j < i → (!jHit kind body oth (l.joints.getD j default)) = true) (fun (i : Nat) => l.joints.length - i) 0 ⟨Nat.zero_le _, fun j h => by omega⟩ ?_
 rintro i ⟨hi, hj⟩ K1 hK1
 refine go ?_
 refine gC (fun ht15 => ?_) (fun ht15 => ?_)
 ·have hin := lss_t ht15
  obtain ⟨j, hjt⟩ := getx hin
  have hjd : l.joints.getD i default = j := getD_of hjt
  obtain ⟨i1, i2, _⟩ := jt_in hli hjt
  have b1 := inB_t i1
  have b2 := inB_t i2
  obtain ⟨va, hva⟩ : ∃ v, oth[j.a.toNat]? = some v := getx (by omega)
  obtain ⟨vb, hvb⟩ : ∃ v, oth[j.b.toNat]? = some v := getx (by omega)
  have ea : kn oth j.a = va := getD_of hva
  have eb : kn oth j.b = vb := getD_of hvb
  refine go ?_
  refine gs (s_idxLst (.tmp rfl) (.tmp rfl) T23 rfl T76 rfl (by omega) (getmap hjt) rfl) ?_
  refine gs (s_guardO rfl rfl rfl (fun h h2 => s_idxLst (.opt rfl (o2 h h2)) (.opt rfl (o2 h h2)) T180 rfl T4 rfl (by omega) (getzx (n := j.b.toNat) (by omega) hvb) rfl)) ?_
  refine gs (s_guardO rfl rfl rfl (fun h h2 => s_idxLst (.opt rfl (o2 h h2)) (.opt rfl (o2 h h2)) T180 rfl T4 rfl (by omega) (getzx (n := j.a.toNat) (by omega) hva) rfl)) ?_
  refine gC (fun ht48 => ?_) (fun ht48 => ?_)
  ·have h2 : jHit kind body oth j = true := by rw [← jhit_cond (va := va) (vb := vb) ea eb]; exact ht48
   refine go ?_
   refine gE1 ?_
   unfold jointI; rw [firstB_at hin hj (by rw [hjd, h2]; rfl)]; rfl
  ·have h2 : jHit kind body oth j = false := by rw [← jhit_cond (va := va) (vb := vb) ea eb]; exact ht48
   refine go ?_
   refine gs (s_arithW (.tmp rfl) (.const _) rfl (i64_add1 (by unfold maxL; omega)) rfl) ?_
   exact gK1 hK1 (i + 1) ⟨hin, fun k h9 => by rcases Nat.lt_or_ge k i with g | g; exact hj k g; (have : k = i := by omega); subst this; rw [hjd, h2]; rfl⟩
 ·have hin := lss_end hi ht15
  subst hin
  refine go ?_
  refine gE1 ?_
  unfold jointI; rw [firstB_all hj]; rfl
theorem c_r25_free (l : Li) (hl : l.ok) (known : List Bool) (b : Nat) (hb : b < known.length) : FnC Tryz.prog 179 [l.av, .lst 1 (known.map bl), i64 b] (bl (freeB l known b)) := by
 obtain ⟨v, hv⟩ := getx hb
 have ev : kn known (b : Int) = v := getD_of (by rw [Int.toNat_natCast]; exact hv)
 refine gF0 Tryz.func179 ?_
 refine go ?_
 refine gs (s_idxLst (.tmp rfl) (.tmp rfl) T180 rfl T4 rfl (by omega) (getmap hv) rfl) ?_
 refine gs (s_guard rfl rfl rfl (fun h => s_call (c_r25_driven l hl b) (.cons (.opt rfl (o1 h)) (.cons (.opt rfl (o1 h)) .nil)) rfl rfl)) ?_
 refine gE1 ?_
 unfold freeB; rw [ev]; exact congrArg bl (and_cond _ _)
end Go.Lw
namespace Go.Lw
open Go.Proofs
theorem sub_gr0 : Sub (.agg [.v (.int .i64 0), .v (.slice none 0 0), .v (.slice none 0 0), .v (.int .i64 0)]) (Gr.av default) := .agg (.cons (.refl _) (.cons (.nil _ _ _) (.cons (.nil _ _ _) (.cons (.refl _) .nil)))) rfl
theorem geq_t {z : Int} (h : icmp .geq z 0 = true) : 0 ≤ z := of_decide_eq_true h
theorem geq_f {z : Int} (h : icmp .geq z 0 = false) : ¬ 0 ≤ z := of_decide_eq_false h
theorem three_b {a b c : Int} : cond (cond (icmp .geq a 0) (icmp .geq b 0) false) (icmp .geq c 0) false = (decide (0 ≤ a) && decide (0 ≤ b) && decide (0 ≤ c)) := by
 have e : ∀ z : Int, icmp .geq z 0 = decide (0 ≤ z) := fun z => rfl
 rw [e, e, e, and_cond, and_cond]
theorem two_b {a b : Int} : cond (icmp .lss a 0) true (icmp .lss b 0) = !(decide (0 ≤ a) && decide (0 ≤ b)) := by
 have e : ∀ z : Int, icmp .lss z 0 = !decide (0 ≤ z) := fun z => by rw [← decide_not]; exact decide_eq_decide.2 (by omega)
 rw [e, e, or_cond, Bool.not_and]
theorem two_t {a b : Int} (h : cond (icmp .lss a 0) true (icmp .lss b 0) = true) : (decide (0 ≤ a) && decide (0 ≤ b)) = false := by rw [two_b] at h; exact not_t h
theorem two_f {a b : Int} (h : cond (icmp .lss a 0) true (icmp .lss b 0) = false) : 0 ≤ a ∧ 0 ≤ b := by
 rw [two_b] at h
 have := not_f h
 simpa using this
theorem borJ {l : Li} {known : List Bool} (hl : l.ok) (hli : liE l = 0) (kind body : Int) (hk : known.length = l.bodies.length) :
  Con Tryz.prog 178 [l.av, i64 kind, i64 body, .ms 1000 1 0 known.length] [(1000, some (.row 1 (known.map bl)))] (i64 (jointI l kind body known)) [(1000, some (.row 1 (known.map bl)))] := by
 refine Con.borrow (args := [l.av, i64 kind, i64 body, .lst 1 (known.map bl)]) 1000 1 (known.map bl) rfl rfl rfl ?_ rfl (fun k' x h => by cases h) (c_r25_joint l hl hli kind body known hk)
 intro j x' hj
 match j, hj with
 | 0, hj => cases hj; exact .inl rfl
 | 1, hj => cases hj; exact .inl rfl
 | 2, hj => cases hj; exact .inl rfl
 | 3, hj => cases hj; exact .inr ⟨0, known.length, rfl, by simp, by rw [List.drop_zero, List.take_of_length_le (by simp)]; rfl⟩
theorem borF {l : Li} {known : List Bool} (hl : l.ok) (b : Nat) (hb : b < known.length) :
  Con Tryz.prog 179 [l.av, .ms 1000 1 0 known.length, i64 b] [(1000, some (.row 1 (known.map bl)))] (bl (freeB l known b)) [(1000, some (.row 1 (known.map bl)))] := by
 refine Con.borrow (args := [l.av, .lst 1 (known.map bl), i64 b]) 1000 1 (known.map bl) rfl rfl rfl ?_ rfl (fun k' x h => by cases h) (c_r25_free l hl known b hb)
 intro j x' hj
 match j, hj with
 | 0, hj => cases hj; exact .inl rfl
 | 1, hj => cases hj; exact .inr ⟨0, known.length, rfl, by simp, by rw [List.drop_zero, List.take_of_length_le (by simp)]; rfl⟩
 | 2, hj => cases hj; exact .inl rfl
theorem c_r25_driver (l : Li) (hl : l.ok) (hli : liE l = 0) (known : List Bool) (hk : known.length = l.bodies.length) : Con Tryz.prog 122 [l.av, .ms 1000 1 0 known.length] [(1000, some (.row 1 (known.map bl)))] (.tup [((driverG l known).getD default).av, bl (driverG l known).isSome]) [(1000, some (.row 1 (known.map bl)))] := by
 have hld := hl.ld
 refine gF Tryz.func122 (fun k z h => lk1000 h) ?_
 refine go ?_
 refine gs (s_lenMap (.tmp rfl) T24 rfl rfl) ?_
 refine gL1 (fun (i : Nat) => (⟨[(1, some (.ms 1000 1 0 known.length)), (2, some (.ptr 2 0)), (4, some (.ptr 4 0)), (10, some (.lst 2 (l.drivers.map Dr.av))), (11, some (i64 l.drivers.length)), (12, some (i64 i))], [(2, some (.box l.av.cells)), (4, some (.box [i64 0, .v (.slice none 0 0), .v (.slice none 0 0), i64 0])), (1000, some (.row 1 (known.map bl)))]⟩ : AS)) (fun (i : Nat) => i ≤ l.drivers.length ∧ ∀ j, j < i → (!drHit l known j) = true) (fun (i : Nat) => l.drivers.length - i) 0 ⟨Nat.zero_le _, fun j h => by omega⟩ ?_
 rintro i ⟨hi, hj⟩ K1 hK1
 refine go ?_
 refine gC (fun ht13 => ?_) (fun ht13 => ?_)
 ·have hin := lss_t ht13
  obtain ⟨d, hd⟩ := getx hin
  have hdd : l.drivers.getD i default = d := getD_of hd
  have hb := inB_t (dr_in hli hd)
  obtain ⟨v, hv⟩ : ∃ v, known[d.body.toNat]? = some v := getx (by omega)
  have ev : kn known d.body = v := getD_of hv
  refine go ?_
  refine gs (s_idxLst (.tmp rfl) (.tmp rfl) T24 rfl T105 rfl (by omega) (getmap hd) rfl) ?_
  refine gs (s_idxMs (.tmp rfl) (.tmp rfl) T180 rfl T4 rfl (by omega) (by omega) rfl) ?_
  refine gs (s_loadEptr (.tmp rfl) rfl (by rw [Nat.zero_add, List.getElem?_map, hv]; rfl) T4 rfl rfl rfl) ?_
  refine gC (fun ht21 => ?_) (fun ht21 => ?_)
  ·have h2 : drHit l known i = false := by unfold drHit; rw [hdd, ev, ht21]; rfl
   refine go ?_
   refine gs (s_arithW (.tmp rfl) (.const _) rfl (i64_add1 (by unfold maxL; omega)) rfl) ?_
   exact gK1 hK1 (i + 1) ⟨hin, fun k h9 => by rcases Nat.lt_or_ge k i with g | g; exact hj k g; (have : k = i := by omega); subst this; rw [h2]; rfl⟩
  ·have hv0 : v = false := ht21
   refine go ?_
   refine gs (s_callR (borJ hl hli 0 d.body hk) (.cons (.tmp rfl) (.cons (.const _) (.cons (.tmp rfl) (.cons (.tmp rfl) .nil)))) rfl rfl rfl) ?_
   refine gC (fun ht28 => ?_) (fun ht28 => ?_)
   ·have h2 : drHit l known i = true := by unfold drHit; rw [hdd, ev, hv0, decide_eq_true (geq_t ht28)]; rfl
    have hg : driverG l known = some ⟨0, [d.body], [jointI l 0 d.body known], i⟩ := by unfold driverG; rw [firstB_at hin hj (by rw [h2]; rfl), ← hdd]; rfl
    refine go ?_
    refine gR ?_
    rw [hg]
    exact Fin.keep (keep1 rfl)
   ·have h2 : drHit l known i = false := by unfold drHit; rw [hdd, decide_eq_false (geq_f ht28), Bool.and_false]
    refine go ?_
    refine gs (s_arithW (.tmp rfl) (.const _) rfl (i64_add1 (by unfold maxL; omega)) rfl) ?_
    exact gK1 hK1 (i + 1) ⟨hin, fun k h9 => by rcases Nat.lt_or_ge k i with g | g; exact hj k g; (have : k = i := by omega); subst this; rw [h2]; rfl⟩
 ·have hin := lss_end hi ht13
  subst hin
  have hg : driverG l known = none := by unfold driverG; rw [firstB_all hj]; rfl
  refine go ?_
  refine gR ?_
  exact Fin.sub (Fin.keep (keep1 rfl)) (by rw [hg]; exact Sub.tup (.cons sub_gr0 (.cons (.refl _) .nil)))
theorem c_r25_pair (l : Li) (hl : l.ok) (hli : liE l = 0) (known : List Bool) (hk : known.length = l.bodies.length) : Con Tryz.prog 123 [l.av, .ms 1000 1 0 known.length] [(1000, some (.row 1 (known.map bl)))] (.tup [((pairG l known).getD default).av, bl (pairG l known).isSome]) [(1000, some (.row 1 (known.map bl)))] := by
 have h8 := (li_parts hli).2.2.2.1
 refine gF Tryz.func123 (fun k z h => lk1000 h) ?_
 refine go ?_
 refine gs (s_lenMap (.tmp rfl) T22 rfl rfl) ?_
 refine gL1 (fun (i : Nat) => (⟨[(1, some (.ms 1000 1 0 known.length)), (2, some (.ptr 2 0)), (4, some (.ptr 4 0)), (12, some (.lst 2 (l.bodies.map Bd.av))), (13, some (i64 l.bodies.length)), (14, some (i64 i))], [(2, some (.box l.av.cells)), (4, some (.box [i64 0, .v (.slice none 0 0), .v (.slice none 0 0), i64 0])), (1000, some (.row 1 (known.map bl)))]⟩ : AS)) (fun (i : Nat) => i ≤ l.bodies.length ∧ ∀ j, j < i → (prAt l known j).isNone = true) (fun (i : Nat) => l.bodies.length - i) 0 ⟨Nat.zero_le _, fun j h => by omega⟩ ?_
 rintro i ⟨hi, hj⟩ K1 hK1
 refine go ?_
 refine gC (fun ht15 => ?_) (fun ht15 => ?_)
 ·have hin := lss_t ht15
  refine go ?_
  refine gs (s_arithW (.tmp rfl) (.const _) rfl (i64_add1 (by unfold maxL; omega)) rfl) ?_
  refine gL1 (fun (k : Nat) => (⟨[(1, some (.ms 1000 1 0 known.length)), (2, some (.ptr 2 0)), (4, some (.ptr 4 0)), (6, some (i64 i)), (7, some (i64 (i + 1 + k : Nat))), (12, some (.lst 2 (l.bodies.map Bd.av))), (13, some (i64 l.bodies.length)), (14, some (i64 i))], [(2, some (.box l.av.cells)), (4, some (.box [i64 0, .v (.slice none 0 0), .v (.slice none 0 0), i64 0])), (1000, some (.row 1 (known.map bl)))]⟩ : AS)) (fun (k : Nat) => i + 1 + k ≤ l.bodies.length ∧ ∀ j, j < k → (!prHit l known i (i + 1 + j)) = true) (fun (k : Nat) => l.bodies.length - k) 0 ⟨by omega, fun j h => by omega⟩ ?_
  rintro k ⟨hkl, hkj⟩ K2 hK2
  refine go ?_
  refine gs (s_lenMap (.tmp rfl) T22 rfl rfl) ?_
  refine gC (fun ht23 => ?_) (fun ht23 => ?_)
  ·have hkn : i + 1 + k < l.bodies.length := lss_t ht23
   refine go ?_
   refine gs (s_callR (borF hl i (by omega)) (.cons (.tmp rfl) (.cons (.tmp rfl) (.cons (.tmp rfl) .nil))) rfl rfl rfl) ?_
   refine gs (s_guard rfl rfl rfl (fun h => s_callR (borF hl (i + 1 + k) (by omega)) (.cons (.opt rfl (o1 h)) (.cons (.opt rfl (o1 h)) (.cons (.opt rfl (o1 h)) .nil))) rfl rfl rfl)) ?_
   refine gC (fun ht37 => ?_) (fun ht37 => ?_)
   ·have h2 : prHit l known i (i + 1 + k) = false := by unfold prHit; rw [show (freeB l known i && freeB l known ((i + 1 + k : Nat) : Int)) = false from by rcases or_t ht37 with g | g; (rw [g]; rfl); (rw [g, Bool.and_false])]; rfl
    refine go ?_
    refine gs (s_arithW (.tmp rfl) (.const _) rfl (i64_add1 (by unfold maxL; omega)) rfl) ?_
    exact gK1 hK2 (k + 1) ⟨by omega, fun j h9 => by rcases Nat.lt_or_ge j k with g | g; exact hkj j g; (have : j = k := by omega); subst this; rw [h2]; rfl⟩
   ·have hff := or_f ht37
    refine go ?_
    refine gs (s_callR (borJ hl hli 0 i hk) (.cons (.tmp rfl) (.cons (.const _) (.cons (.tmp rfl) (.cons (.tmp rfl) .nil)))) rfl rfl rfl) ?_
    refine gs (s_callR (borJ hl hli 0 (i + 1 + k : Nat) hk) (.cons (.tmp rfl) (.cons (.const _) (.cons (.tmp rfl) (.cons (.tmp rfl) .nil)))) rfl rfl rfl) ?_
    refine gs (s_call (c_r25_only l (by omega) (i + 1 + k) hkn) (.cons (.tmp rfl) (.cons (.tmp rfl) .nil)) rfl rfl) ?_
    refine gs (s_call (c_r25_joint l hl hli 0 i (onlyK l.bodies.length ((i + 1 + k : Nat) : Int)) (len_only _ _)) (.cons (.tmp rfl) (.cons (.const _) (.cons (.tmp rfl) (.cons (.tmp rfl) .nil)))) rfl rfl) ?_
    refine gD ?_
    refine gC (fun ht61 => ?_) (fun ht61 => ?_)
    ·have h2 : prHit l known i (i + 1 + k) = true := by unfold prHit; rw [hff.1, hff.2]; exact (three_b.symm.trans ht61)
     have hat : prAt l known i = some (i + 1 + k) := by unfold prAt; rw [firstB_at (by omega) hkj (by rw [h2]; rfl), Option.map_some]; congr 1; omega
     have hg : pairG l known = some (prG l known i (i + 1 + k)) := by unfold pairG; rw [firstB_at hin hj (by rw [hat]; rfl), Option.map_some, hat]
     refine go ?_
     refine gR ?_
     rw [hg]
     exact Fin.keep (keep1 rfl)
    ·have h2 : prHit l known i (i + 1 + k) = false := by unfold prHit; rw [show (decide (0 ≤ jointI l 0 i known) && decide (0 ≤ jointI l 0 ((i + 1 + k : Nat) : Int) known) && decide (0 ≤ jointI l 0 i (onlyK l.bodies.length ((i + 1 + k : Nat) : Int)))) = false from three_b.symm.trans ht61, Bool.and_false]
     refine go ?_
     refine gs (s_arithW (.tmp rfl) (.const _) rfl (i64_add1 (by unfold maxL; omega)) rfl) ?_
     exact gK1 hK2 (k + 1) ⟨by omega, fun j h9 => by rcases Nat.lt_or_ge j k with g | g; exact hkj j g; (have : j = k := by omega); subst this; rw [h2]; rfl⟩
  ·have hkn : ¬ i + 1 + k < l.bodies.length := fun h => by have h1 := lss_f ht23; omega
   have hat : prAt l known i = none := by unfold prAt; rw [show l.bodies.length - (i + 1) = k by omega, firstB_all hkj]; rfl
   refine go ?_
   refine gs (s_arithW (.tmp rfl) (.const _) rfl (i64_add1 (by unfold maxL; omega)) rfl) ?_
   exact gK1 hK1 (i + 1) ⟨hin, fun j h9 => by rcases Nat.lt_or_ge j i with g | g; exact hj j g; (have : j = i := by omega); subst this; rw [hat]; rfl⟩
 ·have hin := lss_end hi ht15
  have hg : pairG l known = none := by unfold pairG; rw [← hin, firstB_all hj]; rfl
  refine go ?_
  refine gR ?_
  exact Fin.sub (Fin.keep (keep1 rfl)) (by rw [hg]; exact Sub.tup (.cons sub_gr0 (.cons (.refl _) .nil)))
theorem c_r25_single (l : Li) (hl : l.ok) (hli : liE l = 0) (known : List Bool) (hk : known.length = l.bodies.length) : Con Tryz.prog 124 [l.av, .ms 1000 1 0 known.length] [(1000, some (.row 1 (known.map bl)))] (.tup [((singleG l known).getD default).av, bl (singleG l known).isSome]) [(1000, some (.row 1 (known.map bl)))] := by
 have h8 := (li_parts hli).2.2.2.1
 refine gF Tryz.func124 (fun k z h => lk1000 h) ?_
 refine go ?_
 refine gs (s_lenMap (.tmp rfl) T22 rfl rfl) ?_
 refine gL1 (fun (i : Nat) => (⟨[(1, some (.ms 1000 1 0 known.length)), (2, some (.ptr 2 0)), (4, some (.ptr 4 0)), (11, some (.lst 2 (l.bodies.map Bd.av))), (12, some (i64 l.bodies.length)), (13, some (i64 i))], [(2, some (.box l.av.cells)), (4, some (.box [i64 0, .v (.slice none 0 0), .v (.slice none 0 0), i64 0])), (1000, some (.row 1 (known.map bl)))]⟩ : AS)) (fun (i : Nat) => i ≤ l.bodies.length ∧ ∀ j, j < i → (!sgHit l known j) = true) (fun (i : Nat) => l.bodies.length - i) 0 ⟨Nat.zero_le _, fun j h => by omega⟩ ?_
 rintro i ⟨hi, hj⟩ K1 hK1
 refine go ?_
 refine gC (fun ht14 => ?_) (fun ht14 => ?_)
 ·have hin := lss_t ht14
  refine go ?_
  refine gs (s_callR (borF hl i (by omega)) (.cons (.tmp rfl) (.cons (.tmp rfl) (.cons (.tmp rfl) .nil))) rfl rfl rfl) ?_
  refine gC (fun ht20 => ?_) (fun ht20 => ?_)
  ·have h2 : sgHit l known i = false := by unfold sgHit; rw [not_t ht20]; rfl
   refine go ?_
   refine gs (s_arithW (.tmp rfl) (.const _) rfl (i64_add1 (by unfold maxL; omega)) rfl) ?_
   exact gK1 hK1 (i + 1) ⟨hin, fun k h9 => by rcases Nat.lt_or_ge k i with g | g; exact hj k g; (have : k = i := by omega); subst this; rw [h2]; rfl⟩
  ·have hf := not_f ht20
   refine go ?_
   refine gs (s_callR (borJ hl hli 0 i hk) (.cons (.tmp rfl) (.cons (.const _) (.cons (.tmp rfl) (.cons (.tmp rfl) .nil)))) rfl rfl rfl) ?_
   refine gs (s_callR (borJ hl hli 1 i hk) (.cons (.tmp rfl) (.cons (.const _) (.cons (.tmp rfl) (.cons (.tmp rfl) .nil)))) rfl rfl rfl) ?_
   refine gD ?_
   refine gC (fun ht34 => ?_) (fun ht34 => ?_)
   ·have h2 : sgHit l known i = false := by unfold sgHit; rw [two_t ht34, Bool.and_false]
    refine go ?_
    refine gs (s_arithW (.tmp rfl) (.const _) rfl (i64_add1 (by unfold maxL; omega)) rfl) ?_
    exact gK1 hK1 (i + 1) ⟨hin, fun k h9 => by rcases Nat.lt_or_ge k i with g | g; exact hj k g; (have : k = i := by omega); subst this; rw [h2]; rfl⟩
   ·obtain ⟨p0, s0⟩ := two_f ht34
    have s1 := (jointI_lt (l := l) (kind := 1) (body := i) (oth := known)).2
    have h2 : sgHit l known i = true := by unfold sgHit; rw [hf, decide_eq_true p0, decide_eq_true s0]; rfl
    obtain ⟨j, hjt⟩ : ∃ j, l.joints[(jointI l 1 i known).toNat]? = some j := getx (by omega)
    have hjd : l.joints.getD (jointI l 1 i known).toNat default = j := getD_of hjt
    have hg : singleG l known = some (sgG l known i) := by unfold singleG; rw [firstB_at hin hj (by rw [h2]; rfl), Option.map_some]
    refine go ?_
    refine gs (s_idxLst (.tmp rfl) (.tmp rfl) T23 rfl T76 rfl (by omega) (getzx (n := (jointI l 1 i known).toNat) (by omega) hjt) rfl) ?_
    refine gC (fun ht42 => ?_) (fun ht42 => ?_)
    ·have hji : j.a = i := eql_t ht42
     refine go ?_
     refine gR ?_
     rw [hg]; unfold sgG; rw [hjd]; simp only [Option.getD_some, if_pos hji]
     exact Fin.keep (keep1 rfl)
    ·have hji : j.a ≠ i := eql_f ht42
     refine go ?_
     refine gR ?_
     rw [hg]; unfold sgG; rw [hjd]; simp only [Option.getD_some, if_neg hji]
     exact Fin.keep (keep1 rfl)
 ·have hin := lss_end hi ht14
  have hg : singleG l known = none := by unfold singleG; rw [← hin, firstB_all hj]; rfl
  refine go ?_
  refine gR ?_
  exact Fin.sub (Fin.keep (keep1 rfl)) (by rw [hg]; exact Sub.tup (.cons sub_gr0 (.cons (.refl _) .nil)))
end Go.Lw
namespace Go.Lw
open Go.Proofs
theorem mark_step {k : List Bool} {bs : List Int} {q : Nat} {x : Int} (h : bs[q]? = some x) : markAll k (bs.drop q) = markAll (k.set x.toNat true) (bs.drop (q + 1)) := by
 have hi := (List.getElem?_eq_some_iff.1 h).1
 rw [List.drop_eq_getElem_cons hi, (List.getElem?_eq_some_iff.1 h).2]; rfl
theorem find_step {l : Li} {n : Nat} {known : List Bool} {out : List Gr} {g : Gr} (h : nextG l known = some g) : findFrom l (n + 1) known out = findFrom l n (markAll known g.bodies) (out ++ [g]) := by
 show (match nextG l known with | none => _ | some g => _) = _
 rw [h]
theorem find_stop {l : Li} {n : Nat} {known : List Bool} {out : List Gr} (h : nextG l known = none) : findFrom l n known out = (known, out) := by
 cases n with
 | zero => rfl
 | succ n => show (match nextG l known with | none => _ | some g => _) = _; rw [h]
theorem isNone_of {α : Type} {o : Option α} (h : o.isSome = false) : o = none := by cases o <;> simp_all
theorem or_some {α : Type} {a b : Option α} (h : a.isSome = true) : a = a.or b := by cases a <;> simp_all
theorem nextG_single {l : Li} {known : List Bool} (h : (driverG l known).or (pairG l known) = none) : nextG l known = singleG l known := by
 unfold nextG
 rw [← Option.or_assoc, h]; rfl
theorem nextG_first {l : Li} {known : List Bool} (h : ((driverG l known).or (pairG l known)).isSome = true) : nextG l known = (driverG l known).or (pairG l known) := by
 unfold nextG
 rw [← Option.or_assoc]; exact (or_some h).symm
theorem c_r25_Find (l : Li) (hl : l.ok) (hli : liE l = 0) : FnC Tryz.prog 63 [l.av] (.lst 4 ((findG l).map Gr.av)) := by
 have h8 := (li_parts hli).2.2.2.1
 have h0 := (li_parts hli).2.2.2.2
 refine gF0 Tryz.func63 ?_
 refine go ?_
 refine gs (s_callH (c_r25_onlyO 900 rfl l (by omega) 0 (by omega)) (.cons (.tmp rfl) (.cons (.const _) .nil)) (by first | exact hH0 | exact hH1 rfl | exact hH2 rfl rfl) rfl rfl) ?_
 refine gs (s_lenMap (.tmp rfl) T22 rfl rfl) ?_
 refine gW (Wk.virt 901 4 rfl) ?_
 refine gL3 (fun (i : Nat) (known : List Bool) (out : List Gr) => (⟨[(1, some (.ptr 1 0)), (3, some (.ms 900 1 0 known.length)), (4, some (.ms 901 4 0 out.length)), (13, some (i64 l.bodies.length)), (14, some (i64 i))], [(1, some (.box l.av.cells)), (900, some (.row 1 (known.map bl))), (901, some (.row 4 (out.map Gr.av)))]⟩ : AS)) (fun (i : Nat) (known : List Bool) (out : List Gr) => i ≤ l.bodies.length ∧ known.length = l.bodies.length ∧ out.length ≤ i ∧ findFrom l (l.bodies.length - i) known out = findFrom l l.bodies.length (onlyK l.bodies.length 0) []) (fun (i : Nat) (known : List Bool) (out : List Gr) => l.bodies.length - i) 0 (onlyK l.bodies.length 0) ([]) ⟨Nat.zero_le _, len_only _ _, Nat.le_refl _, rfl⟩ ?_ (hw := Wk.of (.k (.cons rfl (Sub.of (by rw [len_only])) (.k (.k (.k .nil))))) (.cons rfl (.refl _) (.cons rfl (.refl _) (.cons rfl (.refl _) .nil))))
 rintro i known out ⟨hi, hk, hol, hff⟩ K1 hK1
 refine go ?_
 refine gC (fun ht15 => ?_) (fun ht15 => ?_)
 ·have hin := lss_t ht15
  have hd1 := Con.rekey1 900 rfl rfl rfl (c_r25_driver l hl hli known hk)
  have hp1 := Con.rekey1 900 rfl rfl rfl (c_r25_pair l hl hli known hk)
  have hs1 := Con.rekey1 900 rfl rfl rfl (c_r25_single l hl hli known hk)
  refine go ?_
  refine gs (s_callH hd1 (.cons (.tmp rfl) (.cons (.tmp rfl) .nil)) (by first | exact hH0 | exact hH1 rfl | exact hH2 rfl rfl) rfl rfl) ?_
  refine gJ1 (fun (o : Option Gr) => (⟨[(1, some (.ptr 1 0)), (3, some (.ms 900 1 0 known.length)), (4, some (.ms 901 4 0 out.length)), (5, some (.ptr 5 0)), (6, some (bl o.isSome)), (13, some (i64 l.bodies.length)), (14, some (i64 i))], [(1, some (.box l.av.cells)), (5, some (.box (o.getD default).av.cells)), (900, some (.row 1 (known.map bl))), (901, some (.row 4 (out.map Gr.av)))]⟩ : AS)) (fun (o : Option Gr) => o = (driverG l known).or (pairG l known)) ?_ ?_
  ·intro K2 hK2
   refine go ?_
   refine gC (fun ht23 => ?_) (fun ht23 => ?_)
   ·refine go ?_
    refine gs (s_callH hp1 (.cons (.tmp rfl) (.cons (.tmp rfl) .nil)) (by first | exact hH0 | exact hH1 rfl | exact hH2 rfl rfl) rfl rfl) ?_
    exact jK1 hK2 (pairG l known) (by rw [isNone_of (not_t ht23)]; rfl)
   ·refine go ?_
    exact jK1 hK2 (driverG l known) (or_some (not_f ht23))
  ·rintro o ho
   refine go ?_
   refine gJ1 (fun (og : Option Gr) => (⟨[(1, some (.ptr 1 0)), (3, some (.ms 900 1 0 known.length)), (4, some (.ms 901 4 0 out.length)), (5, some (.ptr 5 0)), (6, some (bl og.isSome)), (13, some (i64 l.bodies.length)), (14, some (i64 i))], [(1, some (.box l.av.cells)), (5, some (.box (og.getD default).av.cells)), (900, some (.row 1 (known.map bl))), (901, some (.row 4 (out.map Gr.av)))]⟩ : AS)) (fun (og : Option Gr) => og = nextG l known) ?_ ?_
   ·intro K3 hK3
    refine go ?_
    refine gC (fun ht31 => ?_) (fun ht31 => ?_)
    ·refine go ?_
     refine gs (s_callH hs1 (.cons (.tmp rfl) (.cons (.tmp rfl) .nil)) (by first | exact hH0 | exact hH1 rfl | exact hH2 rfl rfl) rfl rfl) ?_
     exact jK1 hK3 (singleG l known) (by have := isNone_of (not_t ht31); rw [ho] at this; exact (nextG_single this).symm)
    ·refine go ?_
     exact jK1 hK3 o (by rw [ho]; exact (nextG_first (by rw [← ho]; exact not_f ht31)).symm)
   ·rintro og hog
    refine go ?_
    refine gC (fun ht39 => ?_) (fun ht39 => ?_)
    ·have hn : nextG l known = none := by rw [← hog]; exact isNone_of (not_t ht39)
     have hfin : findG l = out := by unfold findG; rw [← hff, find_stop hn]
     refine go ?_ (18, 0)
     refine gW ((Wk.freeze (k := 901) rfl).trans <| Wk.of (sl := [(4, some (.lst 4 ((findG l).map Gr.av)))]) (hp := []) (.cons rfl (Sub.of (by rw [hfin, fz_all (by rw [List.length_map])])) .nil) .nil) ?_
     refine go ?_
     refine gE1 ?_
     rfl
    ·obtain ⟨g, hg⟩ : ∃ g, og = some g := Option.isSome_iff_exists.1 (not_f ht39)
     have hng : nextG l known = some g := by rw [← hog, hg]
     have hgo := nextG_ok hli hng
     subst hg
     refine go ?_
     refine gs (s_append (.tmp rfl) rfl (by rw [List.length_map]) (.tmp rfl) T93 rfl T183 rfl rfl (by dsimp only; simp only [List.length_cons, List.length_nil]; omega) rfl rfl) ?_ (12, 0)
     refine gW (Wk.of (sl := [(1, some (.ptr 1 0)), (3, some (.ms 900 1 0 known.length)), (4, some (.ms 43 4 0 (out ++ [g]).length)), (5, some (.ptr 5 0)), (13, some (i64 l.bodies.length)), (14, some (i64 i))]) (hp := [(1, some (.box l.av.cells)), (5, some (.box g.av.cells)), (900, some (.row 1 (known.map bl))), (43, some (.row 4 ((out ++ [g]).map Gr.av)))]) (.k (.k (.cons rfl (Sub.of (by rw [List.length_append]; rfl)) (.k (.k (.k .nil)))))) (.cons rfl (.refl _) (.cons rfl (.refl _) (.cons rfl (.refl _) (.cons rfl (BlkSub.of (by rw [List.map_append]; rfl)) .nil))))) ?_
     refine gW (Wk.rekey (k := 43) (d := 901) rfl rfl) ?_
     refine go ?_
     refine gs (s_lenMap (.tmp rfl) T32 rfl rfl) ?_
     refine gL2 (fun (q : Nat) (kk : List Bool) => (⟨[(1, some (.ptr 1 0)), (3, some (.ms 900 1 0 kk.length)), (4, some (.ms 901 4 0 (out ++ [g]).length)), (13, some (i64 l.bodies.length)), (14, some (i64 i)), (45, some (.lst 1 (g.bodies.map i64))), (46, some (i64 g.bodies.length)), (47, some (i64 q))], [(1, some (.box l.av.cells)), (900, some (.row 1 (kk.map bl))), (901, some (.row 4 ((out ++ [g]).map Gr.av)))]⟩ : AS)) (fun (q : Nat) (kk : List Bool) => q ≤ g.bodies.length ∧ kk.length = l.bodies.length ∧ markAll kk (g.bodies.drop q) = markAll known g.bodies) (fun (q : Nat) (kk : List Bool) => g.bodies.length - q) 0 known ⟨Nat.zero_le _, hk, rfl⟩ ?_
     rintro q kk ⟨hq, hkk, hmk⟩ K4 hK4
     refine go ?_
     refine gC (fun ht48 => ?_) (fun ht48 => ?_)
     ·have hqn := lss_t ht48
      obtain ⟨x, hx⟩ := getx hqn
      have hxb := hgo.b x (List.mem_of_getElem? hx)
      obtain ⟨v, hv⟩ : ∃ v, kk[x.toNat]? = some v := getx (by omega)
      refine go ?_
      refine gs (s_idxLst (.tmp rfl) (.tmp rfl) T32 rfl T3 rfl (by omega) (getmap hx) rfl) ?_
      refine gs (s_idxMs (.tmp rfl) (.tmp rfl) T180 rfl T4 rfl (by omega) (by omega) rfl) ?_
      refine gs (s_stElem (.tmp rfl) rfl (by rw [Nat.zero_add, List.getElem?_map, hv]; rfl) rfl (.const _) rfl rfl T4 rfl rfl) ?_
      refine gs (s_arithW (.tmp rfl) (.const _) rfl (i64_add1 (by have := hgo.lb; unfold maxL; omega)) rfl) ?_
      exact gK2 hK4 (q + 1) (kk.set x.toNat true) ⟨hqn, by rw [List.length_set]; exact hkk, by rw [← mark_step hx]; exact hmk⟩ (hw := Wk.of (.k (.cons rfl (Sub.of (by rw [List.length_set])) (.k (.k (.k (.k (.k (.k .nil)))))))) (.cons rfl (.refl _) (.cons rfl (BlkSub.of (by rw [List.map_set, Nat.zero_add]; rfl)) (.cons rfl (.refl _) .nil))))
     ·have hqn := lss_end hq ht48
      have hmk2 : kk = markAll known g.bodies := by rw [hqn, List.drop_length] at hmk; exact hmk
      refine go ?_
      refine gs (s_arithW (.tmp rfl) (.const _) rfl (i64_add1 (by unfold maxL; omega)) rfl) ?_
      exact gK3 hK1 (i + 1) kk (out ++ [g]) ⟨hin, hkk, by rw [List.length_append]; simp only [List.length_cons, List.length_nil]; omega, by rw [hmk2, ← find_step hng, ← hff]; congr 1; omega⟩
 ·have hin := lss_end hi ht15
  have hfin : findG l = out := by unfold findG; rw [← hff, show l.bodies.length - i = 0 by omega]; rfl
  refine go ?_ (18, 0)
  refine gW ((Wk.freeze (k := 901) rfl).trans <| Wk.of (sl := [(4, some (.lst 4 ((findG l).map Gr.av)))]) (hp := []) (.cons rfl (Sub.of (by rw [hfin, fz_all (by rw [List.length_map])])) .nil) .nil) ?_
  refine go ?_
  refine gE1 ?_
  rfl
end Go.Lw
namespace Go.Lw
open Go.Proofs
theorem fold_step {α : Type} {f : List Bool → α → List Bool} {k : List Bool} {l : List α} {i : Nat} {x : α} (h : l[i]? = some x) : (l.drop i).foldl f k = (l.drop (i + 1)).foldl f (f k x) := by
 have hi := (List.getElem?_eq_some_iff.1 h).1
 rw [List.drop_eq_getElem_cons hi, (List.getElem?_eq_some_iff.1 h).2]; rfl
/-- The first places that are not marked. -/
def unm (k : List Bool) (i : Nat) : List Int := ((List.range i).filter (fun j => !k.getD j false)).map (fun j : Nat => ((j : Nat) : Int))
theorem unm_hit {k : List Bool} {i : Nat} (h : k.getD i false = false) : unm k (i + 1) = unm k i ++ [(i : Int)] := by
 unfold unm
 rw [List.range_succ, List.filter_append, List.map_append, List.filter_cons, h]; rfl
theorem unm_miss {k : List Bool} {i : Nat} (h : k.getD i false = true) : unm k (i + 1) = unm k i := by
 unfold unm
 rw [List.range_succ, List.filter_append, List.map_append, List.filter_cons, h]; simp
theorem unm_len (k : List Bool) (i : Nat) : (unm k i).length ≤ i := by
 unfold unm
 rw [List.length_map]
 exact Nat.le_trans (List.length_filter_le _ _) (by simp)
theorem len_fold {α : Type} {f : α → List Int} : ∀ (gs : List α) (k : List Bool), (gs.foldl (fun k g => markAll k (f g)) k).length = k.length
 | [], k => rfl
 | g :: gs, k => by rw [List.foldl_cons, len_fold gs, len_mark]
theorem len_unK (l : Li) : (unmarked (restK l)).length ≤ l.bodies.length := by
 have h := unm_len (restK l) (restK l).length
 have e : (restK l).length = l.bodies.length := by unfold restK; rw [len_fold, len_only]
 rw [e] at h
 unfold unmarked; rw [e]; exact h
theorem len_unJ (l : Li) : (unmarked (restJ l)).length ≤ l.joints.length := by
 have h := unm_len (restJ l) (restJ l).length
 have e : (restJ l).length = l.joints.length := by unfold restJ; rw [len_fold, List.length_replicate]
 rw [e] at h
 unfold unmarked; rw [e]; exact h
theorem c_r25_Rest (l : Li) (hl : l.ok) (hli : liE l = 0) : FnC Tryz.prog 62 [l.av] (.tup [.lst 1 ((unmarked (restK l)).map i64), .lst 1 ((unmarked (restJ l)).map i64)]) := by
 have h8 := (li_parts hli).2.2.2.1
 have h0 := (li_parts hli).2.2.2.2
 have hj16 : l.joints.length ≤ 16 := by have := (li_parts hli).2.1; unfold jtsE at this; split at this; cases this; omega
 obtain ⟨hgo, hgl⟩ := findG_ok hli
 refine gF0 Tryz.func62 ?_
 refine go ?_
 refine gs (s_callH (c_r25_onlyO 900 rfl l (by omega) 0 (by omega)) (.cons (.tmp rfl) (.cons (.const _) .nil)) (by first | exact hH0 | exact hH1 rfl | exact hH2 rfl rfl) rfl rfl) ?_
 refine gs (s_lenMap (.tmp rfl) T23 rfl rfl) ?_
 refine gs (s_make (.tmp rfl) T180 rfl T4 rfl rfl (by omega) (by dsimp only; omega) rfl) ?_
 refine gD ?_ (2, 0)
 refine gW (Wk.of (sl := [(1, some (.ptr 1 0)), (2, some (.v (.slice none 0 0))), (3, some (.v (.slice none 0 0))), (4, some (.ms 900 1 0 (onlyK l.bodies.length 0).length)), (5, some (.ms 21 1 0 (List.replicate l.joints.length false).length))]) (hp := [(1, some (.box l.av.cells)), (900, some (.row 1 ((onlyK l.bodies.length 0).map bl))), (21, some (.row 1 ((List.replicate l.joints.length false).map bl)))]) (.k (.k (.k (.cons rfl (Sub.of (by rw [len_only])) (.cons rfl (Sub.of (by rw [List.length_replicate, Int.toNat_natCast])) .nil))))) (.cons rfl (.refl _) (.cons rfl (.refl _) (.cons rfl (BlkSub.of (by rw [List.map_replicate, Int.toNat_natCast]; rfl)) .nil)))) ?_
 refine gW (Wk.rekey (k := 21) (d := 901) rfl rfl) ?_
 refine go ?_
 refine gs (s_call (c_r25_Find l hl hli) (.cons (.tmp rfl) .nil) rfl rfl) ?_
 refine gs (s_lenMap (.tmp rfl) T93 rfl rfl) ?_
 refine gL3 (fun (i : Nat) (k1 k2 : List Bool) => (⟨[(1, some (.ptr 1 0)), (2, some (.v (.slice none 0 0))), (3, some (.v (.slice none 0 0))), (4, some (.ms 900 1 0 k1.length)), (5, some (.ms 901 1 0 k2.length)), (23, some (.lst 4 ((findG l).map Gr.av))), (24, some (i64 (findG l).length)), (25, some (i64 i))], [(1, some (.box l.av.cells)), (900, some (.row 1 (k1.map bl))), (901, some (.row 1 (k2.map bl)))]⟩ : AS)) (fun (i : Nat) (k1 k2 : List Bool) => i ≤ (findG l).length ∧ k1.length = l.bodies.length ∧ k2.length = l.joints.length ∧ ((findG l).drop i).foldl (fun k g => markAll k g.bodies) k1 = restK l ∧ ((findG l).drop i).foldl (fun k g => markAll k g.joints) k2 = restJ l) (fun (i : Nat) (k1 k2 : List Bool) => (findG l).length - i) 0 (onlyK l.bodies.length 0) (List.replicate l.joints.length false) ⟨Nat.zero_le _, len_only _ _, List.length_replicate, rfl, rfl⟩ ?_
 rintro i k1 k2 ⟨hi, hk1, hk2, hf1, hf2⟩ K1 hK1
 refine go ?_
 refine gC (fun ht26 => ?_) (fun ht26 => ?_)
 ·have hin := lss_t ht26
  obtain ⟨g, hg⟩ := getx hin
  have hgk := hgo g (List.mem_of_getElem? hg)
  have hlb := hgk.lb
  have hlj := hgk.lj
  refine go ?_
  refine gs (s_idxLst (.tmp rfl) (.tmp rfl) T93 rfl T183 rfl (by omega) (getmap hg) rfl) ?_
  refine gs (s_lenMap (.tmp rfl) T32 rfl rfl) ?_
  refine gL2 (fun (q : Nat) (kk : List Bool) => (⟨[(1, some (.ptr 1 0)), (2, some (.v (.slice none 0 0))), (3, some (.v (.slice none 0 0))), (4, some (.ms 900 1 0 kk.length)), (5, some (.ms 901 1 0 k2.length)), (7, some (.ptr 7 0)), (23, some (.lst 4 ((findG l).map Gr.av))), (24, some (i64 (findG l).length)), (25, some (i64 i)), (30, some (.lst 1 (g.bodies.map i64))), (31, some (i64 g.bodies.length)), (32, some (i64 q))], [(1, some (.box l.av.cells)), (7, some (.box g.av.cells)), (900, some (.row 1 (kk.map bl))), (901, some (.row 1 (k2.map bl)))]⟩ : AS)) (fun (q : Nat) (kk : List Bool) => q ≤ g.bodies.length ∧ kk.length = l.bodies.length ∧ markAll kk (g.bodies.drop q) = markAll k1 g.bodies) (fun (q : Nat) (kk : List Bool) => g.bodies.length - q) 0 k1 ⟨Nat.zero_le _, hk1, rfl⟩ ?_
  rintro q kk ⟨hq, hkk, hmk⟩ K2 hK2
  refine go ?_
  refine gC (fun ht33 => ?_) (fun ht33 => ?_)
  ·have hqn := lss_t ht33
   obtain ⟨x, hx⟩ := getx hqn
   have hxb := hgk.b x (List.mem_of_getElem? hx)
   obtain ⟨v, hv⟩ : ∃ v, kk[x.toNat]? = some v := getx (by omega)
   refine go ?_
   refine gs (s_idxLst (.tmp rfl) (.tmp rfl) T32 rfl T3 rfl (by omega) (getmap hx) rfl) ?_
   refine gs (s_idxMs (.tmp rfl) (.tmp rfl) T180 rfl T4 rfl (by omega) (by omega) rfl) ?_
   refine gs (s_stElem (.tmp rfl) rfl (by rw [Nat.zero_add, List.getElem?_map, hv]; rfl) rfl (.const _) rfl rfl T4 rfl rfl) ?_
   refine gs (s_arithW (.tmp rfl) (.const _) rfl (i64_add1 (by unfold maxL; omega)) rfl) ?_
   exact gK2 hK2 (q + 1) (kk.set x.toNat true) ⟨hqn, by rw [List.length_set]; exact hkk, by rw [← mark_step hx]; exact hmk⟩ (hw := Wk.of (.k (.k (.k (.cons rfl (Sub.of (by rw [List.length_set])) (.k (.k (.k (.k (.k (.k (.k (.k .nil)))))))))))) (.cons rfl (.refl _) (.cons rfl (.refl _) (.cons rfl (BlkSub.of (by rw [List.map_set, Nat.zero_add]; rfl)) (.cons rfl (.refl _) .nil)))))
  ·have hqn := lss_end hq ht33
   have hmk2 : kk = markAll k1 g.bodies := by rw [hqn, List.drop_length] at hmk; exact hmk
   refine go ?_
   refine gs (s_lenMap (.tmp rfl) T32 rfl rfl) ?_
   refine gL2 (fun (p : Nat) (jj : List Bool) => (⟨[(1, some (.ptr 1 0)), (2, some (.v (.slice none 0 0))), (3, some (.v (.slice none 0 0))), (4, some (.ms 900 1 0 kk.length)), (5, some (.ms 901 1 0 jj.length)), (23, some (.lst 4 ((findG l).map Gr.av))), (24, some (i64 (findG l).length)), (25, some (i64 i)), (41, some (.lst 1 (g.joints.map i64))), (42, some (i64 g.joints.length)), (43, some (i64 p))], [(1, some (.box l.av.cells)), (900, some (.row 1 (kk.map bl))), (901, some (.row 1 (jj.map bl)))]⟩ : AS)) (fun (p : Nat) (jj : List Bool) => p ≤ g.joints.length ∧ jj.length = l.joints.length ∧ markAll jj (g.joints.drop p) = markAll k2 g.joints) (fun (p : Nat) (jj : List Bool) => g.joints.length - p) 0 k2 ⟨Nat.zero_le _, hk2, rfl⟩ ?_
   rintro p jj ⟨hp, hjj, hmj⟩ K3 hK3
   refine go ?_
   refine gC (fun ht44 => ?_) (fun ht44 => ?_)
   ·have hpn := lss_t ht44
    obtain ⟨x, hx⟩ := getx hpn
    have hxb := hgk.j x (List.mem_of_getElem? hx)
    obtain ⟨v, hv⟩ : ∃ v, jj[x.toNat]? = some v := getx (by omega)
    refine go ?_
    refine gs (s_idxLst (.tmp rfl) (.tmp rfl) T32 rfl T3 rfl (by omega) (getmap hx) rfl) ?_
    refine gs (s_idxMs (.tmp rfl) (.tmp rfl) T180 rfl T4 rfl (by omega) (by omega) rfl) ?_
    refine gs (s_stElem (.tmp rfl) rfl (by rw [Nat.zero_add, List.getElem?_map, hv]; rfl) rfl (.const _) rfl rfl T4 rfl rfl) ?_
    refine gs (s_arithW (.tmp rfl) (.const _) rfl (i64_add1 (by unfold maxL; omega)) rfl) ?_
    exact gK2 hK3 (p + 1) (jj.set x.toNat true) ⟨hpn, by rw [List.length_set]; exact hjj, by rw [← mark_step hx]; exact hmj⟩ (hw := Wk.of (.k (.k (.k (.k (.cons rfl (Sub.of (by rw [List.length_set])) (.k (.k (.k (.k (.k (.k .nil))))))))))) (.cons rfl (.refl _) (.cons rfl (.refl _) (.cons rfl (BlkSub.of (by rw [List.map_set, Nat.zero_add]; rfl)) .nil))))
   ·have hpn := lss_end hp ht44
    have hmj2 : jj = markAll k2 g.joints := by rw [hpn, List.drop_length] at hmj; exact hmj
    refine go ?_
    refine gs (s_arithW (.tmp rfl) (.const _) rfl (i64_add1 (by unfold maxL; omega)) rfl) ?_
    exact gK3 hK1 (i + 1) kk jj ⟨hin, hkk, hjj, by rw [hmk2, ← hf1, fold_step hg], by rw [hmj2, ← hf2, fold_step hg]⟩
 ·have hin := lss_end hi ht26
  have e1 : k1 = restK l := by rw [hin, List.drop_length] at hf1; exact hf1
  have e2 : k2 = restJ l := by rw [hin, List.drop_length] at hf2; exact hf2
  refine go ?_
  refine gW (Wk.virt 902 1 rfl) ?_
  refine gL1 (fun (i : Nat) => (⟨[(2, some (.ms 902 1 0 (unm k1 i).length)), (3, some (.v (.slice none 0 0))), (5, some (.ms 901 1 0 k2.length)), (52, some (.ms 900 1 0 k1.length)), (53, some (i64 k1.length)), (54, some (i64 i))], [(900, some (.row 1 (k1.map bl))), (901, some (.row 1 (k2.map bl))), (902, some (.row 1 ((unm k1 i).map i64)))]⟩ : AS)) (fun (i : Nat) => i ≤ k1.length) (fun (i : Nat) => k1.length - i) 0 (Nat.zero_le _) ?_
  rintro i ha K4 hK4
  refine go ?_
  refine gC (fun ht55 => ?_) (fun ht55 => ?_)
  ·have hin6 := lss_t ht55
   obtain ⟨v, hv⟩ := getx hin6
   have hvd : k1.getD i false = v := getD_of hv
   have hul := unm_len k1 i
   refine go ?_
   refine gs (s_idxMs (.tmp rfl) (.tmp rfl) T180 rfl T4 rfl (by omega) (by omega) rfl) ?_
   refine gs (s_loadEptr (.tmp rfl) rfl (by rw [Nat.zero_add, Int.toNat_natCast, List.getElem?_map, hv]; rfl) T4 rfl rfl rfl) ?_
   refine gC (fun ht60 => ?_) (fun ht60 => ?_)
   ·have hu := unm_hit (k := k1) (i := i) (by rw [hvd]; exact not_t ht60)
    refine go ?_
    refine gs (s_append (.tmp rfl) rfl (by rw [List.length_map]) (.tmp rfl) T32 rfl T3 rfl rfl (by dsimp only; simp only [List.length_cons, List.length_nil]; omega) rfl rfl) ?_ (21, 0)
    refine gW (Wk.of (sl := [(2, some (.ms 64 1 0 (unm k1 (i + 1)).length)), (3, some (.v (.slice none 0 0))), (5, some (.ms 901 1 0 k2.length)), (52, some (.ms 900 1 0 k1.length)), (53, some (i64 k1.length)), (54, some (i64 i))]) (hp := [(900, some (.row 1 (k1.map bl))), (901, some (.row 1 (k2.map bl))), (64, some (.row 1 ((unm k1 (i + 1)).map i64)))]) (.cons rfl (Sub.of (by rw [hu, List.length_append]; rfl)) (.k (.k (.k (.k (.k .nil)))))) (.cons rfl (.refl _) (.cons rfl (.refl _) (.cons rfl (BlkSub.of (by rw [hu, List.map_append]; rfl)) .nil)))) ?_
    refine gW (Wk.rekey (k := 64) (d := 902) rfl rfl) ?_
    refine go ?_
    refine gs (s_arithW (.tmp rfl) (.const _) rfl (i64_add1 (by unfold maxL; omega)) rfl) ?_
    exact gK1 hK4 (i + 1) hin6 (hw := Wk.of (.cons rfl (Sub.of (by first | rw [hu]; done | rfl)) (.k (.k (.k (.k (.k .nil)))))) (.cons rfl (.refl _) (.cons rfl (.refl _) (.cons rfl (BlkSub.of (by first | rw [hu]; done | rfl)) .nil))))
   ·have hu := unm_miss (k := k1) (i := i) (by rw [hvd]; exact not_f ht60)
    refine go ?_
    refine gs (s_arithW (.tmp rfl) (.const _) rfl (i64_add1 (by unfold maxL; omega)) rfl) ?_
    exact gK1 hK4 (i + 1) hin6 (hw := Wk.of (.cons rfl (Sub.of (by first | rw [hu]; done | rfl)) (.k (.k (.k (.k (.k .nil)))))) (.cons rfl (.refl _) (.cons rfl (.refl _) (.cons rfl (BlkSub.of (by first | rw [hu]; done | rfl)) .nil))))
  ·have hin6 := lss_end ha ht55
   refine go ?_ (22, 0)
   refine gW ((Wk.freeze (k := 902) rfl).trans <| Wk.of (sl := [(2, some (.lst 1 ((unmarked (restK l)).map i64))), (3, some (.v (.slice none 0 0))), (5, some (.ms 901 1 0 k2.length))]) (hp := [(901, some (.row 1 (k2.map bl)))]) (.cons rfl (Sub.of (by rw [fz_all (by rw [List.length_map]), hin6, e1]; rfl)) (.k (.k .nil))) (.cons rfl (.refl _) .nil)) ?_
   refine go ?_
   refine gW (Wk.virt 902 1 rfl) ?_
   refine gL1 (fun (i : Nat) => (⟨[(2, some (.lst 1 ((unmarked (restK l)).map i64))), (3, some (.ms 902 1 0 (unm k2 i).length)), (66, some (.ms 901 1 0 k2.length)), (67, some (i64 k2.length)), (68, some (i64 i))], [(901, some (.row 1 (k2.map bl))), (902, some (.row 1 ((unm k2 i).map i64)))]⟩ : AS)) (fun (i : Nat) => i ≤ k2.length) (fun (i : Nat) => k2.length - i) 0 (Nat.zero_le _) ?_
   rintro i hb K5 hK5
   refine go ?_
   refine gC (fun ht69 => ?_) (fun ht69 => ?_)
   ·have hin8 := lss_t ht69
    obtain ⟨v, hv⟩ := getx hin8
    have hvd : k2.getD i false = v := getD_of hv
    have hul := unm_len k2 i
    refine go ?_
    refine gs (s_idxMs (.tmp rfl) (.tmp rfl) T180 rfl T4 rfl (by omega) (by omega) rfl) ?_
    refine gs (s_loadEptr (.tmp rfl) rfl (by rw [Nat.zero_add, Int.toNat_natCast, List.getElem?_map, hv]; rfl) T4 rfl rfl rfl) ?_
    refine gC (fun ht74 => ?_) (fun ht74 => ?_)
    ·have hu := unm_hit (k := k2) (i := i) (by rw [hvd]; exact not_t ht74)
     refine go ?_
     refine gs (s_append (.tmp rfl) rfl (by rw [List.length_map]) (.tmp rfl) T32 rfl T3 rfl rfl (by dsimp only; simp only [List.length_cons, List.length_nil]; omega) rfl rfl) ?_ (27, 0)
     refine gW (Wk.of (sl := [(2, some (.lst 1 ((unmarked (restK l)).map i64))), (3, some (.ms 78 1 0 (unm k2 (i + 1)).length)), (66, some (.ms 901 1 0 k2.length)), (67, some (i64 k2.length)), (68, some (i64 i))]) (hp := [(901, some (.row 1 (k2.map bl))), (78, some (.row 1 ((unm k2 (i + 1)).map i64)))]) (.k (.cons rfl (Sub.of (by rw [hu, List.length_append]; rfl)) (.k (.k (.k .nil))))) (.cons rfl (.refl _) (.cons rfl (BlkSub.of (by rw [hu, List.map_append]; rfl)) .nil))) ?_
     refine gW (Wk.rekey (k := 78) (d := 902) rfl rfl) ?_
     refine go ?_
     refine gs (s_arithW (.tmp rfl) (.const _) rfl (i64_add1 (by unfold maxL; omega)) rfl) ?_
     exact gK1 hK5 (i + 1) hin8 (hw := Wk.of (.k (.cons rfl (Sub.of (by first | rw [hu]; done | rfl)) (.k (.k (.k .nil))))) (.cons rfl (.refl _) (.cons rfl (BlkSub.of (by first | rw [hu]; done | rfl)) .nil)))
    ·have hu := unm_miss (k := k2) (i := i) (by rw [hvd]; exact not_f ht74)
     refine go ?_
     refine gs (s_arithW (.tmp rfl) (.const _) rfl (i64_add1 (by unfold maxL; omega)) rfl) ?_
     exact gK1 hK5 (i + 1) hin8 (hw := Wk.of (.k (.cons rfl (Sub.of (by first | rw [hu]; done | rfl)) (.k (.k (.k .nil))))) (.cons rfl (.refl _) (.cons rfl (BlkSub.of (by first | rw [hu]; done | rfl)) .nil)))
   ·have hin8 := lss_end hb ht69
    refine go ?_ (28, 0)
    refine gW ((Wk.freeze (k := 902) rfl).trans <| Wk.of (sl := [(2, some (.lst 1 ((unmarked (restK l)).map i64))), (3, some (.lst 1 ((unmarked (restJ l)).map i64)))]) (hp := []) (.k (.cons rfl (Sub.of (by rw [fz_all (by rw [List.length_map]), hin8, e2]; rfl)) .nil)) .nil) ?_
    refine go ?_
    refine gE2 ?_
    rfl
theorem c_r25_Split (l : Li) (hl : l.ok) (hli : liE l = 0) : FnC Tryz.prog 30 [l.av] (.tup [.lst 4 ((splitG l).map Gr.av), i64 (splitE l)]) := by
 have h8 := (li_parts hli).2.2.2.1
 have hj16 : l.joints.length ≤ 16 := by have := (li_parts hli).2.1; unfold jtsE at this; split at this; cases this; omega
 have u1 := len_unK l
 have u2 := len_unJ l
 refine gF0 Tryz.func30 ?_
 refine go ?_
 refine gs (s_call (c_r25_Rest l hl hli) (.cons (.tmp rfl) .nil) rfl rfl) ?_
 refine gs (s_lenMap (.tmp rfl) T32 rfl rfl) ?_
 refine gs (s_lenMap (.tmp rfl) T32 rfl rfl) ?_
 refine gs (s_arithW (.tmp rfl) (.tmp rfl) rfl (i64_addI (by omega)) rfl) ?_
 refine gC (fun ht16 => ?_) (fun ht16 => ?_)
 ·have h1 : 0 < (unmarked (restK l)).length + (unmarked (restJ l)).length := gtr_t ht16
  have hE : splitE l = 7 := by unfold splitE; rw [if_neg (by omega)]
  refine go ?_
  refine gR ?_
  exact fin_sub (by unfold splitG; rw [if_neg (by rw [hE]; decide), hE]; exact Sub.tup (.cons (.nil _ _ _) (.cons (.refl _) .nil)))
 ·have h1 : (unmarked (restK l)).length + (unmarked (restJ l)).length ≤ 0 := gtr_f ht16
  have hE : splitE l = 0 := by unfold splitE; rw [if_pos (by omega)]
  refine go ?_
  refine gs (s_call (c_r25_Find l hl hli) (.cons (.tmp rfl) .nil) rfl rfl) ?_
  refine gE2 ?_
  unfold splitG; rw [if_pos hE, hE]; rfl
end Go.Lw
namespace Go.Lw
open Go.Proofs
def lowR (r : Rt) : Bool := !(cond (cond (cond (icmp .gtr (r.num.length : Int) 1) true (icmp .gtr (r.den.length : Int) 1)) true (cond (icmp .eql (r.num.length : Int) 1) (icmp .gtr (wordW r.num 0 : Int) 400) false)) true
  (cond (icmp .eql (r.den.length : Int) 1) (icmp .gtr (wordW r.den 0 : Int) 20) false))
theorem c_r02_Low (rs : List Rt) (hl : rs.length ≤ 1000) : FnC Tryz.prog 64 [.lst 3 (rs.map Rt.av)] (bl (rs.all lowR)) := by
 refine gF0 Tryz.func64 ?_
 refine go ?_
 refine gs (s_lenMap (.tmp rfl) T59 rfl rfl) ?_
 refine gL1 (fun (i : Nat) => (⟨[(5, some (.lst 3 (rs.map Rt.av))), (6, some (i64 rs.length)), (7, some (i64 i))], []⟩ : AS)) (fun (i : Nat) => i ≤ rs.length ∧ (rs.take i).all lowR = true) (fun (i : Nat) => rs.length - i) 0 ⟨Nat.zero_le _, rfl⟩ ?_
 rintro i ⟨hi, hj⟩ K1 hK1
 refine go ?_
 refine gC (fun ht8 => ?_) (fun ht8 => ?_)
 ·have hin := lss_t ht8
  obtain ⟨r, hr⟩ := getx hin
  refine go ?_
  refine gs (s_idxLst (.tmp rfl) (.tmp rfl) T59 rfl T68 rfl (by omega) (getmap hr) rfl) ?_
  refine gs (s_lenMap (.tmp rfl) T66 rfl rfl) ?_
  refine gs (s_guard rfl rfl rfl (fun h => s_lenMap (.opt rfl (o1 h)) T66 rfl rfl)) ?_
  refine gs (s_guard rfl rfl rfl (fun h => s_lenMap (.opt rfl (o1 h)) T66 rfl rfl)) ?_
  refine gs (s_guardO rfl rfl rfl (fun h h2 => s_idxLst (.opt rfl (o2 h h2)) (.const _) T66 rfl T186 rfl (by omega) (getw (by have := eql_t h2; have e : Int.toNat 0 = 0 := rfl; omega)) rfl)) ?_
  refine gs (s_guard rfl rfl rfl (fun h => s_lenMap (.opt rfl (o1 h)) T66 rfl rfl)) ?_
  refine gs (s_guardO rfl rfl rfl (fun h h2 => s_idxLst (.opt rfl (o2 h h2)) (.const _) T66 rfl T186 rfl (by omega) (getw (by have := eql_t h2; have e : Int.toNat 0 = 0 := rfl; omega)) rfl)) ?_
  refine gC (fun ht46 => ?_) (fun ht46 => ?_)
  ·have h1 : lowR r = false := congrArg Bool.not ht46
   refine go ?_
   refine gE1 ?_
   rw [all_miss hr h1]; rfl
  ·have h1 : lowR r = true := congrArg Bool.not ht46
   refine go ?_
   refine gs (s_arithW (.tmp rfl) (.const _) rfl (i64_add1 (by unfold maxL; omega)) rfl) ?_
   exact gK1 hK1 (i + 1) ⟨hin, all_step hj hr h1⟩
 ·have hin := lss_end hi ht8
  refine go ?_
  refine gE1 ?_
  rw [all_end hin hj]; rfl
def tnB (x : Tn) : Bool := decide (x.t.num.length ≤ 1 ∧ x.t.den.length ≤ 1)
def mk1 (m : Mk) : Bool := decide (m.x.num.length ≤ 1 ∧ m.x.den.length ≤ 1 ∧ m.y.num.length ≤ 1 ∧ m.y.den.length ≤ 1)
def lowT (xs : List Tn) : Bool := xs.all (fun x => [x.t].all lowR)
def lowP (ps : List Mk) : Bool := ps.all (fun p => [p.x, p.y].all lowR)
def lowL (l : Li) : Bool := l.bodies.all (fun b => lowP b.pts)
theorem c_l27_low (l : Li) (hl : l.ok) (xs : List Tn) (hxl : xs.length ≤ 281474976710656) : FnC Tryz.prog 31 [l.av, .lst 4 (xs.map Tn.av)] (bl (lowT xs && lowL l)) := by
 have hlb := hl.lb
 refine gF0 Tryz.func31 ?_
 refine go ?_
 refine gs (s_lenMap (.tmp rfl) T27 rfl rfl) ?_
 refine gL1 (fun (i : Nat) => (⟨[(2, some (.ptr 2 0)), (11, some (.lst 4 (xs.map Tn.av))), (12, some (i64 xs.length)), (13, some (i64 i))], [(2, some (.box l.av.cells))]⟩ : AS)) (fun (i : Nat) => i ≤ xs.length ∧ (xs.take i).all (fun x => [x.t].all lowR) = true) (fun (i : Nat) => xs.length - i) 0 ⟨Nat.zero_le _, rfl⟩ ?_
 rintro i ⟨hi, hj⟩ K1 hK1
 refine go ?_
 refine gC (fun ht14 => ?_) (fun ht14 => ?_)
 ·have hin := lss_t ht14
  obtain ⟨x, hx⟩ := getx hin
  refine go ?_
  refine gs (s_idxLst (.tmp rfl) (.tmp rfl) T27 rfl T81 rfl (by omega) (getmap hx) rfl) ?_
  refine gs (s_call (c_r02_Low [x.t] (by show 1 ≤ _; omega)) (.cons (.tmp rfl) .nil) rfl rfl) ?_
  refine gC (fun ht21 => ?_) (fun ht21 => ?_)
  ·have h1 := not_t ht21
   refine go ?_
   refine gE1 ?_
   unfold lowT; rw [all_miss hx h1]; rfl
  ·have h1 := not_f ht21
   refine go ?_
   refine gs (s_arithW (.tmp rfl) (.const _) rfl (i64_add1 (by unfold maxL; omega)) rfl) ?_
   exact gK1 hK1 (i + 1) ⟨hin, all_step hj hx h1⟩
 ·have hT : lowT xs = true := all_end (lss_end hi ht14) hj
  refine go ?_
  refine gs (s_lenMap (.tmp rfl) T22 rfl rfl) ?_
  refine gL1 (fun (i : Nat) => (⟨[(2, some (.ptr 2 0)), (24, some (.lst 2 (l.bodies.map Bd.av))), (25, some (i64 l.bodies.length)), (26, some (i64 i))], [(2, some (.box l.av.cells))]⟩ : AS)) (fun (i : Nat) => i ≤ l.bodies.length ∧ (l.bodies.take i).all (fun b => lowP b.pts) = true) (fun (i : Nat) => l.bodies.length - i) 0 ⟨Nat.zero_le _, rfl⟩ ?_
  rintro i ⟨hi2, hj2⟩ K2 hK2
  refine go ?_
  refine gC (fun ht27 => ?_) (fun ht27 => ?_)
  ·have hin := lss_t ht27
   obtain ⟨b, hb⟩ := getx hin
   have hbl := (hl.bodies b (List.mem_of_getElem? hb)).ll
   refine go ?_
   refine gs (s_idxLst (.tmp rfl) (.tmp rfl) T22 rfl T89 rfl (by omega) (getmap hb) rfl) ?_
   refine gs (s_lenMap (.tmp rfl) T87 rfl rfl) ?_
   refine gL1 (fun (k : Nat) => (⟨[(2, some (.ptr 2 0)), (24, some (.lst 2 (l.bodies.map Bd.av))), (25, some (i64 l.bodies.length)), (26, some (i64 i)), (31, some (.lst 7 (b.pts.map Mk.av))), (32, some (i64 b.pts.length)), (33, some (i64 k))], [(2, some (.box l.av.cells))]⟩ : AS)) (fun (k : Nat) => k ≤ b.pts.length ∧ (b.pts.take k).all (fun p => [p.x, p.y].all lowR) = true) (fun (k : Nat) => b.pts.length - k) 0 ⟨Nat.zero_le _, rfl⟩ ?_
   rintro k ⟨hk, hkj⟩ K3 hK3
   refine go ?_
   refine gC (fun ht34 => ?_) (fun ht34 => ?_)
   ·have hkn := lss_t ht34
    obtain ⟨p, hp⟩ := getx hkn
    refine go ?_
    refine gs (s_idxLst (.tmp rfl) (.tmp rfl) T87 rfl T91 rfl (by omega) (getmap hp) rfl) ?_
    refine gs (s_call (c_r02_Low [p.x, p.y] (by show 2 ≤ _; omega)) (.cons (.tmp rfl) .nil) rfl rfl) ?_
    refine gC (fun ht43 => ?_) (fun ht43 => ?_)
    ·have h1 := not_t ht43
     refine go ?_
     refine gE1 ?_
     rw [hT]; unfold lowL; rw [all_miss hb (by unfold lowP; exact all_miss hp h1)]; rfl
    ·have h1 := not_f ht43
     refine go ?_
     refine gs (s_arithW (.tmp rfl) (.const _) rfl (i64_add1 (by unfold maxL; omega)) rfl) ?_
     exact gK1 hK3 (k + 1) ⟨hkn, all_step hkj hp h1⟩
   ·have hP : lowP b.pts = true := all_end (lss_end hk ht34) hkj
    refine go ?_
    refine gs (s_arithW (.tmp rfl) (.const _) rfl (i64_add1 (by unfold maxL; omega)) rfl) ?_
    exact gK1 hK2 (i + 1) ⟨hin, all_step hj2 hb hP⟩
  ·have hL : lowL l = true := all_end (lss_end hi2 ht27) hj2
   refine go ?_
   refine gE1 ?_
   rw [hT, hL]; rfl
def resB (l : Li) (xs : List Tn) : Bool :=
  cond (cond (icmp .neq (splitE l : Int) 0) true (icmp .leq (((splitG l).length : Int) - l.drivers.length) 1)) true (cond (icmp .eql (((splitG l).length : Int) - l.drivers.length) 2) (lowT xs && lowL l) false)
def l27B (l : Li) (xs : List Tn) : Bool :=
  (liB l && decide (xs.length ≤ 20)) && (xs.all tnB && (l.bodies.all (fun b => b.pts.all mk1) && (if liE l = 0 then resB l xs else true)))
theorem l27_t {l : Li} {n : Nat} (h : cond (!liB l) true (icmp .gtr (n : Int) 20) = true) : (liB l && decide (n ≤ 20)) = false := by
 cases hb : liB l
 ·rfl
 ·rw [hb] at h
  have h1 : 20 < n := gtr_t (b := 20) h
  rw [decide_eq_false (by omega)]; rfl
theorem l27_f {l : Li} {n : Nat} (h : cond (!liB l) true (icmp .gtr (n : Int) 20) = false) : liB l = true ∧ n ≤ 20 := by
 cases hb : liB l
 ·rw [hb] at h; cases h
 ·rw [hb] at h; exact ⟨rfl, gtr_f (b := 20) h⟩
theorem tn_b {x : Tn} : cond (icmp .gtr (x.t.num.length : Int) 1) true (icmp .gtr (x.t.den.length : Int) 1) = !tnB x := by
 unfold tnB
 have e1 := gtr_b (n := x.t.num.length) (k := 1)
 have e2 := gtr_b (n := x.t.den.length) (k := 1)
 rw [or_cond]
 refine (congr (congrArg _ e1) e2).trans ?_
 rw [← Bool.decide_or, ← decide_not]
 exact decide_eq_decide.2 (by omega)
theorem mk1_b {m : Mk} : cond (cond (cond (icmp .gtr (m.x.num.length : Int) 1) true (icmp .gtr (m.x.den.length : Int) 1)) true (icmp .gtr (m.y.num.length : Int) 1)) true (icmp .gtr (m.y.den.length : Int) 1) = !mk1 m := by
 unfold mk1
 have e1 := gtr_b (n := m.x.num.length) (k := 1)
 have e2 := gtr_b (n := m.x.den.length) (k := 1)
 have e3 := gtr_b (n := m.y.num.length) (k := 1)
 have e4 := gtr_b (n := m.y.den.length) (k := 1)
 rw [or_cond, or_cond, or_cond]
 refine (congr (congrArg _ (congr (congrArg _ (congr (congrArg _ e1) e2)) e3)) e4).trans ?_
 rw [← Bool.decide_or, ← Bool.decide_or, ← Bool.decide_or, ← decide_not]
 exact decide_eq_decide.2 (by omega)
theorem splitG_len {l : Li} (hl : liE l = 0) : (splitG l).length ≤ 8 := by
 unfold splitG; split
 ·exact (findG_ok hl).2
 ·exact Nat.zero_le _
theorem c_l27_Light (l : Li) (hw : l.okw) (xs : List Tn) (hxl : xs.length ≤ 281474976710656) : FnC Tryz.prog 7 [l.av, .lst 4 (xs.map Tn.av)] (bl (l27B l xs)) := by
 refine gF0 Tryz.func7 ?_
 refine go ?_
 refine gs (s_call (c_l25_Light l hw) (.cons (.tmp rfl) .nil) rfl rfl) ?_
 refine gs (s_guard rfl rfl rfl (fun h => s_lenMap (.opt rfl (o1 h)) T27 rfl rfl)) ?_
 refine gC (fun ht21 => ?_) (fun ht21 => ?_)
 ·have h1 := l27_t ht21
  refine go ?_
  refine gE1 ?_
  unfold l27B; rw [h1]; rfl
 ·obtain ⟨g1, g2⟩ := l27_f ht21
  have hl := li_ok g1 hw
  have hlb := hl.lb
  refine go ?_
  refine gs (s_lenMap (.tmp rfl) T27 rfl rfl) ?_
  refine gL1 (fun (i : Nat) => (⟨[(1, some (.lst 4 (xs.map Tn.av))), (2, some (.ptr 2 0)), (22, some (.lst 4 (xs.map Tn.av))), (23, some (i64 xs.length)), (24, some (i64 i))], [(2, some (.box l.av.cells))]⟩ : AS)) (fun (i : Nat) => i ≤ xs.length ∧ (xs.take i).all tnB = true) (fun (i : Nat) => xs.length - i) 0 ⟨Nat.zero_le _, rfl⟩ ?_
  rintro i ⟨hi, hj⟩ K1 hK1
  refine go ?_
  refine gC (fun ht25 => ?_) (fun ht25 => ?_)
  ·have hin := lss_t ht25
   obtain ⟨x, hx⟩ := getx hin
   refine go ?_
   refine gs (s_idxLst (.tmp rfl) (.tmp rfl) T27 rfl T81 rfl (by omega) (getmap hx) rfl) ?_
   refine gs (s_lenMap (.tmp rfl) T66 rfl rfl) ?_
   refine gs (s_guard rfl rfl rfl (fun h => s_lenMap (.opt rfl (o1 h)) T66 rfl rfl)) ?_
   refine gC (fun ht39 => ?_) (fun ht39 => ?_)
   ·have h1 : tnB x = false := by rw [tn_b] at ht39; exact not_t ht39
    refine go ?_
    refine gE1 ?_
    unfold l27B; rw [g1, decide_eq_true g2, all_miss hx h1]; rfl
   ·have h1 : tnB x = true := by rw [tn_b] at ht39; exact not_f ht39
    refine go ?_
    refine gs (s_arithW (.tmp rfl) (.const _) rfl (i64_add1 (by unfold maxL; omega)) rfl) ?_
    exact gK1 hK1 (i + 1) ⟨hin, all_step hj hx h1⟩
  ·have hT : xs.all tnB = true := all_end (lss_end hi ht25) hj
   refine go ?_
   refine gs (s_lenMap (.tmp rfl) T22 rfl rfl) ?_
   refine gL1 (fun (i : Nat) => (⟨[(1, some (.lst 4 (xs.map Tn.av))), (2, some (.ptr 2 0)), (42, some (.lst 2 (l.bodies.map Bd.av))), (43, some (i64 l.bodies.length)), (44, some (i64 i))], [(2, some (.box l.av.cells))]⟩ : AS)) (fun (i : Nat) => i ≤ l.bodies.length ∧ (l.bodies.take i).all (fun b => b.pts.all mk1) = true) (fun (i : Nat) => l.bodies.length - i) 0 ⟨Nat.zero_le _, rfl⟩ ?_
   rintro i ⟨hi2, hj2⟩ K2 hK2
   refine go ?_
   refine gC (fun ht45 => ?_) (fun ht45 => ?_)
   ·have hin := lss_t ht45
    obtain ⟨b, hb⟩ := getx hin
    have hbl := (hl.bodies b (List.mem_of_getElem? hb)).ll
    refine go ?_
    refine gs (s_idxLst (.tmp rfl) (.tmp rfl) T22 rfl T89 rfl (by omega) (getmap hb) rfl) ?_
    refine gs (s_lenMap (.tmp rfl) T87 rfl rfl) ?_
    refine gL1 (fun (k : Nat) => (⟨[(1, some (.lst 4 (xs.map Tn.av))), (2, some (.ptr 2 0)), (42, some (.lst 2 (l.bodies.map Bd.av))), (43, some (i64 l.bodies.length)), (44, some (i64 i)), (49, some (.lst 7 (b.pts.map Mk.av))), (50, some (i64 b.pts.length)), (51, some (i64 k))], [(2, some (.box l.av.cells))]⟩ : AS)) (fun (k : Nat) => k ≤ b.pts.length ∧ (b.pts.take k).all mk1 = true) (fun (k : Nat) => b.pts.length - k) 0 ⟨Nat.zero_le _, rfl⟩ ?_
    rintro k ⟨hk, hkj⟩ K3 hK3
    refine go ?_
    refine gC (fun ht52 => ?_) (fun ht52 => ?_)
    ·have hkn := lss_t ht52
     obtain ⟨p, hp⟩ := getx hkn
     refine go ?_
     refine gs (s_idxLst (.tmp rfl) (.tmp rfl) T87 rfl T91 rfl (by omega) (getmap hp) rfl) ?_
     refine gs (s_lenMap (.tmp rfl) T66 rfl rfl) ?_
     refine gs (s_guard rfl rfl rfl (fun h => s_lenMap (.opt rfl (o1 h)) T66 rfl rfl)) ?_
     refine gs (s_guard rfl rfl rfl (fun h => s_lenMap (.opt rfl (o1 h)) T66 rfl rfl)) ?_
     refine gs (s_guard rfl rfl rfl (fun h => s_lenMap (.opt rfl (o1 h)) T66 rfl rfl)) ?_
     refine gC (fun ht80 => ?_) (fun ht80 => ?_)
     ·have h1 : mk1 p = false := by rw [mk1_b] at ht80; exact not_t ht80
      refine go ?_
      refine gE1 ?_
      unfold l27B; rw [g1, decide_eq_true g2, hT, all_miss hb (all_miss hp h1)]; rfl
     ·have h1 : mk1 p = true := by rw [mk1_b] at ht80; exact not_f ht80
      refine go ?_
      refine gs (s_arithW (.tmp rfl) (.const _) rfl (i64_add1 (by unfold maxL; omega)) rfl) ?_
      exact gK1 hK3 (k + 1) ⟨hkn, all_step hkj hp h1⟩
    ·have hP : b.pts.all mk1 = true := all_end (lss_end hk ht52) hkj
     refine go ?_
     refine gs (s_arithW (.tmp rfl) (.const _) rfl (i64_add1 (by unfold maxL; omega)) rfl) ?_
     exact gK1 hK2 (i + 1) ⟨hin, all_step hj2 hb hP⟩
   ·have hL : l.bodies.all (fun b => b.pts.all mk1) = true := all_end (lss_end hi2 ht45) hj2
    refine go ?_
    refine gs (s_call (c_r19_Check l hl) (.cons (.tmp rfl) .nil) rfl rfl) ?_
    refine gC (fun ht85 => ?_) (fun ht85 => ?_)
    ·have h1 := neq_t ht85
     refine go ?_
     refine gE1 ?_
     unfold l27B; rw [g1, decide_eq_true g2, hT, hL, if_neg h1]; rfl
    ·have h1 := neq_f ht85
     have hsl := splitG_len h1
     have hld := hl.ld
     refine go ?_
     refine gs (s_call (c_r25_Split l hl h1) (.cons (.tmp rfl) .nil) rfl rfl) ?_
     refine gs (s_lenMap (.tmp rfl) T93 rfl rfl) ?_
     refine gs (s_lenMap (.tmp rfl) T24 rfl rfl) ?_
     refine gs (s_arithW (.tmp rfl) (.tmp rfl) rfl (i64_subI (by omega)) rfl) ?_
     refine gs (s_guardO rfl rfl rfl (fun h h2 => s_call (c_l27_low l hl xs hxl) (.cons (.opt rfl (o2 h h2)) (.cons (.opt rfl (o2 h h2)) .nil)) rfl rfl)) ?_
     refine gE1 ?_
     unfold l27B resB; rw [g1, decide_eq_true g2, hT, hL, if_pos h1]; rfl
end Go.Lw
namespace Go.Lw
open Go.Proofs
theorem l27_parts {l : Li} {xs : List Tn} (h : l27B l xs = true) : liB l = true ∧ xs.length ≤ 20 ∧ xs.all tnB = true := by
 unfold l27B at h
 simp only [Bool.and_eq_true, decide_eq_true_eq] at h
 exact ⟨h.1.1, h.1.2, h.2.1⟩
theorem tn_lok {x : Tn} (h : tnB x = true) (ho : x.t.wok) : x.t.ok ∧ Qb 1000 x.t.q := by
 unfold tnB at h
 rw [decide_eq_true_eq] at h
 have hx := ho.ok h.1 h.2 (by omega)
 exact ⟨hx, (Rt.qb hx (k := 1) (by omega) h.1 h.2).mono (by omega)⟩
theorem lw1_t {p q : Bool} (h : cond (cond (!true) true (!p)) true (!q) = false) : p = true ∧ q = true := by cases p <;> cases q <;> simp_all
theorem c_law_Verifies (l : Li) (hw : l.okw) (xs : List Tn) (hxw : ∀ x ∈ xs, x.t.wok) (hxl : xs.length ≤ 281474976710656) (a : As) (ha : a.ok) : FnC Tryz.prog 3 [l.av, .lst 4 (xs.map Tn.av), a.av] (bl true) := by
 refine gF0 Tryz.func3 ?_
 refine go ?_
 refine gs (s_call c_l28_awake .nil rfl rfl) ?_
 refine gs (s_guard rfl rfl rfl (fun h => s_call (c_l27_Light l hw xs hxl) (.cons (.opt rfl (o1 h)) (.cons (.opt rfl (o1 h)) .nil)) rfl rfl)) ?_
 refine gs (s_guard rfl rfl rfl (fun h => s_call (c_l28_light a ha) (.cons (.opt rfl (o1 h)) .nil) rfl rfl)) ?_
 refine gC (fun ht24 => ?_) (fun ht24 => ?_)
 ·refine go ?_
  refine gs (s_call c_l28_awake .nil rfl rfl) ?_
  refine gE1 ?_
  first | rfl | (simp; done)
 ·obtain ⟨h1, h2⟩ := lw1_t ht24
  have hal := as_al h2 ha
  obtain ⟨h3, h4, h5⟩ := l27_parts h1
  rw [List.all_eq_true] at h5
  have hl := li_ok h3 hw
  have hxs : ∀ x ∈ xs, x.t.ok ∧ Qb 1000 x.t.q := fun x hx => tn_lok (h5 x hx) (hxw x hx)
  refine go ?_
  refine gs (s_call (c_certify_Verify hl xs hxs hxl hal) (.cons (.tmp rfl) (.cons (.tmp rfl) (.cons (.tmp rfl) .nil))) rfl rfl) ?_
  refine gs (s_call (c_r28_Bad l hl xs (fun x hx => (hxs x hx).1) hxl) (.cons (.tmp rfl) (.cons (.tmp rfl) .nil)) rfl rfl) ?_
  refine gC (fun ht38 => ?_) (fun ht38 => ?_)
  ·have h6 := neq_t ht38
   refine go ?_
   refine gs (s_guard rfl rfl rfl (fun h => s_eq2 (.opt rfl (o1 h)) (.opt rfl (o1 h)) (by kernel_rfl) rfl)) ?_
   refine gs (s_guard rfl rfl rfl (fun h => s_call (c_base_Num (badE l xs)) (.cons (.opt rfl (o1 h)) .nil) rfl rfl)) ?_
   refine gE1 ?_
   simp [h6, icmp, bl]
  ·have h6 := neq_f ht38
   obtain ⟨h7, h8, h9⟩ := badE_ok h6
   refine go ?_
   refine gs (s_call (c_r28_Fault hl h7 xs (fun x hx => ⟨(hxs x hx).1, h9 x hx, (hxs x hx).2⟩) h8 hal) (.cons (.tmp rfl) (.cons (.tmp rfl) (.cons (.tmp rfl) .nil))) rfl rfl) ?_
   refine gs (s_guard rfl rfl rfl (fun h => s_eq2 (.opt rfl (o1 h)) (.opt rfl (o1 h)) (by kernel_rfl) rfl)) ?_
   refine gE1 ?_
   rw [h6]
   simp [bl, errV, isNil]
   exact Bool.eq_iff_iff.2 (by simp [icmp])
end Go.Lw
namespace Go.Lw
open Go.Proofs Go.Proofs.YtnjialefedaceaaGreat
open Go.ChangeShapes Go.WideShapes Go.ChangeAt Go.RowKit
set_option maxRecDepth 100000 in
theorem certifyVerifies_lifted (os : Os) (started : os.Started) (H : Type) (enc : TypeId × Value → H) :
  ReturnsInHanded {} Tryz.checked os 3 .any (Rows.certifyVerifiesSpec.pre6 enc Tryz.prog Tryz.f3 Rows.certifyVerifiesRow.domain false) (Rows.certifyVerifiesSpec.post enc Tryz.prog Tryz.f3 false true false false) := by
 refine returnsInHanded_of_change_sized (C := Tryz.checked) own started (by kernel_rfl) Tryz.func3
  (ChangeSpec.witness6 (enc := enc) (C := Tryz.checked) false ⟨#[], #[.agg #[.string ⟨#[]⟩, .slice none 0 0, .slice none 0 0, .slice none 0 0], .slice none 0 0, .agg #[.slice none 0 0, .slice none 0 0, .slice none 0 0]], []⟩ 8 (by kernel_rfl) (by kernel_rfl) (by kernel_rfl) (by kernel_rfl)) ?_
 intro W base args ds gs before hval0 hW hcnd hwt0 _
 have hval : ∀ (j : Nat) t v, Tryz.f3.params[j]? = some t → args[j]? = some v → Value.okWide Tryz.prog W .any base t v := hval0
 have hwt : (DataW.weightsEach Tryz.prog (Tryz.f3.params.toList ++ Rows.certifyVerifiesSpec.plain.varTypes Tryz.prog) (ds ++ gs)).all (· ≤ reachBytes) = true := hwt0
 have hW' := hW
 obtain ⟨p, q, hA0, hV, rfl, hfz, hnd⟩ := hW
 have hA : DataW.TrodAll enc Tryz.prog W 0 (fun _ => true) true Tryz.f3.params.toList args.toList ds p := hA0
 rw [Tryz.params3] at hA hval hwt
 obtain ⟨v0, v1, v2, d0, d1, d2, p0, p1, p2, rfl, rfl, rfl, h0, h1, h2⟩ := trodAll_three hA
 obtain ⟨rfl, rfl⟩ := trodVars_none hV
 clear hA0 hval0 hwt0
 have hlt : ∀ x ∈ p0 ++ p1 ++ p2, x.block < W.heap.size := fun x hx => hW'.lt x (by simpa using hx)
 have hw0 : ∀ n ∈ d0.weights Tryz.prog 26, n ≤ reachBytes := fun n hn => by
  have := List.all_eq_true.1 hwt n (DataW.weights_mem_each (j := 0) rfl rfl n hn)
  simpa using this
 have hw1 : ∀ n ∈ d1.weights Tryz.prog 27, n ≤ reachBytes := fun n hn => by
  have := List.all_eq_true.1 hwt n (DataW.weights_mem_each (j := 1) rfl rfl n hn)
  simpa using this
 have hw2 : ∀ n ∈ d2.weights Tryz.prog 34, n ≤ reachBytes := fun n hn => by
  have := List.all_eq_true.1 hwt n (DataW.weights_mem_each (j := 2) rfl rfl n hn)
  simpa using this
 obtain ⟨x0, q0, r0⟩ := arg_agg Tryz.underlying26 op_link (hval 0 26 v0 rfl rfl) h0 hw0
 obtain ⟨x1, q1, r1⟩ := arg_one op_turns (fun _ => rfl) (notAgg_slice Tryz.underlying27 (hval 1 27 v1 rfl rfl)) h1 hw1
 obtain ⟨x2, q2, r2⟩ := arg_agg Tryz.underlying34 op_asm (hval 2 34 v2 rfl rfl) h2 hw2
 have hc := FnC.calls (W := W) (vs := #[v0, v1, v2]) (c_law_Verifies x0 q0 x1 q1.1 q1.2 x2 q2) rfl (fun j v x hv hx => by
  match j, hv, hx with
  | 0, hv, hx => cases hv; cases hx; exact r0
  | 1, hv, hx => cases hv; cases hx; exact r1
  | 2, hv, hx => cases hv; cases hx; exact r2)
 refine hc.mono fun e W' ⟨he, hb⟩ => ?_
 subst he
 refine ⟨_, rfl, post_of_below hW' rfl rfl (fun _ _ _ => trodAll_mk1 (shut_bool Tryz.underlying4 _)) (fun sp hsp => ?_) rfl hb (ok_one (by kernel_rfl) rfl (okWide_bool_mk Tryz.underlying4 _))⟩
 rw [Tryz.params3]
 have hs : ∀ x ∈ p0 ++ p1 ++ p2, sp x.block = true := fun x hx => hsp x (by simpa using hx)
 have g0 := arg_back (sp' := sp) (by kernel_rfl) (of_decide_eq_true (by kernel_rfl)) h0 hb (fun x hx => hlt x (by simp [hx])) (fun x hx => hs x (by simp [hx]))
 have g1 := arg_back (sp' := sp) (by kernel_rfl) (of_decide_eq_true (by kernel_rfl)) h1 hb (fun x hx => hlt x (by simp [hx])) (fun x hx => hs x (by simp [hx]))
 have g2 := arg_back (sp' := sp) (by kernel_rfl) (of_decide_eq_true (by kernel_rfl)) h2 hb (fun x hx => hlt x (by simp [hx])) (fun x hx => hs x (by simp [hx]))
 have g := trodAll_mk3 g0 g1 g2
 rw [show p0 ++ p1 ++ p2 ++ [] = p0 ++ (p1 ++ p2) from by simp]
 exact g
theorem certifyVerifies_holds : Rows.CertifyVerifiesSaid :=
 OpenClaim.holds_of_wide 3 Tryz.f3 rfl rfl rfl rfl rfl rfl rfl ⟨rfl, rfl, rfl, rfl, rfl⟩ rfl rfl rfl rfl rfl (by kernel_rfl) Tryz.func3 (by kernel_rfl)
  (of_decide_eq_true (by kernel_rfl)) (by unfold Func.isWrapper; first | (rw [if_pos (by decide +kernel)]; kernel_rfl) | (rw [if_neg (by decide +kernel)]; exact ⟨rfl, rfl⟩))
  (fun os started H enc _ => certifyVerifies_lifted os started H enc)
end Go.Lw
namespace Go.Proofs.YtnjialefedaceaaGreat
theorem certifyVerifies_proved : Rows.CertifyVerifiesSaid := Go.Lw.certifyVerifies_holds
end Go.Proofs.YtnjialefedaceaaGreat
