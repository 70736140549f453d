/- ForcePowers: for any assembly, velocities and loads the law returns true and leaves its arguments as they were; ForceLinear: for any assembly, velocities and two lists of loads the law returns true and leaves its arguments as they were. No other condition. Part 7 of 7: the statement -/
import Derived.Test.YtjidoooidfcjgaaGreatYf
set_option linter.unusedVariables false
open List (all_eq_true)
open Go.Proofs.Tryz
namespace Go.Lw
open Go.Proofs Go.Proofs.YtjidoooidfcjgaaGreat
open Go.ChangeShapes Go.WideShapes Go.ChangeAt Go.RowKit
set_option maxRecDepth 100000 in
theorem akp (os : Os) (started : os.Started) (H : Type) (enc : TypeId × Value -> H) :
  ReturnsInHanded {} Tryz.checked os 8 .any (Rows.forceLinearSpec.pre6 enc prog Tryz.f8 Rows.forceLinearRow.domain false) (Rows.forceLinearSpec.post enc prog Tryz.f8 false true false false) := by
 refine returnsInHanded_of_change_sized (C := Tryz.checked) own started (by kernel_rfl) func8
  (ChangeSpec.witness6 (enc := enc) (C := Tryz.checked) false ⟨#[],#[.agg #[.slice none 0 0,.slice none 0 0,.slice none 0 0],.slice none 0 0,.agg #[.slice none 0 0,.slice none 0 0]],[]⟩ 8 (by kernel_rfl) (by kernel_rfl) (by kernel_rfl) (by kernel_rfl)) ?_
 intro W base args ds gs before hval0 hW hcnd hwt0 _
 have hval : ∀ (j : Nat) t v,Tryz.f8.params[j]? = some t -> args[j]? = some v -> Value.okWide prog W .any base t v := hval0
 have hwt : (DataW.weightsEach prog (Tryz.f8.params.toList ++ Rows.forceLinearSpec.plain.varTypes prog) (ds ++ gs)).all (· <= reachBytes) = true := hwt0
 have hW' := hW
 obtain ⟨p,q,hA0,hV,rfl,hfz,hnd⟩ := hW
 have hA : DataW.TrodAll enc prog W 0 (fun _ => true) true Tryz.f8.params.toList args.toList ds p := hA0
 rw [Tryz.params8] at hA hval hwt
 obtain ⟨v0,v1,v2,d0,d1,d2,p0,p1,p2,rfl,rfl,rfl,h0,h1,h2⟩ := trodAll_three hA
 obtain ⟨rfl,rfl⟩ := trodVars_none hV
 clear hA0 hval0 hwt0
 have hlt : ∀ x ∈ p0 ++ p1 ++ p2,x.block < W.heap.size := fun x hx => hW'.lt x (by simpa using hx)
 have hw0 : ∀ n ∈ d0.weights prog 33, n <= reachBytes := fun n hn => by
  have := List.all_eq_true.1 hwt n (DataW.weights_mem_each (j := 0) rfl rfl n hn)
  simpa using this
 have hw1 : ∀ n ∈ d1.weights prog 90, n <= reachBytes := fun n hn => by
  have := List.all_eq_true.1 hwt n (DataW.weights_mem_each (j := 1) rfl rfl n hn)
  simpa using this
 have hw2 : ∀ n ∈ d2.weights prog 98, n <= reachBytes := fun n hn => by
  have := List.all_eq_true.1 hwt n (DataW.weights_mem_each (j := 2) rfl rfl n hn)
  simpa using this
 obtain ⟨x0,q0,r0⟩ := a4w Tryz.underlying33 a91 (hval 0 33 v0 rfl rfl) h0 hw0
 obtain ⟨x1,q1,r1⟩ := au1 ayq (fun _ => rfl) (aid Tryz.underlying90 (hval 1 90 v1 rfl rfl)) h1 hw1
 obtain ⟨x2,q2,r2⟩ := bef Tryz.underlying98 a1v (hval 2 98 v2 rfl rfl) h2 hw2
 have hc := FnC.calls (W := W) (vs := #[v0, v1, v2]) (atv x0 q0 x1 q1.1 q1.2 x2.1 x2.2 q2.1 q2.2) rfl (fun j v x hv hx => by
  match j,hv,hx with
  | 0,hv,hx => cases hv; cases hx; exact r0
  | 1,hv,hx => cases hv; cases hx; exact r1
  | 2,hv,hx => cases hv; cases hx; exact r2)
 refine hc.mono fun e W' ⟨he,hb⟩ => ?_
 subst he
 refine ⟨_,rfl,ak9 hW' rfl rfl (fun _ _ _ => trodAll_mk1 (shut_bool Tryz.underlying4 _)) (fun sp hsp => ?_) rfl hb (ok_one (by kernel_rfl) rfl (okWide_bool_mk Tryz.underlying4 _))⟩
 rw [Tryz.params8]
 have hs : ∀ x ∈ p0 ++ p1 ++ p2,sp x.block = true := fun x hx => hsp x (by simpa using hx)
 have g0 := aiw (sp' := sp) (by kernel_rfl) (of_decide_eq_true (by kernel_rfl)) h0 hb (fun x hx => hlt x (by simp [hx])) (fun x hx => hs x (by simp [hx]))
 have g1 := aiw (sp' := sp) (by kernel_rfl) (of_decide_eq_true (by kernel_rfl)) h1 hb (fun x hx => hlt x (by simp [hx])) (fun x hx => hs x (by simp [hx]))
 have g2 := aiw (sp' := sp) (by kernel_rfl) (of_decide_eq_true (by kernel_rfl)) h2 hb (fun x hx => hlt x (by simp [hx])) (fun x hx => hs x (by simp [hx]))
 have g := trodAll_mk3 g0 g1 g2
 rw [show p0 ++ p1 ++ p2 ++ [] = p0 ++ (p1 ++ p2) from by simp]
 exact g
set_option maxRecDepth 100000 in
theorem anu : prog.closure 8 = [8,41,119,220,120,221,241,333,222,133,236,239,332,240,215,237,330,393,334,395,243,394,242,238,331,396,244,104,194,144,260,102,198,300,372,373,410,199,229,326,308,312,380,377,381,422,423,362,424,425,421,426,427,310,271,270,327,307,311,200,301,302,374,207,306,379,201,348,401,432,444,434,447,448,446,402,433,445,436,435,403,261,349,210,313,295,203,196,150,208,209,309,376,378,149,206,305,268,350,345,364,195,296,192,370,297,52,56,145,262,263,351,286,367,288,368,366,285,269,111,146,264,352,147,266,363,265,353,359,409,354,404,355,405,406,356,407,408,437,357,358,360,361,148,267,138,247,335,281,397,431,443,248,151,157,73,71,167,169,168,284,164,365,282,163,287,231,159,170,158,249,155,280,68,161,283,165,59,258,347,400,65,162,63,66,250,139,58,152,156,251,336,398,337,61,252,153,272,225,273,205,154,275,160,274,277,276,279,278,338,339,340,399,341,342,343,256,344,346,253,259,140,62,72,254,141,69,166,64,70,67,255,257,298,371,121,223,304,375,412,413,438,439,449,414,411,416,417,440,441,442,450,415,419,420,418,318,384,428,429,13,57,319,385,430,386,226,324,392,323,325,320,321,387,388,390,389,322,391,124,227,228,125,126,230,328,224,123,54,137,213,132,212,314,315,382,134,49,135,245,17,79,175,129,233,292,176,235,329,293,234,294,369,177,178,116,42,122,143,55,46,47,130,43,44,48,131]:=by kernel_rfl
theorem ak3 : joinedFacts prog 8 Tryz.f8 Rows.forceLinearSpec Rows.forceLinearRow = true := by
 unfold joinedFacts Program.recurses Program.inPlace Program.unfollowed Program.varsNamed
 rw [anu,ave,ax0,ayu,a1d,ax4,aw7]
 kernel_rfl
theorem forceLinear_holds : Rows.ForceLinearSaid :=
 OpenClaim.holds_of_wide 8 Tryz.f8 rfl rfl rfl rfl rfl rfl rfl ⟨rfl, rfl, rfl, rfl, rfl⟩ rfl rfl rfl rfl rfl (by kernel_rfl) func8 ak3
  (of_decide_eq_true (by kernel_rfl)) (by unfold Func.isWrapper; first | (rw [if_pos (by decide +kernel)]; kernel_rfl) | (rw [if_neg (by decide +kernel)]; exact ⟨rfl,rfl⟩))
  (fun os started H enc _ => akp os started H enc)
end Go.Lw
namespace Go.Lw
end Go.Lw
namespace Go.Proofs.YtjidoooidfcjgaaGreat
theorem forcePowers_proved : Rows.ForcePowersSaid := Go.Lw.forcePowers_holds
end Go.Proofs.YtjidoooidfcjgaaGreat
namespace Go.Proofs.YtjidoooidfcjgaaGreat
theorem forceLinear_proved : Rows.ForceLinearSaid := Go.Lw.forceLinear_holds
end Go.Proofs.YtjidoooidfcjgaaGreat
