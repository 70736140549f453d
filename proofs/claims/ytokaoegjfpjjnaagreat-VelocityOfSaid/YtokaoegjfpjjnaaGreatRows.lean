/-
  No cell of these rows narrows 'for every input' (looked for: loops, veiled, ifaces, maps, wideKeys, modest, calm, conditions, laid).
  DERIVED. THE GIVEN ROWS OF THIS SEAT. 5 by the template 'for every input the law returns true; each argument reads behind the call as it read before'; 0 by the template 'total and deterministic' (their statements: YtokaoegjfpjjnaaGreatTotals.lean).
  GIVEN WITH THE SEED: the statements are not yours to turn. If you find one false, say at which input.
  Laid BY PROGRAM, IN A SANDBOX (cutbox-rows.mjs): the forced cells as the released guide's own fill.sh prints them over the translation c3bb0070d0c1c519… (all of the seat's roots in one cut). By AI agents, Wed Nov 11 2026. No macro, syntax, notation, axiom, sorry.
-/
import Derived.Test.YtokaoegjfpjjnaaGreatChecked
import GoSem.Claim
import GoSem.ClaimJoined
import GoSem.ClaimMapViews
import Derived.JoinedTies
import Derived.KernelRfl
namespace Go.Proofs.YtokaoegjfpjjnaaGreat
/- THE CELL 'sum', in the pinned program and in every row, IS THE sha256 OF THE DUMP (.gsa) THAT YtokaoegjfpjjnaaGreatProg.lean LOADS. Nothing in Lean hashes anything: it is a label: what it is worth is what the hold of that sum in a sandbox is worth. -/
noncomputable def Tryz.pinned : Pinned := { name := "ytokaoegjfpjjnaagreat", sum := "c3bb0070d0c1c519ef14d41e73d9ff271507c10fc8274dc92e110eb1ab3e5da9", checked := Tryz.checked }
namespace Rows
def none {H : Type} : Left H := { results := [], args := [] }

/-- 'linkworklaw27.AssembleComplete': WHATEVER THE INPUT: true; the input reads as it did. -/
def assembleCompleteSpec : ChangeSpec := { name := "assembleComplete", fn := fun _ => fun
  | [d] => { results := [.lit (.bool true)], args := [d] }
  | _ => none }
def assembleCompleteRow : OpenClaim := { program := "ytokaoegjfpjjnaagreat", sum := "c3bb0070d0c1c519ef14d41e73d9ff271507c10fc8274dc92e110eb1ab3e5da9", func := "linkwork/linkworklaw27.AssembleComplete", spec := "assembleComplete", unfollowed := true, recurses := true, apart := false }
def AssembleCompleteSaid : Prop := assembleCompleteRow.holds Tryz.pinned (OpenSpec.ofChange assembleCompleteSpec)

/-- ITS FALSE NEIGHBOUR: 'it returns false'. Refute it at one input. -/
def assembleCompleteWrong : ChangeSpec := { name := "assembleComplete", fn := fun _ => fun
  | [d] => { results := [.lit (.bool false)], args := [d] }
  | _ => none }
def AssembleCompleteWrongFalsely : Prop := assembleCompleteRow.holds Tryz.pinned (OpenSpec.ofChange assembleCompleteWrong)

/-- 'linkworklaw29.ModesImage': WHATEVER THE INPUT: true; the input reads as it did. -/
def modesImageSpec : ChangeSpec := { name := "modesImage", fn := fun _ => fun
  | [d1, d2] => { results := [.lit (.bool true)], args := [d1, d2] }
  | _ => none }
def modesImageRow : OpenClaim := { program := "ytokaoegjfpjjnaagreat", sum := "c3bb0070d0c1c519ef14d41e73d9ff271507c10fc8274dc92e110eb1ab3e5da9", func := "linkwork/linkworklaw29.ModesImage", spec := "modesImage", unfollowed := true, recurses := true, apart := false }
def ModesImageSaid : Prop := modesImageRow.holds Tryz.pinned (OpenSpec.ofChange modesImageSpec)

/-- ITS FALSE NEIGHBOUR: 'it returns false'. Refute it at one input. -/
def modesImageWrong : ChangeSpec := { name := "modesImage", fn := fun _ => fun
  | [d1, d2] => { results := [.lit (.bool false)], args := [d1, d2] }
  | _ => none }
def ModesImageWrongFalsely : Prop := modesImageRow.holds Tryz.pinned (OpenSpec.ofChange modesImageWrong)

/-- 'linkworklaw30.SingularModes': WHATEVER THE INPUT: true; the input reads as it did. -/
def singularModesSpec : ChangeSpec := { name := "singularModes", fn := fun _ => fun
  | [d1, d2] => { results := [.lit (.bool true)], args := [d1, d2] }
  | _ => none }
def singularModesRow : OpenClaim := { program := "ytokaoegjfpjjnaagreat", sum := "c3bb0070d0c1c519ef14d41e73d9ff271507c10fc8274dc92e110eb1ab3e5da9", func := "linkwork/linkworklaw30.SingularModes", spec := "singularModes", unfollowed := true, recurses := true, apart := false }
def SingularModesSaid : Prop := singularModesRow.holds Tryz.pinned (OpenSpec.ofChange singularModesSpec)

/-- ITS FALSE NEIGHBOUR: 'it returns false'. Refute it at one input. -/
def singularModesWrong : ChangeSpec := { name := "singularModes", fn := fun _ => fun
  | [d1, d2] => { results := [.lit (.bool false)], args := [d1, d2] }
  | _ => none }
def SingularModesWrongFalsely : Prop := singularModesRow.holds Tryz.pinned (OpenSpec.ofChange singularModesWrong)

/-- 'linkworklaw42.VelocityOf': WHATEVER THE INPUT: true; the input reads as it did. -/
def velocityOfSpec : ChangeSpec := { name := "velocityOf", fn := fun _ => fun
  | [d1, d2, d3] => { results := [.lit (.bool true)], args := [d1, d2, d3] }
  | _ => none }
def velocityOfRow : OpenClaim := { program := "ytokaoegjfpjjnaagreat", sum := "c3bb0070d0c1c519ef14d41e73d9ff271507c10fc8274dc92e110eb1ab3e5da9", func := "linkwork/linkworklaw42.VelocityOf", spec := "velocityOf", unfollowed := true, recurses := true, apart := false }
def VelocityOfSaid : Prop := velocityOfRow.holds Tryz.pinned (OpenSpec.ofChange velocityOfSpec)

/-- ITS FALSE NEIGHBOUR: 'it returns false'. Refute it at one input. -/
def velocityOfWrong : ChangeSpec := { name := "velocityOf", fn := fun _ => fun
  | [d1, d2, d3] => { results := [.lit (.bool false)], args := [d1, d2, d3] }
  | _ => none }
def VelocityOfWrongFalsely : Prop := velocityOfRow.holds Tryz.pinned (OpenSpec.ofChange velocityOfWrong)

/-- 'linkworklaw44.ForceTorques': WHATEVER THE INPUT: true; the input reads as it did. -/
def forceTorquesSpec : ChangeSpec := { name := "forceTorques", fn := fun _ => fun
  | [d1, d2, d3] => { results := [.lit (.bool true)], args := [d1, d2, d3] }
  | _ => none }
def forceTorquesRow : OpenClaim := { program := "ytokaoegjfpjjnaagreat", sum := "c3bb0070d0c1c519ef14d41e73d9ff271507c10fc8274dc92e110eb1ab3e5da9", func := "linkwork/linkworklaw44.ForceTorques", spec := "forceTorques", inPlace := ["internal/reflectlite.TypeOf"], unfollowed := true, recurses := true, apart := false }
def ForceTorquesSaid : Prop := forceTorquesRow.holds Tryz.pinned (OpenSpec.ofChange forceTorquesSpec)

/-- ITS FALSE NEIGHBOUR: 'it returns false'. Refute it at one input. -/
def forceTorquesWrong : ChangeSpec := { name := "forceTorques", fn := fun _ => fun
  | [d1, d2, d3] => { results := [.lit (.bool false)], args := [d1, d2, d3] }
  | _ => none }
def ForceTorquesWrongFalsely : Prop := forceTorquesRow.holds Tryz.pinned (OpenSpec.ofChange forceTorquesWrong)

/- THE SECOND FORM. 'bulk': how many values and letters a reading holds, each counted each time it is reached (what is shared counts as often as it is met; a slice's spare places count too). A statement '..UptoSaid' is the law's where the arguments, and the package variables that the reading takes, are together of bulk at most 1048576: NARROWER than '..Said'. Prove '..Said' where nothing that the law and all that it calls make is longer than what came in: it says more and counts as full. Else prove '..UptoSaid'. A law counts once. -/
mutual
def uptoBulk {H : Type} : DataW H → Nat
  | .lit (.string bytes) => bytes.length + 1
  | .lit _ => 1
  | .nil => 1
  | .ptr d => uptoBulk d + 1
  | .slice elems spare => uptoBulkAll elems + uptoBulkAll spare + 1
  | .agg parts => uptoBulkAll parts + 1
  | .iface _ d => uptoBulk d + 1
  | .map entries => uptoBulkEntries entries + 1
  | .held _ => 1
def uptoBulkAll {H : Type} : List (DataW H) → Nat
  | [] => 0
  | d :: r => uptoBulk d + uptoBulkAll r
def uptoBulkEntries {H : Type} : List (Lit × DataW H) → Nat
  | [] => 0
  | x :: r => uptoBulkEntry x + uptoBulkEntries r
def uptoBulkEntry {H : Type} : Lit × DataW H → Nat
  | (.string bytes, d) => bytes.length + uptoBulk d + 1
  | (_, d) => uptoBulk d + 1
 end
def uptoSmall : (H : Type) → List (DataW H) → Bool := fun _ ds => decide (uptoBulkAll ds ≤ 1048576)
def OpenSpec.upto (s : _root_.Go.ChangeSpec) : _root_.Go.OpenSpec := { _root_.Go.OpenSpec.ofChange s with cond := some uptoSmall }

/-- 'linkworklaw27.AssembleComplete', WHERE WHAT IT READS IS OF BULK AT MOST 1048576: true; the input reads as it did. -/
def assembleCompleteUptoRow : OpenClaim := { program := "ytokaoegjfpjjnaagreat", sum := "c3bb0070d0c1c519ef14d41e73d9ff271507c10fc8274dc92e110eb1ab3e5da9", func := "linkwork/linkworklaw27.AssembleComplete", spec := "assembleComplete", unfollowed := true, recurses := true, apart := false, narrowed := true }
def AssembleCompleteUptoSaid : Prop := assembleCompleteUptoRow.holds Tryz.pinned (OpenSpec.upto assembleCompleteSpec)

/-- 'linkworklaw29.ModesImage', WHERE WHAT IT READS IS OF BULK AT MOST 1048576: true; the input reads as it did. -/
def modesImageUptoRow : OpenClaim := { program := "ytokaoegjfpjjnaagreat", sum := "c3bb0070d0c1c519ef14d41e73d9ff271507c10fc8274dc92e110eb1ab3e5da9", func := "linkwork/linkworklaw29.ModesImage", spec := "modesImage", unfollowed := true, recurses := true, apart := false, narrowed := true }
def ModesImageUptoSaid : Prop := modesImageUptoRow.holds Tryz.pinned (OpenSpec.upto modesImageSpec)

/-- 'linkworklaw30.SingularModes', WHERE WHAT IT READS IS OF BULK AT MOST 1048576: true; the input reads as it did. -/
def singularModesUptoRow : OpenClaim := { program := "ytokaoegjfpjjnaagreat", sum := "c3bb0070d0c1c519ef14d41e73d9ff271507c10fc8274dc92e110eb1ab3e5da9", func := "linkwork/linkworklaw30.SingularModes", spec := "singularModes", unfollowed := true, recurses := true, apart := false, narrowed := true }
def SingularModesUptoSaid : Prop := singularModesUptoRow.holds Tryz.pinned (OpenSpec.upto singularModesSpec)

/-- 'linkworklaw42.VelocityOf', WHERE WHAT IT READS IS OF BULK AT MOST 1048576: true; the input reads as it did. -/
def velocityOfUptoRow : OpenClaim := { program := "ytokaoegjfpjjnaagreat", sum := "c3bb0070d0c1c519ef14d41e73d9ff271507c10fc8274dc92e110eb1ab3e5da9", func := "linkwork/linkworklaw42.VelocityOf", spec := "velocityOf", unfollowed := true, recurses := true, apart := false, narrowed := true }
def VelocityOfUptoSaid : Prop := velocityOfUptoRow.holds Tryz.pinned (OpenSpec.upto velocityOfSpec)

/-- 'linkworklaw44.ForceTorques', WHERE WHAT IT READS IS OF BULK AT MOST 1048576: true; the input reads as it did. -/
def forceTorquesUptoRow : OpenClaim := { program := "ytokaoegjfpjjnaagreat", sum := "c3bb0070d0c1c519ef14d41e73d9ff271507c10fc8274dc92e110eb1ab3e5da9", func := "linkwork/linkworklaw44.ForceTorques", spec := "forceTorques", inPlace := ["internal/reflectlite.TypeOf"], unfollowed := true, recurses := true, apart := false, narrowed := true }
def ForceTorquesUptoSaid : Prop := forceTorquesUptoRow.holds Tryz.pinned (OpenSpec.upto forceTorquesSpec)

end Rows
end Go.Proofs.YtokaoegjfpjjnaaGreat
