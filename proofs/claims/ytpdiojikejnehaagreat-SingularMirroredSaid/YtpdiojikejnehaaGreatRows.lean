/-
  No cell of these rows narrows 'for every input' (looked for: loops, veiled, ifaces, maps, wideKeys, modest, calm, conditions, laid).
  DERIVED. THE GIVEN ROWS OF THIS SEAT. 10 by the template 'for every input the law returns true; each argument reads behind the call as it read before'; 0 by the template 'total and deterministic' (their statements: YtpdiojikejnehaaGreatTotals.lean).
  GIVEN WITH THE SEED: the statements are not yours to turn. If you find one false, say at which input.
  Laid BY PROGRAM, IN A SANDBOX (cutbox-rows.mjs): the forced cells as the released guide's own fill.sh prints them over the translation 30c16c1ad53f3762… (all of the seat's roots in one cut). By AI agents, Wed Nov 11 2026. No macro, syntax, notation, axiom, sorry.
-/
import Derived.Test.YtpdiojikejnehaaGreatChecked
import GoSem.Claim
import GoSem.ClaimJoined
import GoSem.ClaimMapViews
import Derived.JoinedTies
import Derived.KernelRfl
namespace Go.Proofs.YtpdiojikejnehaaGreat
/- THE CELL 'sum', in the pinned program and in every row, IS THE sha256 OF THE DUMP (.gsa) THAT YtpdiojikejnehaaGreatProg.lean LOADS. Nothing in Lean hashes anything: it is a label: what it is worth is what the hold of that sum in a sandbox is worth. -/
noncomputable def Tryz.pinned : Pinned := { name := "ytpdiojikejnehaagreat", sum := "30c16c1ad53f3762ea64ba145e3a5649091709e7671b5c7125cd54bf51e5a11d", checked := Tryz.checked }
namespace Rows
def none {H : Type} : Left H := { results := [], args := [] }

/-- 'linkworklaw26.DyadComplete': WHATEVER THE INPUT: true; the input reads as it did. -/
def dyadCompleteSpec : ChangeSpec := { name := "dyadComplete", fn := fun _ => fun
  | [d1, d2] => { results := [.lit (.bool true)], args := [d1, d2] }
  | _ => none }
def dyadCompleteRow : OpenClaim := { program := "ytpdiojikejnehaagreat", sum := "30c16c1ad53f3762ea64ba145e3a5649091709e7671b5c7125cd54bf51e5a11d", func := "linkwork/linkworklaw26.DyadComplete", spec := "dyadComplete", unfollowed := true, recurses := true, apart := false }
def DyadCompleteSaid : Prop := dyadCompleteRow.holds Tryz.pinned (OpenSpec.ofChange dyadCompleteSpec)

/-- ITS FALSE NEIGHBOUR: 'it returns false'. Refute it at one input. -/
def dyadCompleteWrong : ChangeSpec := { name := "dyadComplete", fn := fun _ => fun
  | [d1, d2] => { results := [.lit (.bool false)], args := [d1, d2] }
  | _ => none }
def DyadCompleteWrongFalsely : Prop := dyadCompleteRow.holds Tryz.pinned (OpenSpec.ofChange dyadCompleteWrong)

/-- 'linkworklaw26.DyadHolds': WHATEVER THE INPUT: true; the input reads as it did. -/
def dyadHoldsSpec : ChangeSpec := { name := "dyadHolds", fn := fun _ => fun
  | [d1, d2] => { results := [.lit (.bool true)], args := [d1, d2] }
  | _ => none }
def dyadHoldsRow : OpenClaim := { program := "ytpdiojikejnehaagreat", sum := "30c16c1ad53f3762ea64ba145e3a5649091709e7671b5c7125cd54bf51e5a11d", func := "linkwork/linkworklaw26.DyadHolds", spec := "dyadHolds", unfollowed := true, recurses := true, apart := false }
def DyadHoldsSaid : Prop := dyadHoldsRow.holds Tryz.pinned (OpenSpec.ofChange dyadHoldsSpec)

/-- ITS FALSE NEIGHBOUR: 'it returns false'. Refute it at one input. -/
def dyadHoldsWrong : ChangeSpec := { name := "dyadHolds", fn := fun _ => fun
  | [d1, d2] => { results := [.lit (.bool false)], args := [d1, d2] }
  | _ => none }
def DyadHoldsWrongFalsely : Prop := dyadHoldsRow.holds Tryz.pinned (OpenSpec.ofChange dyadHoldsWrong)

/-- 'linkworklaw27.AssembleComplete': WHATEVER THE INPUT: true; the input reads as it did. -/
def assembleCompleteSpec : ChangeSpec := { name := "assembleComplete", fn := fun _ => fun
  | [d] => { results := [.lit (.bool true)], args := [d] }
  | _ => none }
def assembleCompleteRow : OpenClaim := { program := "ytpdiojikejnehaagreat", sum := "30c16c1ad53f3762ea64ba145e3a5649091709e7671b5c7125cd54bf51e5a11d", func := "linkwork/linkworklaw27.AssembleComplete", spec := "assembleComplete", unfollowed := true, recurses := true, apart := false }
def AssembleCompleteSaid : Prop := assembleCompleteRow.holds Tryz.pinned (OpenSpec.ofChange assembleCompleteSpec)

/-- ITS FALSE NEIGHBOUR: 'it returns false'. Refute it at one input. -/
def assembleCompleteWrong : ChangeSpec := { name := "assembleComplete", fn := fun _ => fun
  | [d] => { results := [.lit (.bool false)], args := [d] }
  | _ => none }
def AssembleCompleteWrongFalsely : Prop := assembleCompleteRow.holds Tryz.pinned (OpenSpec.ofChange assembleCompleteWrong)

/-- 'linkworklaw28.CertifyAccepts': WHATEVER THE INPUT: true; the input reads as it did. -/
def certifyAcceptsSpec : ChangeSpec := { name := "certifyAccepts", fn := fun _ => fun
  | [d1, d2, d3] => { results := [.lit (.bool true)], args := [d1, d2, d3] }
  | _ => none }
def certifyAcceptsRow : OpenClaim := { program := "ytpdiojikejnehaagreat", sum := "30c16c1ad53f3762ea64ba145e3a5649091709e7671b5c7125cd54bf51e5a11d", func := "linkwork/linkworklaw28.CertifyAccepts", spec := "certifyAccepts", unfollowed := true, recurses := true, apart := false }
def CertifyAcceptsSaid : Prop := certifyAcceptsRow.holds Tryz.pinned (OpenSpec.ofChange certifyAcceptsSpec)

/-- ITS FALSE NEIGHBOUR: 'it returns false'. Refute it at one input. -/
def certifyAcceptsWrong : ChangeSpec := { name := "certifyAccepts", fn := fun _ => fun
  | [d1, d2, d3] => { results := [.lit (.bool false)], args := [d1, d2, d3] }
  | _ => none }
def CertifyAcceptsWrongFalsely : Prop := certifyAcceptsRow.holds Tryz.pinned (OpenSpec.ofChange certifyAcceptsWrong)

/-- 'linkworklaw29.ModesTrue': WHATEVER THE INPUT: true; the input reads as it did. -/
def modesTrueSpec : ChangeSpec := { name := "modesTrue", fn := fun _ => fun
  | [d1, d2] => { results := [.lit (.bool true)], args := [d1, d2] }
  | _ => none }
def modesTrueRow : OpenClaim := { program := "ytpdiojikejnehaagreat", sum := "30c16c1ad53f3762ea64ba145e3a5649091709e7671b5c7125cd54bf51e5a11d", func := "linkwork/linkworklaw29.ModesTrue", spec := "modesTrue", unfollowed := true, recurses := true, apart := false }
def ModesTrueSaid : Prop := modesTrueRow.holds Tryz.pinned (OpenSpec.ofChange modesTrueSpec)

/-- ITS FALSE NEIGHBOUR: 'it returns false'. Refute it at one input. -/
def modesTrueWrong : ChangeSpec := { name := "modesTrue", fn := fun _ => fun
  | [d1, d2] => { results := [.lit (.bool false)], args := [d1, d2] }
  | _ => none }
def ModesTrueWrongFalsely : Prop := modesTrueRow.holds Tryz.pinned (OpenSpec.ofChange modesTrueWrong)

/-- 'linkworklaw29.ModesFrame': WHATEVER THE INPUT: true; the input reads as it did. -/
def modesFrameSpec : ChangeSpec := { name := "modesFrame", fn := fun _ => fun
  | [d1, d2] => { results := [.lit (.bool true)], args := [d1, d2] }
  | _ => none }
def modesFrameRow : OpenClaim := { program := "ytpdiojikejnehaagreat", sum := "30c16c1ad53f3762ea64ba145e3a5649091709e7671b5c7125cd54bf51e5a11d", func := "linkwork/linkworklaw29.ModesFrame", spec := "modesFrame", unfollowed := true, recurses := true, apart := false }
def ModesFrameSaid : Prop := modesFrameRow.holds Tryz.pinned (OpenSpec.ofChange modesFrameSpec)

/-- ITS FALSE NEIGHBOUR: 'it returns false'. Refute it at one input. -/
def modesFrameWrong : ChangeSpec := { name := "modesFrame", fn := fun _ => fun
  | [d1, d2] => { results := [.lit (.bool false)], args := [d1, d2] }
  | _ => none }
def ModesFrameWrongFalsely : Prop := modesFrameRow.holds Tryz.pinned (OpenSpec.ofChange modesFrameWrong)

/-- 'linkworklaw29.ModesImage': WHATEVER THE INPUT: true; the input reads as it did. -/
def modesImageSpec : ChangeSpec := { name := "modesImage", fn := fun _ => fun
  | [d1, d2] => { results := [.lit (.bool true)], args := [d1, d2] }
  | _ => none }
def modesImageRow : OpenClaim := { program := "ytpdiojikejnehaagreat", sum := "30c16c1ad53f3762ea64ba145e3a5649091709e7671b5c7125cd54bf51e5a11d", func := "linkwork/linkworklaw29.ModesImage", spec := "modesImage", unfollowed := true, recurses := true, apart := false }
def ModesImageSaid : Prop := modesImageRow.holds Tryz.pinned (OpenSpec.ofChange modesImageSpec)

/-- ITS FALSE NEIGHBOUR: 'it returns false'. Refute it at one input. -/
def modesImageWrong : ChangeSpec := { name := "modesImage", fn := fun _ => fun
  | [d1, d2] => { results := [.lit (.bool false)], args := [d1, d2] }
  | _ => none }
def ModesImageWrongFalsely : Prop := modesImageRow.holds Tryz.pinned (OpenSpec.ofChange modesImageWrong)

/-- 'linkworklaw30.SingularNear': WHATEVER THE INPUT: true; the input reads as it did. -/
def singularNearSpec : ChangeSpec := { name := "singularNear", fn := fun _ => fun
  | [d1, d2] => { results := [.lit (.bool true)], args := [d1, d2] }
  | _ => none }
def singularNearRow : OpenClaim := { program := "ytpdiojikejnehaagreat", sum := "30c16c1ad53f3762ea64ba145e3a5649091709e7671b5c7125cd54bf51e5a11d", func := "linkwork/linkworklaw30.SingularNear", spec := "singularNear", unfollowed := true, recurses := true, apart := false }
def SingularNearSaid : Prop := singularNearRow.holds Tryz.pinned (OpenSpec.ofChange singularNearSpec)

/-- ITS FALSE NEIGHBOUR: 'it returns false'. Refute it at one input. -/
def singularNearWrong : ChangeSpec := { name := "singularNear", fn := fun _ => fun
  | [d1, d2] => { results := [.lit (.bool false)], args := [d1, d2] }
  | _ => none }
def SingularNearWrongFalsely : Prop := singularNearRow.holds Tryz.pinned (OpenSpec.ofChange singularNearWrong)

/-- 'linkworklaw30.SingularModes': WHATEVER THE INPUT: true; the input reads as it did. -/
def singularModesSpec : ChangeSpec := { name := "singularModes", fn := fun _ => fun
  | [d1, d2] => { results := [.lit (.bool true)], args := [d1, d2] }
  | _ => none }
def singularModesRow : OpenClaim := { program := "ytpdiojikejnehaagreat", sum := "30c16c1ad53f3762ea64ba145e3a5649091709e7671b5c7125cd54bf51e5a11d", func := "linkwork/linkworklaw30.SingularModes", spec := "singularModes", unfollowed := true, recurses := true, apart := false }
def SingularModesSaid : Prop := singularModesRow.holds Tryz.pinned (OpenSpec.ofChange singularModesSpec)

/-- ITS FALSE NEIGHBOUR: 'it returns false'. Refute it at one input. -/
def singularModesWrong : ChangeSpec := { name := "singularModes", fn := fun _ => fun
  | [d1, d2] => { results := [.lit (.bool false)], args := [d1, d2] }
  | _ => none }
def SingularModesWrongFalsely : Prop := singularModesRow.holds Tryz.pinned (OpenSpec.ofChange singularModesWrong)

/-- 'linkworklaw30.SingularMirrored': WHATEVER THE INPUT: true; the input reads as it did. -/
def singularMirroredSpec : ChangeSpec := { name := "singularMirrored", fn := fun _ => fun
  | [d1, d2] => { results := [.lit (.bool true)], args := [d1, d2] }
  | _ => none }
def singularMirroredRow : OpenClaim := { program := "ytpdiojikejnehaagreat", sum := "30c16c1ad53f3762ea64ba145e3a5649091709e7671b5c7125cd54bf51e5a11d", func := "linkwork/linkworklaw30.SingularMirrored", spec := "singularMirrored", unfollowed := true, recurses := true, apart := false }
def SingularMirroredSaid : Prop := singularMirroredRow.holds Tryz.pinned (OpenSpec.ofChange singularMirroredSpec)

/-- ITS FALSE NEIGHBOUR: 'it returns false'. Refute it at one input. -/
def singularMirroredWrong : ChangeSpec := { name := "singularMirrored", fn := fun _ => fun
  | [d1, d2] => { results := [.lit (.bool false)], args := [d1, d2] }
  | _ => none }
def SingularMirroredWrongFalsely : Prop := singularMirroredRow.holds Tryz.pinned (OpenSpec.ofChange singularMirroredWrong)

/- THE SECOND FORM. 'bulk': how many values and letters a reading holds, each counted each time it is reached (what is shared counts as often as it is met; a slice's spare places count too). A statement '..UptoSaid' is the law's where the arguments, and the package variables that the reading takes, are together of bulk at most 1048576: NARROWER than '..Said'. Prove '..Said' where nothing that the law and all that it calls make is longer than what came in: it says more and counts as full. Else prove '..UptoSaid'. A law counts once. -/
mutual
def uptoBulk {H : Type} : DataW H → Nat
  | .lit (.string bytes) => bytes.length + 1
  | .lit _ => 1
  | .nil => 1
  | .ptr d => uptoBulk d + 1
  | .slice elems spare => uptoBulkAll elems + uptoBulkAll spare + 1
  | .agg parts => uptoBulkAll parts + 1
  | .iface _ d => uptoBulk d + 1
  | .map entries => uptoBulkEntries entries + 1
  | .held _ => 1
def uptoBulkAll {H : Type} : List (DataW H) → Nat
  | [] => 0
  | d :: r => uptoBulk d + uptoBulkAll r
def uptoBulkEntries {H : Type} : List (Lit × DataW H) → Nat
  | [] => 0
  | x :: r => uptoBulkEntry x + uptoBulkEntries r
def uptoBulkEntry {H : Type} : Lit × DataW H → Nat
  | (.string bytes, d) => bytes.length + uptoBulk d + 1
  | (_, d) => uptoBulk d + 1
 end
def uptoSmall : (H : Type) → List (DataW H) → Bool := fun _ ds => decide (uptoBulkAll ds ≤ 1048576)
def OpenSpec.upto (s : _root_.Go.ChangeSpec) : _root_.Go.OpenSpec := { _root_.Go.OpenSpec.ofChange s with cond := some uptoSmall }

/-- 'linkworklaw26.DyadComplete', WHERE WHAT IT READS IS OF BULK AT MOST 1048576: true; the input reads as it did. -/
def dyadCompleteUptoRow : OpenClaim := { program := "ytpdiojikejnehaagreat", sum := "30c16c1ad53f3762ea64ba145e3a5649091709e7671b5c7125cd54bf51e5a11d", func := "linkwork/linkworklaw26.DyadComplete", spec := "dyadComplete", unfollowed := true, recurses := true, apart := false, narrowed := true }
def DyadCompleteUptoSaid : Prop := dyadCompleteUptoRow.holds Tryz.pinned (OpenSpec.upto dyadCompleteSpec)

/-- 'linkworklaw26.DyadHolds', WHERE WHAT IT READS IS OF BULK AT MOST 1048576: true; the input reads as it did. -/
def dyadHoldsUptoRow : OpenClaim := { program := "ytpdiojikejnehaagreat", sum := "30c16c1ad53f3762ea64ba145e3a5649091709e7671b5c7125cd54bf51e5a11d", func := "linkwork/linkworklaw26.DyadHolds", spec := "dyadHolds", unfollowed := true, recurses := true, apart := false, narrowed := true }
def DyadHoldsUptoSaid : Prop := dyadHoldsUptoRow.holds Tryz.pinned (OpenSpec.upto dyadHoldsSpec)

/-- 'linkworklaw27.AssembleComplete', WHERE WHAT IT READS IS OF BULK AT MOST 1048576: true; the input reads as it did. -/
def assembleCompleteUptoRow : OpenClaim := { program := "ytpdiojikejnehaagreat", sum := "30c16c1ad53f3762ea64ba145e3a5649091709e7671b5c7125cd54bf51e5a11d", func := "linkwork/linkworklaw27.AssembleComplete", spec := "assembleComplete", unfollowed := true, recurses := true, apart := false, narrowed := true }
def AssembleCompleteUptoSaid : Prop := assembleCompleteUptoRow.holds Tryz.pinned (OpenSpec.upto assembleCompleteSpec)

/-- 'linkworklaw28.CertifyAccepts', WHERE WHAT IT READS IS OF BULK AT MOST 1048576: true; the input reads as it did. -/
def certifyAcceptsUptoRow : OpenClaim := { program := "ytpdiojikejnehaagreat", sum := "30c16c1ad53f3762ea64ba145e3a5649091709e7671b5c7125cd54bf51e5a11d", func := "linkwork/linkworklaw28.CertifyAccepts", spec := "certifyAccepts", unfollowed := true, recurses := true, apart := false, narrowed := true }
def CertifyAcceptsUptoSaid : Prop := certifyAcceptsUptoRow.holds Tryz.pinned (OpenSpec.upto certifyAcceptsSpec)

/-- 'linkworklaw29.ModesTrue', WHERE WHAT IT READS IS OF BULK AT MOST 1048576: true; the input reads as it did. -/
def modesTrueUptoRow : OpenClaim := { program := "ytpdiojikejnehaagreat", sum := "30c16c1ad53f3762ea64ba145e3a5649091709e7671b5c7125cd54bf51e5a11d", func := "linkwork/linkworklaw29.ModesTrue", spec := "modesTrue", unfollowed := true, recurses := true, apart := false, narrowed := true }
def ModesTrueUptoSaid : Prop := modesTrueUptoRow.holds Tryz.pinned (OpenSpec.upto modesTrueSpec)

/-- 'linkworklaw29.ModesFrame', WHERE WHAT IT READS IS OF BULK AT MOST 1048576: true; the input reads as it did. -/
def modesFrameUptoRow : OpenClaim := { program := "ytpdiojikejnehaagreat", sum := "30c16c1ad53f3762ea64ba145e3a5649091709e7671b5c7125cd54bf51e5a11d", func := "linkwork/linkworklaw29.ModesFrame", spec := "modesFrame", unfollowed := true, recurses := true, apart := false, narrowed := true }
def ModesFrameUptoSaid : Prop := modesFrameUptoRow.holds Tryz.pinned (OpenSpec.upto modesFrameSpec)

/-- 'linkworklaw29.ModesImage', WHERE WHAT IT READS IS OF BULK AT MOST 1048576: true; the input reads as it did. -/
def modesImageUptoRow : OpenClaim := { program := "ytpdiojikejnehaagreat", sum := "30c16c1ad53f3762ea64ba145e3a5649091709e7671b5c7125cd54bf51e5a11d", func := "linkwork/linkworklaw29.ModesImage", spec := "modesImage", unfollowed := true, recurses := true, apart := false, narrowed := true }
def ModesImageUptoSaid : Prop := modesImageUptoRow.holds Tryz.pinned (OpenSpec.upto modesImageSpec)

/-- 'linkworklaw30.SingularNear', WHERE WHAT IT READS IS OF BULK AT MOST 1048576: true; the input reads as it did. -/
def singularNearUptoRow : OpenClaim := { program := "ytpdiojikejnehaagreat", sum := "30c16c1ad53f3762ea64ba145e3a5649091709e7671b5c7125cd54bf51e5a11d", func := "linkwork/linkworklaw30.SingularNear", spec := "singularNear", unfollowed := true, recurses := true, apart := false, narrowed := true }
def SingularNearUptoSaid : Prop := singularNearUptoRow.holds Tryz.pinned (OpenSpec.upto singularNearSpec)

/-- 'linkworklaw30.SingularModes', WHERE WHAT IT READS IS OF BULK AT MOST 1048576: true; the input reads as it did. -/
def singularModesUptoRow : OpenClaim := { program := "ytpdiojikejnehaagreat", sum := "30c16c1ad53f3762ea64ba145e3a5649091709e7671b5c7125cd54bf51e5a11d", func := "linkwork/linkworklaw30.SingularModes", spec := "singularModes", unfollowed := true, recurses := true, apart := false, narrowed := true }
def SingularModesUptoSaid : Prop := singularModesUptoRow.holds Tryz.pinned (OpenSpec.upto singularModesSpec)

/-- 'linkworklaw30.SingularMirrored', WHERE WHAT IT READS IS OF BULK AT MOST 1048576: true; the input reads as it did. -/
def singularMirroredUptoRow : OpenClaim := { program := "ytpdiojikejnehaagreat", sum := "30c16c1ad53f3762ea64ba145e3a5649091709e7671b5c7125cd54bf51e5a11d", func := "linkwork/linkworklaw30.SingularMirrored", spec := "singularMirrored", unfollowed := true, recurses := true, apart := false, narrowed := true }
def SingularMirroredUptoSaid : Prop := singularMirroredUptoRow.holds Tryz.pinned (OpenSpec.upto singularMirroredSpec)

end Rows
end Go.Proofs.YtpdiojikejnehaaGreat
