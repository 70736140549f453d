/-
  No cell of these rows narrows 'for every input' (looked for: loops, veiled, ifaces, maps, wideKeys, modest, calm, conditions, laid).
  DERIVED. THE GIVEN ROWS OF THIS SEAT. 3 by the template 'for every input the law returns true; each argument reads behind the call as it read before'; 0 by the template 'total and deterministic' (their statements: YtkmgmddcmmadjaaGreatTotals.lean).
  GIVEN WITH THE SEED: the statements are not yours to turn. If you find one false, say at which input.
  Laid BY PROGRAM, IN A SANDBOX (cutbox-rows.mjs): the forced cells as the released guide's own fill.sh prints them over the translation d878f8a94444ee71… (all of the seat's roots in one cut). By AI agents, Wed Nov 11 2026. No macro, syntax, notation, axiom, sorry.
-/
import Derived.Test.YtkmgmddcmmadjaaGreatChecked
import GoSem.Claim
import GoSem.ClaimJoined
import GoSem.ClaimMapViews
import Derived.JoinedTies
import Derived.KernelRfl
namespace Go.Proofs.YtkmgmddcmmadjaaGreat
/- THE CELL 'sum', in the pinned program and in every row, IS THE sha256 OF THE DUMP (.gsa) THAT YtkmgmddcmmadjaaGreatProg.lean LOADS. Nothing in Lean hashes anything: it is a label: what it is worth is what the hold of that sum in a sandbox is worth. -/
noncomputable def Tryz.pinned : Pinned := { name := "ytkmgmddcmmadjaagreat", sum := "d878f8a94444ee7197835db9a66bfb448c01b53e0bb090f1ac30f4f21c72b823", checked := Tryz.checked }
namespace Rows
def none {H : Type} : Left H := { results := [], args := [] }

/-- 'linkworklaw29.ModesAre': WHATEVER THE INPUT: true; the input reads as it did. -/
def modesAreSpec : ChangeSpec := { name := "modesAre", fn := fun _ => fun
  | [d1, d2, d3] => { results := [.lit (.bool true)], args := [d1, d2, d3] }
  | _ => none }
def modesAreRow : OpenClaim := { program := "ytkmgmddcmmadjaagreat", sum := "d878f8a94444ee7197835db9a66bfb448c01b53e0bb090f1ac30f4f21c72b823", func := "linkwork/linkworklaw29.ModesAre", spec := "modesAre", unfollowed := true, recurses := true, apart := false }
def ModesAreSaid : Prop := modesAreRow.holds Tryz.pinned (OpenSpec.ofChange modesAreSpec)

/-- ITS FALSE NEIGHBOUR: 'it returns false'. Refute it at one input. -/
def modesAreWrong : ChangeSpec := { name := "modesAre", fn := fun _ => fun
  | [d1, d2, d3] => { results := [.lit (.bool false)], args := [d1, d2, d3] }
  | _ => none }
def ModesAreWrongFalsely : Prop := modesAreRow.holds Tryz.pinned (OpenSpec.ofChange modesAreWrong)

/-- 'linkworklaw30.SingularKinds': WHATEVER THE INPUT: true; the input reads as it did. -/
def singularKindsSpec : ChangeSpec := { name := "singularKinds", fn := fun _ => fun
  | [d1, d2, d3] => { results := [.lit (.bool true)], args := [d1, d2, d3] }
  | _ => none }
def singularKindsRow : OpenClaim := { program := "ytkmgmddcmmadjaagreat", sum := "d878f8a94444ee7197835db9a66bfb448c01b53e0bb090f1ac30f4f21c72b823", func := "linkwork/linkworklaw30.SingularKinds", spec := "singularKinds", unfollowed := true, recurses := true, apart := false }
def SingularKindsSaid : Prop := singularKindsRow.holds Tryz.pinned (OpenSpec.ofChange singularKindsSpec)

/-- ITS FALSE NEIGHBOUR: 'it returns false'. Refute it at one input. -/
def singularKindsWrong : ChangeSpec := { name := "singularKinds", fn := fun _ => fun
  | [d1, d2, d3] => { results := [.lit (.bool false)], args := [d1, d2, d3] }
  | _ => none }
def SingularKindsWrongFalsely : Prop := singularKindsRow.holds Tryz.pinned (OpenSpec.ofChange singularKindsWrong)

/-- 'linkworklaw30.SingularDets': WHATEVER THE INPUT: true; the input reads as it did. -/
def singularDetsSpec : ChangeSpec := { name := "singularDets", fn := fun _ => fun
  | [d1, d2, d3] => { results := [.lit (.bool true)], args := [d1, d2, d3] }
  | _ => none }
def singularDetsRow : OpenClaim := { program := "ytkmgmddcmmadjaagreat", sum := "d878f8a94444ee7197835db9a66bfb448c01b53e0bb090f1ac30f4f21c72b823", func := "linkwork/linkworklaw30.SingularDets", spec := "singularDets", unfollowed := true, recurses := true, apart := false }
def SingularDetsSaid : Prop := singularDetsRow.holds Tryz.pinned (OpenSpec.ofChange singularDetsSpec)

/-- ITS FALSE NEIGHBOUR: 'it returns false'. Refute it at one input. -/
def singularDetsWrong : ChangeSpec := { name := "singularDets", fn := fun _ => fun
  | [d1, d2, d3] => { results := [.lit (.bool false)], args := [d1, d2, d3] }
  | _ => none }
def SingularDetsWrongFalsely : Prop := singularDetsRow.holds Tryz.pinned (OpenSpec.ofChange singularDetsWrong)

/- THE SECOND FORM. 'bulk': how many values and letters a reading holds, each counted each time it is reached (what is shared counts as often as it is met; a slice's spare places count too). A statement '..UptoSaid' is the law's where the arguments, and the package variables that the reading takes, are together of bulk at most 1048576: NARROWER than '..Said'. Prove '..Said' where nothing that the law and all that it calls make is longer than what came in: it says more and counts as full. Else prove '..UptoSaid'. A law counts once. -/
mutual
def uptoBulk {H : Type} : DataW H → Nat
  | .lit (.string bytes) => bytes.length + 1
  | .lit _ => 1
  | .nil => 1
  | .ptr d => uptoBulk d + 1
  | .slice elems spare => uptoBulkAll elems + uptoBulkAll spare + 1
  | .agg parts => uptoBulkAll parts + 1
  | .iface _ d => uptoBulk d + 1
  | .map entries => uptoBulkEntries entries + 1
  | .held _ => 1
def uptoBulkAll {H : Type} : List (DataW H) → Nat
  | [] => 0
  | d :: r => uptoBulk d + uptoBulkAll r
def uptoBulkEntries {H : Type} : List (Lit × DataW H) → Nat
  | [] => 0
  | x :: r => uptoBulkEntry x + uptoBulkEntries r
def uptoBulkEntry {H : Type} : Lit × DataW H → Nat
  | (.string bytes, d) => bytes.length + uptoBulk d + 1
  | (_, d) => uptoBulk d + 1
 end
def uptoSmall : (H : Type) → List (DataW H) → Bool := fun _ ds => decide (uptoBulkAll ds ≤ 1048576)
def OpenSpec.upto (s : _root_.Go.ChangeSpec) : _root_.Go.OpenSpec := { _root_.Go.OpenSpec.ofChange s with cond := some uptoSmall }

/-- 'linkworklaw29.ModesAre', WHERE WHAT IT READS IS OF BULK AT MOST 1048576: true; the input reads as it did. -/
def modesAreUptoRow : OpenClaim := { program := "ytkmgmddcmmadjaagreat", sum := "d878f8a94444ee7197835db9a66bfb448c01b53e0bb090f1ac30f4f21c72b823", func := "linkwork/linkworklaw29.ModesAre", spec := "modesAre", unfollowed := true, recurses := true, apart := false, narrowed := true }
def ModesAreUptoSaid : Prop := modesAreUptoRow.holds Tryz.pinned (OpenSpec.upto modesAreSpec)

/-- 'linkworklaw30.SingularKinds', WHERE WHAT IT READS IS OF BULK AT MOST 1048576: true; the input reads as it did. -/
def singularKindsUptoRow : OpenClaim := { program := "ytkmgmddcmmadjaagreat", sum := "d878f8a94444ee7197835db9a66bfb448c01b53e0bb090f1ac30f4f21c72b823", func := "linkwork/linkworklaw30.SingularKinds", spec := "singularKinds", unfollowed := true, recurses := true, apart := false, narrowed := true }
def SingularKindsUptoSaid : Prop := singularKindsUptoRow.holds Tryz.pinned (OpenSpec.upto singularKindsSpec)

/-- 'linkworklaw30.SingularDets', WHERE WHAT IT READS IS OF BULK AT MOST 1048576: true; the input reads as it did. -/
def singularDetsUptoRow : OpenClaim := { program := "ytkmgmddcmmadjaagreat", sum := "d878f8a94444ee7197835db9a66bfb448c01b53e0bb090f1ac30f4f21c72b823", func := "linkwork/linkworklaw30.SingularDets", spec := "singularDets", unfollowed := true, recurses := true, apart := false, narrowed := true }
def SingularDetsUptoSaid : Prop := singularDetsUptoRow.holds Tryz.pinned (OpenSpec.upto singularDetsSpec)

end Rows
end Go.Proofs.YtkmgmddcmmadjaaGreat
