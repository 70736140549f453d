/-
  No cell of these rows narrows 'for every input' (looked for: loops, veiled, ifaces, maps, wideKeys, modest, calm, conditions, laid).
  DERIVED. THE GIVEN ROWS OF THIS SEAT. 6 by the template 'for every input the law returns true; each argument reads behind the call as it read before'; 0 by the template 'total and deterministic' (their statements: YtjidoooidfcjgaaGreatTotals.lean).
  GIVEN WITH THE SEED: the statements are not yours to turn. If you find one false, say at which input.
  Laid BY PROGRAM, IN A SANDBOX (cutbox-rows.mjs): the forced cells as the released guide's own fill.sh prints them over the translation 493eeeb443b552d0… (all of the seat's roots in one cut). By AI agents, Wed Nov 11 2026. No macro, syntax, notation, axiom, sorry.
-/
import Derived.Test.YtjidoooidfcjgaaGreatChecked
import GoSem.Claim
import GoSem.ClaimJoined
import GoSem.ClaimMapViews
import Derived.JoinedTies
import Derived.KernelRfl
namespace Go.Proofs.YtjidoooidfcjgaaGreat
/- THE CELL 'sum', in the pinned program and in every row, IS THE sha256 OF THE DUMP (.gsa) THAT YtjidoooidfcjgaaGreatProg.lean LOADS. Nothing in Lean hashes anything: it is a label: what it is worth is what the hold of that sum in a sandbox is worth. -/
noncomputable def Tryz.pinned : Pinned := { name := "ytjidoooidfcjgaagreat", sum := "493eeeb443b552d0c4cf44f87a0f908afc6abca798b5e90453a42c609d53ccc1", checked := Tryz.checked }
namespace Rows
def none {H : Type} : Left H := { results := [], args := [] }

/-- 'linkworklaw26.DyadNumbers': WHATEVER THE INPUT: true; the input reads as it did. -/
def dyadNumbersSpec : ChangeSpec := { name := "dyadNumbers", fn := fun _ => fun
  | [d1, d2, d3] => { results := [.lit (.bool true)], args := [d1, d2, d3] }
  | _ => none }
def dyadNumbersRow : OpenClaim := { program := "ytjidoooidfcjgaagreat", sum := "493eeeb443b552d0c4cf44f87a0f908afc6abca798b5e90453a42c609d53ccc1", func := "linkwork/linkworklaw26.DyadNumbers", spec := "dyadNumbers", unfollowed := true, recurses := true, apart := false }
def DyadNumbersSaid : Prop := dyadNumbersRow.holds Tryz.pinned (OpenSpec.ofChange dyadNumbersSpec)

/-- ITS FALSE NEIGHBOUR: 'it returns false'. Refute it at one input. -/
def dyadNumbersWrong : ChangeSpec := { name := "dyadNumbers", fn := fun _ => fun
  | [d1, d2, d3] => { results := [.lit (.bool false)], args := [d1, d2, d3] }
  | _ => none }
def DyadNumbersWrongFalsely : Prop := dyadNumbersRow.holds Tryz.pinned (OpenSpec.ofChange dyadNumbersWrong)

/-- 'linkworklaw58.RecomputeNil': WHATEVER THE INPUT: true; the input reads as it did. -/
def recomputeNilSpec : ChangeSpec := { name := "recomputeNil", fn := fun _ => fun
  | [d1, d2] => { results := [.lit (.bool true)], args := [d1, d2] }
  | _ => none }
def recomputeNilRow : OpenClaim := { program := "ytjidoooidfcjgaagreat", sum := "493eeeb443b552d0c4cf44f87a0f908afc6abca798b5e90453a42c609d53ccc1", func := "linkwork/linkworklaw58.RecomputeNil", spec := "recomputeNil", unfollowed := true, recurses := true, apart := false }
def RecomputeNilSaid : Prop := recomputeNilRow.holds Tryz.pinned (OpenSpec.ofChange recomputeNilSpec)

/-- ITS FALSE NEIGHBOUR: 'it returns false'. Refute it at one input. -/
def recomputeNilWrong : ChangeSpec := { name := "recomputeNil", fn := fun _ => fun
  | [d1, d2] => { results := [.lit (.bool false)], args := [d1, d2] }
  | _ => none }
def RecomputeNilWrongFalsely : Prop := recomputeNilRow.holds Tryz.pinned (OpenSpec.ofChange recomputeNilWrong)

/-- 'linkworklaw29.ModesMirrors': WHATEVER THE INPUT: true; the input reads as it did. -/
def modesMirrorsSpec : ChangeSpec := { name := "modesMirrors", fn := fun _ => fun
  | [d1, d2] => { results := [.lit (.bool true)], args := [d1, d2] }
  | _ => none }
def modesMirrorsRow : OpenClaim := { program := "ytjidoooidfcjgaagreat", sum := "493eeeb443b552d0c4cf44f87a0f908afc6abca798b5e90453a42c609d53ccc1", func := "linkwork/linkworklaw29.ModesMirrors", spec := "modesMirrors", unfollowed := true, recurses := true, apart := false }
def ModesMirrorsSaid : Prop := modesMirrorsRow.holds Tryz.pinned (OpenSpec.ofChange modesMirrorsSpec)

/-- ITS FALSE NEIGHBOUR: 'it returns false'. Refute it at one input. -/
def modesMirrorsWrong : ChangeSpec := { name := "modesMirrors", fn := fun _ => fun
  | [d1, d2] => { results := [.lit (.bool false)], args := [d1, d2] }
  | _ => none }
def ModesMirrorsWrongFalsely : Prop := modesMirrorsRow.holds Tryz.pinned (OpenSpec.ofChange modesMirrorsWrong)

/-- 'linkworklaw29.ModesTwice': WHATEVER THE INPUT: true; the input reads as it did. -/
def modesTwiceSpec : ChangeSpec := { name := "modesTwice", fn := fun _ => fun
  | [d1, d2] => { results := [.lit (.bool true)], args := [d1, d2] }
  | _ => none }
def modesTwiceRow : OpenClaim := { program := "ytjidoooidfcjgaagreat", sum := "493eeeb443b552d0c4cf44f87a0f908afc6abca798b5e90453a42c609d53ccc1", func := "linkwork/linkworklaw29.ModesTwice", spec := "modesTwice", unfollowed := true, recurses := true, apart := false }
def ModesTwiceSaid : Prop := modesTwiceRow.holds Tryz.pinned (OpenSpec.ofChange modesTwiceSpec)

/-- ITS FALSE NEIGHBOUR: 'it returns false'. Refute it at one input. -/
def modesTwiceWrong : ChangeSpec := { name := "modesTwice", fn := fun _ => fun
  | [d1, d2] => { results := [.lit (.bool false)], args := [d1, d2] }
  | _ => none }
def ModesTwiceWrongFalsely : Prop := modesTwiceRow.holds Tryz.pinned (OpenSpec.ofChange modesTwiceWrong)

/-- 'linkworklaw44.ForcePowers': WHATEVER THE INPUT: true; the input reads as it did. -/
def forcePowersSpec : ChangeSpec := { name := "forcePowers", fn := fun _ => fun
  | [d1, d2, d3] => { results := [.lit (.bool true)], args := [d1, d2, d3] }
  | _ => none }
def forcePowersRow : OpenClaim := { program := "ytjidoooidfcjgaagreat", sum := "493eeeb443b552d0c4cf44f87a0f908afc6abca798b5e90453a42c609d53ccc1", func := "linkwork/linkworklaw44.ForcePowers", spec := "forcePowers", inPlace := ["internal/reflectlite.TypeOf"], unfollowed := true, recurses := true, apart := false }
def ForcePowersSaid : Prop := forcePowersRow.holds Tryz.pinned (OpenSpec.ofChange forcePowersSpec)

/-- ITS FALSE NEIGHBOUR: 'it returns false'. Refute it at one input. -/
def forcePowersWrong : ChangeSpec := { name := "forcePowers", fn := fun _ => fun
  | [d1, d2, d3] => { results := [.lit (.bool false)], args := [d1, d2, d3] }
  | _ => none }
def ForcePowersWrongFalsely : Prop := forcePowersRow.holds Tryz.pinned (OpenSpec.ofChange forcePowersWrong)

/-- 'linkworklaw44.ForceLinear': WHATEVER THE INPUT: true; the input reads as it did. -/
def forceLinearSpec : ChangeSpec := { name := "forceLinear", fn := fun _ => fun
  | [d1, d2, d3] => { results := [.lit (.bool true)], args := [d1, d2, d3] }
  | _ => none }
def forceLinearRow : OpenClaim := { program := "ytjidoooidfcjgaagreat", sum := "493eeeb443b552d0c4cf44f87a0f908afc6abca798b5e90453a42c609d53ccc1", func := "linkwork/linkworklaw44.ForceLinear", spec := "forceLinear", inPlace := ["internal/reflectlite.TypeOf"], unfollowed := true, recurses := true, apart := false }
def ForceLinearSaid : Prop := forceLinearRow.holds Tryz.pinned (OpenSpec.ofChange forceLinearSpec)

/-- ITS FALSE NEIGHBOUR: 'it returns false'. Refute it at one input. -/
def forceLinearWrong : ChangeSpec := { name := "forceLinear", fn := fun _ => fun
  | [d1, d2, d3] => { results := [.lit (.bool false)], args := [d1, d2, d3] }
  | _ => none }
def ForceLinearWrongFalsely : Prop := forceLinearRow.holds Tryz.pinned (OpenSpec.ofChange forceLinearWrong)

/- THE SECOND FORM. 'bulk': how many values and letters a reading holds, each counted each time it is reached (what is shared counts as often as it is met; a slice's spare places count too). A statement '..UptoSaid' is the law's where the arguments, and the package variables that the reading takes, are together of bulk at most 1048576: NARROWER than '..Said'. Prove '..Said' where nothing that the law and all that it calls make is longer than what came in: it says more and counts as full. Else prove '..UptoSaid'. A law counts once. -/
mutual
def uptoBulk {H : Type} : DataW H → Nat
  | .lit (.string bytes) => bytes.length + 1
  | .lit _ => 1
  | .nil => 1
  | .ptr d => uptoBulk d + 1
  | .slice elems spare => uptoBulkAll elems + uptoBulkAll spare + 1
  | .agg parts => uptoBulkAll parts + 1
  | .iface _ d => uptoBulk d + 1
  | .map entries => uptoBulkEntries entries + 1
  | .held _ => 1
def uptoBulkAll {H : Type} : List (DataW H) → Nat
  | [] => 0
  | d :: r => uptoBulk d + uptoBulkAll r
def uptoBulkEntries {H : Type} : List (Lit × DataW H) → Nat
  | [] => 0
  | x :: r => uptoBulkEntry x + uptoBulkEntries r
def uptoBulkEntry {H : Type} : Lit × DataW H → Nat
  | (.string bytes, d) => bytes.length + uptoBulk d + 1
  | (_, d) => uptoBulk d + 1
 end
def uptoSmall : (H : Type) → List (DataW H) → Bool := fun _ ds => decide (uptoBulkAll ds ≤ 1048576)
def OpenSpec.upto (s : _root_.Go.ChangeSpec) : _root_.Go.OpenSpec := { _root_.Go.OpenSpec.ofChange s with cond := some uptoSmall }

/-- 'linkworklaw26.DyadNumbers', WHERE WHAT IT READS IS OF BULK AT MOST 1048576: true; the input reads as it did. -/
def dyadNumbersUptoRow : OpenClaim := { program := "ytjidoooidfcjgaagreat", sum := "493eeeb443b552d0c4cf44f87a0f908afc6abca798b5e90453a42c609d53ccc1", func := "linkwork/linkworklaw26.DyadNumbers", spec := "dyadNumbers", unfollowed := true, recurses := true, apart := false, narrowed := true }
def DyadNumbersUptoSaid : Prop := dyadNumbersUptoRow.holds Tryz.pinned (OpenSpec.upto dyadNumbersSpec)

/-- 'linkworklaw58.RecomputeNil', WHERE WHAT IT READS IS OF BULK AT MOST 1048576: true; the input reads as it did. -/
def recomputeNilUptoRow : OpenClaim := { program := "ytjidoooidfcjgaagreat", sum := "493eeeb443b552d0c4cf44f87a0f908afc6abca798b5e90453a42c609d53ccc1", func := "linkwork/linkworklaw58.RecomputeNil", spec := "recomputeNil", unfollowed := true, recurses := true, apart := false, narrowed := true }
def RecomputeNilUptoSaid : Prop := recomputeNilUptoRow.holds Tryz.pinned (OpenSpec.upto recomputeNilSpec)

/-- 'linkworklaw29.ModesMirrors', WHERE WHAT IT READS IS OF BULK AT MOST 1048576: true; the input reads as it did. -/
def modesMirrorsUptoRow : OpenClaim := { program := "ytjidoooidfcjgaagreat", sum := "493eeeb443b552d0c4cf44f87a0f908afc6abca798b5e90453a42c609d53ccc1", func := "linkwork/linkworklaw29.ModesMirrors", spec := "modesMirrors", unfollowed := true, recurses := true, apart := false, narrowed := true }
def ModesMirrorsUptoSaid : Prop := modesMirrorsUptoRow.holds Tryz.pinned (OpenSpec.upto modesMirrorsSpec)

/-- 'linkworklaw29.ModesTwice', WHERE WHAT IT READS IS OF BULK AT MOST 1048576: true; the input reads as it did. -/
def modesTwiceUptoRow : OpenClaim := { program := "ytjidoooidfcjgaagreat", sum := "493eeeb443b552d0c4cf44f87a0f908afc6abca798b5e90453a42c609d53ccc1", func := "linkwork/linkworklaw29.ModesTwice", spec := "modesTwice", unfollowed := true, recurses := true, apart := false, narrowed := true }
def ModesTwiceUptoSaid : Prop := modesTwiceUptoRow.holds Tryz.pinned (OpenSpec.upto modesTwiceSpec)

/-- 'linkworklaw44.ForcePowers', WHERE WHAT IT READS IS OF BULK AT MOST 1048576: true; the input reads as it did. -/
def forcePowersUptoRow : OpenClaim := { program := "ytjidoooidfcjgaagreat", sum := "493eeeb443b552d0c4cf44f87a0f908afc6abca798b5e90453a42c609d53ccc1", func := "linkwork/linkworklaw44.ForcePowers", spec := "forcePowers", inPlace := ["internal/reflectlite.TypeOf"], unfollowed := true, recurses := true, apart := false, narrowed := true }
def ForcePowersUptoSaid : Prop := forcePowersUptoRow.holds Tryz.pinned (OpenSpec.upto forcePowersSpec)

/-- 'linkworklaw44.ForceLinear', WHERE WHAT IT READS IS OF BULK AT MOST 1048576: true; the input reads as it did. -/
def forceLinearUptoRow : OpenClaim := { program := "ytjidoooidfcjgaagreat", sum := "493eeeb443b552d0c4cf44f87a0f908afc6abca798b5e90453a42c609d53ccc1", func := "linkwork/linkworklaw44.ForceLinear", spec := "forceLinear", inPlace := ["internal/reflectlite.TypeOf"], unfollowed := true, recurses := true, apart := false, narrowed := true }
def ForceLinearUptoSaid : Prop := forceLinearUptoRow.holds Tryz.pinned (OpenSpec.upto forceLinearSpec)

end Rows
end Go.Proofs.YtjidoooidfcjgaaGreat
