/-
  No cell of these rows narrows 'for every input' (looked for: loops, veiled, ifaces, maps, wideKeys, modest, calm, conditions, laid).
  DERIVED. THE GIVEN ROWS OF THIS SEAT. 4 by the template 'for every input the law returns true; each argument reads behind the call as it read before'; 0 by the template 'total and deterministic' (their statements: YtohejbfhhanckaaGreatTotals.lean).
  GIVEN WITH THE SEED: the statements are not yours to turn. If you find one false, say at which input.
  Laid BY PROGRAM, IN A SANDBOX (cutbox-rows.mjs): the forced cells as the released guide's own fill.sh prints them over the translation 0486da58f00bf634… (all of the seat's roots in one cut). By AI agents, Wed Nov 11 2026. No macro, syntax, notation, axiom, sorry.
-/
import Derived.Test.YtohejbfhhanckaaGreatChecked
import GoSem.Claim
import GoSem.ClaimJoined
import GoSem.ClaimMapViews
import Derived.JoinedTies
import Derived.KernelRfl
namespace Go.Proofs.YtohejbfhhanckaaGreat
/- THE CELL 'sum', in the pinned program and in every row, IS THE sha256 OF THE DUMP (.gsa) THAT YtohejbfhhanckaaGreatProg.lean LOADS. Nothing in Lean hashes anything: it is a label: what it is worth is what the hold of that sum in a sandbox is worth. -/
noncomputable def Tryz.pinned : Pinned := { name := "ytohejbfhhanckaagreat", sum := "0486da58f00bf6340c1ec5ede2af49cf55bf3c2e11923dd94dedc26170e7f6b2", checked := Tryz.checked }
namespace Rows
def none {H : Type} : Left H := { results := [], args := [] }

/-- 'linkworklaw27.AssembleWheres': WHATEVER THE INPUT: true; the input reads as it did. -/
def assembleWheresSpec : ChangeSpec := { name := "assembleWheres", fn := fun _ => fun
  | [d1, d2] => { results := [.lit (.bool true)], args := [d1, d2] }
  | _ => none }
def assembleWheresRow : OpenClaim := { program := "ytohejbfhhanckaagreat", sum := "0486da58f00bf6340c1ec5ede2af49cf55bf3c2e11923dd94dedc26170e7f6b2", func := "linkwork/linkworklaw27.AssembleWheres", spec := "assembleWheres", unfollowed := true, recurses := true, apart := false }
def AssembleWheresSaid : Prop := assembleWheresRow.holds Tryz.pinned (OpenSpec.ofChange assembleWheresSpec)

/-- ITS FALSE NEIGHBOUR: 'it returns false'. Refute it at one input. -/
def assembleWheresWrong : ChangeSpec := { name := "assembleWheres", fn := fun _ => fun
  | [d1, d2] => { results := [.lit (.bool false)], args := [d1, d2] }
  | _ => none }
def AssembleWheresWrongFalsely : Prop := assembleWheresRow.holds Tryz.pinned (OpenSpec.ofChange assembleWheresWrong)

/-- 'linkworklaw42.VelocityAt': WHATEVER THE INPUT: true; the input reads as it did. -/
def velocityAtSpec : ChangeSpec := { name := "velocityAt", fn := fun _ => fun
  | [d1, d2, d3] => { results := [.lit (.bool true)], args := [d1, d2, d3] }
  | _ => none }
def velocityAtRow : OpenClaim := { program := "ytohejbfhhanckaagreat", sum := "0486da58f00bf6340c1ec5ede2af49cf55bf3c2e11923dd94dedc26170e7f6b2", func := "linkwork/linkworklaw42.VelocityAt", spec := "velocityAt", unfollowed := true, recurses := true, apart := false }
def VelocityAtSaid : Prop := velocityAtRow.holds Tryz.pinned (OpenSpec.ofChange velocityAtSpec)

/-- ITS FALSE NEIGHBOUR: 'it returns false'. Refute it at one input. -/
def velocityAtWrong : ChangeSpec := { name := "velocityAt", fn := fun _ => fun
  | [d1, d2, d3] => { results := [.lit (.bool false)], args := [d1, d2, d3] }
  | _ => none }
def VelocityAtWrongFalsely : Prop := velocityAtRow.holds Tryz.pinned (OpenSpec.ofChange velocityAtWrong)

/-- 'linkworklaw42.VelocityRigid': WHATEVER THE INPUT: true; the input reads as it did. -/
def velocityRigidSpec : ChangeSpec := { name := "velocityRigid", fn := fun _ => fun
  | [d1, d2, d3] => { results := [.lit (.bool true)], args := [d1, d2, d3] }
  | _ => none }
def velocityRigidRow : OpenClaim := { program := "ytohejbfhhanckaagreat", sum := "0486da58f00bf6340c1ec5ede2af49cf55bf3c2e11923dd94dedc26170e7f6b2", func := "linkwork/linkworklaw42.VelocityRigid", spec := "velocityRigid", unfollowed := true, recurses := true, apart := false }
def VelocityRigidSaid : Prop := velocityRigidRow.holds Tryz.pinned (OpenSpec.ofChange velocityRigidSpec)

/-- ITS FALSE NEIGHBOUR: 'it returns false'. Refute it at one input. -/
def velocityRigidWrong : ChangeSpec := { name := "velocityRigid", fn := fun _ => fun
  | [d1, d2, d3] => { results := [.lit (.bool false)], args := [d1, d2, d3] }
  | _ => none }
def VelocityRigidWrongFalsely : Prop := velocityRigidRow.holds Tryz.pinned (OpenSpec.ofChange velocityRigidWrong)

/-- 'linkworklaw42.VelocityHolds': WHATEVER THE INPUT: true; the input reads as it did. -/
def velocityHoldsSpec : ChangeSpec := { name := "velocityHolds", fn := fun _ => fun
  | [d1, d2, d3] => { results := [.lit (.bool true)], args := [d1, d2, d3] }
  | _ => none }
def velocityHoldsRow : OpenClaim := { program := "ytohejbfhhanckaagreat", sum := "0486da58f00bf6340c1ec5ede2af49cf55bf3c2e11923dd94dedc26170e7f6b2", func := "linkwork/linkworklaw42.VelocityHolds", spec := "velocityHolds", unfollowed := true, recurses := true, apart := false }
def VelocityHoldsSaid : Prop := velocityHoldsRow.holds Tryz.pinned (OpenSpec.ofChange velocityHoldsSpec)

/-- ITS FALSE NEIGHBOUR: 'it returns false'. Refute it at one input. -/
def velocityHoldsWrong : ChangeSpec := { name := "velocityHolds", fn := fun _ => fun
  | [d1, d2, d3] => { results := [.lit (.bool false)], args := [d1, d2, d3] }
  | _ => none }
def VelocityHoldsWrongFalsely : Prop := velocityHoldsRow.holds Tryz.pinned (OpenSpec.ofChange velocityHoldsWrong)

/- THE SECOND FORM. 'bulk': how many values and letters a reading holds, each counted each time it is reached (what is shared counts as often as it is met; a slice's spare places count too). A statement '..UptoSaid' is the law's where the arguments, and the package variables that the reading takes, are together of bulk at most 1048576: NARROWER than '..Said'. Prove '..Said' where nothing that the law and all that it calls make is longer than what came in: it says more and counts as full. Else prove '..UptoSaid'. A law counts once. -/
mutual
def uptoBulk {H : Type} : DataW H → Nat
  | .lit (.string bytes) => bytes.length + 1
  | .lit _ => 1
  | .nil => 1
  | .ptr d => uptoBulk d + 1
  | .slice elems spare => uptoBulkAll elems + uptoBulkAll spare + 1
  | .agg parts => uptoBulkAll parts + 1
  | .iface _ d => uptoBulk d + 1
  | .map entries => uptoBulkEntries entries + 1
  | .held _ => 1
def uptoBulkAll {H : Type} : List (DataW H) → Nat
  | [] => 0
  | d :: r => uptoBulk d + uptoBulkAll r
def uptoBulkEntries {H : Type} : List (Lit × DataW H) → Nat
  | [] => 0
  | x :: r => uptoBulkEntry x + uptoBulkEntries r
def uptoBulkEntry {H : Type} : Lit × DataW H → Nat
  | (.string bytes, d) => bytes.length + uptoBulk d + 1
  | (_, d) => uptoBulk d + 1
 end
def uptoSmall : (H : Type) → List (DataW H) → Bool := fun _ ds => decide (uptoBulkAll ds ≤ 1048576)
def OpenSpec.upto (s : _root_.Go.ChangeSpec) : _root_.Go.OpenSpec := { _root_.Go.OpenSpec.ofChange s with cond := some uptoSmall }

/-- 'linkworklaw27.AssembleWheres', WHERE WHAT IT READS IS OF BULK AT MOST 1048576: true; the input reads as it did. -/
def assembleWheresUptoRow : OpenClaim := { program := "ytohejbfhhanckaagreat", sum := "0486da58f00bf6340c1ec5ede2af49cf55bf3c2e11923dd94dedc26170e7f6b2", func := "linkwork/linkworklaw27.AssembleWheres", spec := "assembleWheres", unfollowed := true, recurses := true, apart := false, narrowed := true }
def AssembleWheresUptoSaid : Prop := assembleWheresUptoRow.holds Tryz.pinned (OpenSpec.upto assembleWheresSpec)

/-- 'linkworklaw42.VelocityAt', WHERE WHAT IT READS IS OF BULK AT MOST 1048576: true; the input reads as it did. -/
def velocityAtUptoRow : OpenClaim := { program := "ytohejbfhhanckaagreat", sum := "0486da58f00bf6340c1ec5ede2af49cf55bf3c2e11923dd94dedc26170e7f6b2", func := "linkwork/linkworklaw42.VelocityAt", spec := "velocityAt", unfollowed := true, recurses := true, apart := false, narrowed := true }
def VelocityAtUptoSaid : Prop := velocityAtUptoRow.holds Tryz.pinned (OpenSpec.upto velocityAtSpec)

/-- 'linkworklaw42.VelocityRigid', WHERE WHAT IT READS IS OF BULK AT MOST 1048576: true; the input reads as it did. -/
def velocityRigidUptoRow : OpenClaim := { program := "ytohejbfhhanckaagreat", sum := "0486da58f00bf6340c1ec5ede2af49cf55bf3c2e11923dd94dedc26170e7f6b2", func := "linkwork/linkworklaw42.VelocityRigid", spec := "velocityRigid", unfollowed := true, recurses := true, apart := false, narrowed := true }
def VelocityRigidUptoSaid : Prop := velocityRigidUptoRow.holds Tryz.pinned (OpenSpec.upto velocityRigidSpec)

/-- 'linkworklaw42.VelocityHolds', WHERE WHAT IT READS IS OF BULK AT MOST 1048576: true; the input reads as it did. -/
def velocityHoldsUptoRow : OpenClaim := { program := "ytohejbfhhanckaagreat", sum := "0486da58f00bf6340c1ec5ede2af49cf55bf3c2e11923dd94dedc26170e7f6b2", func := "linkwork/linkworklaw42.VelocityHolds", spec := "velocityHolds", unfollowed := true, recurses := true, apart := false, narrowed := true }
def VelocityHoldsUptoSaid : Prop := velocityHoldsUptoRow.holds Tryz.pinned (OpenSpec.upto velocityHoldsSpec)

end Rows
end Go.Proofs.YtohejbfhhanckaaGreat
