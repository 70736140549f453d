/-
  No cell of these rows narrows 'for every input' (looked for: loops, veiled, ifaces, maps, wideKeys, modest, calm, conditions, laid).
  DERIVED. THE GIVEN ROWS OF THIS SEAT. 9 by the template 'for every input the law returns true; each argument reads behind the call as it read before'; 0 by the template 'total and deterministic' (their statements: YtlilpljpajeafaaGreatTotals.lean).
  GIVEN WITH THE SEED: the statements are not yours to turn. If you find one false, say at which input.
  Laid BY PROGRAM, IN A SANDBOX (cutbox-rows.mjs): the forced cells as the released guide's own fill.sh prints them over the translation ee953b7af81e5479… (all of the seat's roots in one cut). By AI agents, Wed Nov 11 2026. No macro, syntax, notation, axiom, sorry.
-/
import Derived.Test.YtlilpljpajeafaaGreatChecked
import GoSem.Claim
import GoSem.ClaimJoined
import GoSem.ClaimMapViews
import Derived.JoinedTies
import Derived.KernelRfl
namespace Go.Proofs.YtlilpljpajeafaaGreat
/- THE CELL 'sum', in the pinned program and in every row, IS THE sha256 OF THE DUMP (.gsa) THAT YtlilpljpajeafaaGreatProg.lean LOADS. Nothing in Lean hashes anything: it is a label: what it is worth is what the hold of that sum in a sandbox is worth. -/
noncomputable def Tryz.pinned : Pinned := { name := "ytlilpljpajeafaagreat", sum := "ee953b7af81e54799e934394e72bbc1e27bcc1093c0f737c92883c78a17267a0", checked := Tryz.checked }
namespace Rows
def none {H : Type} : Left H := { results := [], args := [] }

/-- 'linkworklaw26.DyadComplete': WHATEVER THE INPUT: true; the input reads as it did. -/
def dyadCompleteSpec : ChangeSpec := { name := "dyadComplete", fn := fun _ => fun
  | [d1, d2] => { results := [.lit (.bool true)], args := [d1, d2] }
  | _ => none }
def dyadCompleteRow : OpenClaim := { program := "ytlilpljpajeafaagreat", sum := "ee953b7af81e54799e934394e72bbc1e27bcc1093c0f737c92883c78a17267a0", func := "linkwork/linkworklaw26.DyadComplete", spec := "dyadComplete", unfollowed := true, recurses := true, apart := false }
def DyadCompleteSaid : Prop := dyadCompleteRow.holds Tryz.pinned (OpenSpec.ofChange dyadCompleteSpec)

/-- ITS FALSE NEIGHBOUR: 'it returns false'. Refute it at one input. -/
def dyadCompleteWrong : ChangeSpec := { name := "dyadComplete", fn := fun _ => fun
  | [d1, d2] => { results := [.lit (.bool false)], args := [d1, d2] }
  | _ => none }
def DyadCompleteWrongFalsely : Prop := dyadCompleteRow.holds Tryz.pinned (OpenSpec.ofChange dyadCompleteWrong)

/-- 'linkworklaw26.DyadHolds': WHATEVER THE INPUT: true; the input reads as it did. -/
def dyadHoldsSpec : ChangeSpec := { name := "dyadHolds", fn := fun _ => fun
  | [d1, d2] => { results := [.lit (.bool true)], args := [d1, d2] }
  | _ => none }
def dyadHoldsRow : OpenClaim := { program := "ytlilpljpajeafaagreat", sum := "ee953b7af81e54799e934394e72bbc1e27bcc1093c0f737c92883c78a17267a0", func := "linkwork/linkworklaw26.DyadHolds", spec := "dyadHolds", unfollowed := true, recurses := true, apart := false }
def DyadHoldsSaid : Prop := dyadHoldsRow.holds Tryz.pinned (OpenSpec.ofChange dyadHoldsSpec)

/-- ITS FALSE NEIGHBOUR: 'it returns false'. Refute it at one input. -/
def dyadHoldsWrong : ChangeSpec := { name := "dyadHolds", fn := fun _ => fun
  | [d1, d2] => { results := [.lit (.bool false)], args := [d1, d2] }
  | _ => none }
def DyadHoldsWrongFalsely : Prop := dyadHoldsRow.holds Tryz.pinned (OpenSpec.ofChange dyadHoldsWrong)

/-- 'linkworklaw27.AssembleHolds': WHATEVER THE INPUT: true; the input reads as it did. -/
def assembleHoldsSpec : ChangeSpec := { name := "assembleHolds", fn := fun _ => fun
  | [d1, d2] => { results := [.lit (.bool true)], args := [d1, d2] }
  | _ => none }
def assembleHoldsRow : OpenClaim := { program := "ytlilpljpajeafaagreat", sum := "ee953b7af81e54799e934394e72bbc1e27bcc1093c0f737c92883c78a17267a0", func := "linkwork/linkworklaw27.AssembleHolds", spec := "assembleHolds", unfollowed := true, recurses := true, apart := false }
def AssembleHoldsSaid : Prop := assembleHoldsRow.holds Tryz.pinned (OpenSpec.ofChange assembleHoldsSpec)

/-- ITS FALSE NEIGHBOUR: 'it returns false'. Refute it at one input. -/
def assembleHoldsWrong : ChangeSpec := { name := "assembleHolds", fn := fun _ => fun
  | [d1, d2] => { results := [.lit (.bool false)], args := [d1, d2] }
  | _ => none }
def AssembleHoldsWrongFalsely : Prop := assembleHoldsRow.holds Tryz.pinned (OpenSpec.ofChange assembleHoldsWrong)

/-- 'linkworklaw27.AssembleComplete': WHATEVER THE INPUT: true; the input reads as it did. -/
def assembleCompleteSpec : ChangeSpec := { name := "assembleComplete", fn := fun _ => fun
  | [d] => { results := [.lit (.bool true)], args := [d] }
  | _ => none }
def assembleCompleteRow : OpenClaim := { program := "ytlilpljpajeafaagreat", sum := "ee953b7af81e54799e934394e72bbc1e27bcc1093c0f737c92883c78a17267a0", func := "linkwork/linkworklaw27.AssembleComplete", spec := "assembleComplete", unfollowed := true, recurses := true, apart := false }
def AssembleCompleteSaid : Prop := assembleCompleteRow.holds Tryz.pinned (OpenSpec.ofChange assembleCompleteSpec)

/-- ITS FALSE NEIGHBOUR: 'it returns false'. Refute it at one input. -/
def assembleCompleteWrong : ChangeSpec := { name := "assembleComplete", fn := fun _ => fun
  | [d] => { results := [.lit (.bool false)], args := [d] }
  | _ => none }
def AssembleCompleteWrongFalsely : Prop := assembleCompleteRow.holds Tryz.pinned (OpenSpec.ofChange assembleCompleteWrong)

/-- 'linkworklaw27.AssembleAlls': WHATEVER THE INPUT: true; the input reads as it did. -/
def assembleAllsSpec : ChangeSpec := { name := "assembleAlls", fn := fun _ => fun
  | [d1, d2] => { results := [.lit (.bool true)], args := [d1, d2] }
  | _ => none }
def assembleAllsRow : OpenClaim := { program := "ytlilpljpajeafaagreat", sum := "ee953b7af81e54799e934394e72bbc1e27bcc1093c0f737c92883c78a17267a0", func := "linkwork/linkworklaw27.AssembleAlls", spec := "assembleAlls", unfollowed := true, recurses := true, apart := false }
def AssembleAllsSaid : Prop := assembleAllsRow.holds Tryz.pinned (OpenSpec.ofChange assembleAllsSpec)

/-- ITS FALSE NEIGHBOUR: 'it returns false'. Refute it at one input. -/
def assembleAllsWrong : ChangeSpec := { name := "assembleAlls", fn := fun _ => fun
  | [d1, d2] => { results := [.lit (.bool false)], args := [d1, d2] }
  | _ => none }
def AssembleAllsWrongFalsely : Prop := assembleAllsRow.holds Tryz.pinned (OpenSpec.ofChange assembleAllsWrong)

/-- 'linkworklaw27.AssembleOnes': WHATEVER THE INPUT: true; the input reads as it did. -/
def assembleOnesSpec : ChangeSpec := { name := "assembleOnes", fn := fun _ => fun
  | [d1, d2, d3] => { results := [.lit (.bool true)], args := [d1, d2, d3] }
  | _ => none }
def assembleOnesRow : OpenClaim := { program := "ytlilpljpajeafaagreat", sum := "ee953b7af81e54799e934394e72bbc1e27bcc1093c0f737c92883c78a17267a0", func := "linkwork/linkworklaw27.AssembleOnes", spec := "assembleOnes", unfollowed := true, recurses := true, apart := false }
def AssembleOnesSaid : Prop := assembleOnesRow.holds Tryz.pinned (OpenSpec.ofChange assembleOnesSpec)

/-- ITS FALSE NEIGHBOUR: 'it returns false'. Refute it at one input. -/
def assembleOnesWrong : ChangeSpec := { name := "assembleOnes", fn := fun _ => fun
  | [d1, d2, d3] => { results := [.lit (.bool false)], args := [d1, d2, d3] }
  | _ => none }
def AssembleOnesWrongFalsely : Prop := assembleOnesRow.holds Tryz.pinned (OpenSpec.ofChange assembleOnesWrong)

/-- 'linkworklaw27.AssembleModes': WHATEVER THE INPUT: true; the input reads as it did. -/
def assembleModesSpec : ChangeSpec := { name := "assembleModes", fn := fun _ => fun
  | [d1, d2, d3] => { results := [.lit (.bool true)], args := [d1, d2, d3] }
  | _ => none }
def assembleModesRow : OpenClaim := { program := "ytlilpljpajeafaagreat", sum := "ee953b7af81e54799e934394e72bbc1e27bcc1093c0f737c92883c78a17267a0", func := "linkwork/linkworklaw27.AssembleModes", spec := "assembleModes", unfollowed := true, recurses := true, apart := false }
def AssembleModesSaid : Prop := assembleModesRow.holds Tryz.pinned (OpenSpec.ofChange assembleModesSpec)

/-- ITS FALSE NEIGHBOUR: 'it returns false'. Refute it at one input. -/
def assembleModesWrong : ChangeSpec := { name := "assembleModes", fn := fun _ => fun
  | [d1, d2, d3] => { results := [.lit (.bool false)], args := [d1, d2, d3] }
  | _ => none }
def AssembleModesWrongFalsely : Prop := assembleModesRow.holds Tryz.pinned (OpenSpec.ofChange assembleModesWrong)

/-- 'linkworklaw28.CertifyAccepts': WHATEVER THE INPUT: true; the input reads as it did. -/
def certifyAcceptsSpec : ChangeSpec := { name := "certifyAccepts", fn := fun _ => fun
  | [d1, d2, d3] => { results := [.lit (.bool true)], args := [d1, d2, d3] }
  | _ => none }
def certifyAcceptsRow : OpenClaim := { program := "ytlilpljpajeafaagreat", sum := "ee953b7af81e54799e934394e72bbc1e27bcc1093c0f737c92883c78a17267a0", func := "linkwork/linkworklaw28.CertifyAccepts", spec := "certifyAccepts", unfollowed := true, recurses := true, apart := false }
def CertifyAcceptsSaid : Prop := certifyAcceptsRow.holds Tryz.pinned (OpenSpec.ofChange certifyAcceptsSpec)

/-- ITS FALSE NEIGHBOUR: 'it returns false'. Refute it at one input. -/
def certifyAcceptsWrong : ChangeSpec := { name := "certifyAccepts", fn := fun _ => fun
  | [d1, d2, d3] => { results := [.lit (.bool false)], args := [d1, d2, d3] }
  | _ => none }
def CertifyAcceptsWrongFalsely : Prop := certifyAcceptsRow.holds Tryz.pinned (OpenSpec.ofChange certifyAcceptsWrong)

/-- 'linkworklaw28.CertifyRigid': WHATEVER THE INPUT: true; the input reads as it did. -/
def certifyRigidSpec : ChangeSpec := { name := "certifyRigid", fn := fun _ => fun
  | [d1, d2, d3] => { results := [.lit (.bool true)], args := [d1, d2, d3] }
  | _ => none }
def certifyRigidRow : OpenClaim := { program := "ytlilpljpajeafaagreat", sum := "ee953b7af81e54799e934394e72bbc1e27bcc1093c0f737c92883c78a17267a0", func := "linkwork/linkworklaw28.CertifyRigid", spec := "certifyRigid", unfollowed := true, recurses := true, apart := false }
def CertifyRigidSaid : Prop := certifyRigidRow.holds Tryz.pinned (OpenSpec.ofChange certifyRigidSpec)

/-- ITS FALSE NEIGHBOUR: 'it returns false'. Refute it at one input. -/
def certifyRigidWrong : ChangeSpec := { name := "certifyRigid", fn := fun _ => fun
  | [d1, d2, d3] => { results := [.lit (.bool false)], args := [d1, d2, d3] }
  | _ => none }
def CertifyRigidWrongFalsely : Prop := certifyRigidRow.holds Tryz.pinned (OpenSpec.ofChange certifyRigidWrong)

/- THE SECOND FORM. 'bulk': how many values and letters a reading holds, each counted each time it is reached (what is shared counts as often as it is met; a slice's spare places count too). A statement '..UptoSaid' is the law's where the arguments, and the package variables that the reading takes, are together of bulk at most 1048576: NARROWER than '..Said'. Prove '..Said' where nothing that the law and all that it calls make is longer than what came in: it says more and counts as full. Else prove '..UptoSaid'. A law counts once. -/
mutual
def uptoBulk {H : Type} : DataW H → Nat
  | .lit (.string bytes) => bytes.length + 1
  | .lit _ => 1
  | .nil => 1
  | .ptr d => uptoBulk d + 1
  | .slice elems spare => uptoBulkAll elems + uptoBulkAll spare + 1
  | .agg parts => uptoBulkAll parts + 1
  | .iface _ d => uptoBulk d + 1
  | .map entries => uptoBulkEntries entries + 1
  | .held _ => 1
def uptoBulkAll {H : Type} : List (DataW H) → Nat
  | [] => 0
  | d :: r => uptoBulk d + uptoBulkAll r
def uptoBulkEntries {H : Type} : List (Lit × DataW H) → Nat
  | [] => 0
  | x :: r => uptoBulkEntry x + uptoBulkEntries r
def uptoBulkEntry {H : Type} : Lit × DataW H → Nat
  | (.string bytes, d) => bytes.length + uptoBulk d + 1
  | (_, d) => uptoBulk d + 1
 end
def uptoSmall : (H : Type) → List (DataW H) → Bool := fun _ ds => decide (uptoBulkAll ds ≤ 1048576)
def OpenSpec.upto (s : _root_.Go.ChangeSpec) : _root_.Go.OpenSpec := { _root_.Go.OpenSpec.ofChange s with cond := some uptoSmall }

/-- 'linkworklaw26.DyadComplete', WHERE WHAT IT READS IS OF BULK AT MOST 1048576: true; the input reads as it did. -/
def dyadCompleteUptoRow : OpenClaim := { program := "ytlilpljpajeafaagreat", sum := "ee953b7af81e54799e934394e72bbc1e27bcc1093c0f737c92883c78a17267a0", func := "linkwork/linkworklaw26.DyadComplete", spec := "dyadComplete", unfollowed := true, recurses := true, apart := false, narrowed := true }
def DyadCompleteUptoSaid : Prop := dyadCompleteUptoRow.holds Tryz.pinned (OpenSpec.upto dyadCompleteSpec)

/-- 'linkworklaw26.DyadHolds', WHERE WHAT IT READS IS OF BULK AT MOST 1048576: true; the input reads as it did. -/
def dyadHoldsUptoRow : OpenClaim := { program := "ytlilpljpajeafaagreat", sum := "ee953b7af81e54799e934394e72bbc1e27bcc1093c0f737c92883c78a17267a0", func := "linkwork/linkworklaw26.DyadHolds", spec := "dyadHolds", unfollowed := true, recurses := true, apart := false, narrowed := true }
def DyadHoldsUptoSaid : Prop := dyadHoldsUptoRow.holds Tryz.pinned (OpenSpec.upto dyadHoldsSpec)

/-- 'linkworklaw27.AssembleHolds', WHERE WHAT IT READS IS OF BULK AT MOST 1048576: true; the input reads as it did. -/
def assembleHoldsUptoRow : OpenClaim := { program := "ytlilpljpajeafaagreat", sum := "ee953b7af81e54799e934394e72bbc1e27bcc1093c0f737c92883c78a17267a0", func := "linkwork/linkworklaw27.AssembleHolds", spec := "assembleHolds", unfollowed := true, recurses := true, apart := false, narrowed := true }
def AssembleHoldsUptoSaid : Prop := assembleHoldsUptoRow.holds Tryz.pinned (OpenSpec.upto assembleHoldsSpec)

/-- 'linkworklaw27.AssembleComplete', WHERE WHAT IT READS IS OF BULK AT MOST 1048576: true; the input reads as it did. -/
def assembleCompleteUptoRow : OpenClaim := { program := "ytlilpljpajeafaagreat", sum := "ee953b7af81e54799e934394e72bbc1e27bcc1093c0f737c92883c78a17267a0", func := "linkwork/linkworklaw27.AssembleComplete", spec := "assembleComplete", unfollowed := true, recurses := true, apart := false, narrowed := true }
def AssembleCompleteUptoSaid : Prop := assembleCompleteUptoRow.holds Tryz.pinned (OpenSpec.upto assembleCompleteSpec)

/-- 'linkworklaw27.AssembleAlls', WHERE WHAT IT READS IS OF BULK AT MOST 1048576: true; the input reads as it did. -/
def assembleAllsUptoRow : OpenClaim := { program := "ytlilpljpajeafaagreat", sum := "ee953b7af81e54799e934394e72bbc1e27bcc1093c0f737c92883c78a17267a0", func := "linkwork/linkworklaw27.AssembleAlls", spec := "assembleAlls", unfollowed := true, recurses := true, apart := false, narrowed := true }
def AssembleAllsUptoSaid : Prop := assembleAllsUptoRow.holds Tryz.pinned (OpenSpec.upto assembleAllsSpec)

/-- 'linkworklaw27.AssembleOnes', WHERE WHAT IT READS IS OF BULK AT MOST 1048576: true; the input reads as it did. -/
def assembleOnesUptoRow : OpenClaim := { program := "ytlilpljpajeafaagreat", sum := "ee953b7af81e54799e934394e72bbc1e27bcc1093c0f737c92883c78a17267a0", func := "linkwork/linkworklaw27.AssembleOnes", spec := "assembleOnes", unfollowed := true, recurses := true, apart := false, narrowed := true }
def AssembleOnesUptoSaid : Prop := assembleOnesUptoRow.holds Tryz.pinned (OpenSpec.upto assembleOnesSpec)

/-- 'linkworklaw27.AssembleModes', WHERE WHAT IT READS IS OF BULK AT MOST 1048576: true; the input reads as it did. -/
def assembleModesUptoRow : OpenClaim := { program := "ytlilpljpajeafaagreat", sum := "ee953b7af81e54799e934394e72bbc1e27bcc1093c0f737c92883c78a17267a0", func := "linkwork/linkworklaw27.AssembleModes", spec := "assembleModes", unfollowed := true, recurses := true, apart := false, narrowed := true }
def AssembleModesUptoSaid : Prop := assembleModesUptoRow.holds Tryz.pinned (OpenSpec.upto assembleModesSpec)

/-- 'linkworklaw28.CertifyAccepts', WHERE WHAT IT READS IS OF BULK AT MOST 1048576: true; the input reads as it did. -/
def certifyAcceptsUptoRow : OpenClaim := { program := "ytlilpljpajeafaagreat", sum := "ee953b7af81e54799e934394e72bbc1e27bcc1093c0f737c92883c78a17267a0", func := "linkwork/linkworklaw28.CertifyAccepts", spec := "certifyAccepts", unfollowed := true, recurses := true, apart := false, narrowed := true }
def CertifyAcceptsUptoSaid : Prop := certifyAcceptsUptoRow.holds Tryz.pinned (OpenSpec.upto certifyAcceptsSpec)

/-- 'linkworklaw28.CertifyRigid', WHERE WHAT IT READS IS OF BULK AT MOST 1048576: true; the input reads as it did. -/
def certifyRigidUptoRow : OpenClaim := { program := "ytlilpljpajeafaagreat", sum := "ee953b7af81e54799e934394e72bbc1e27bcc1093c0f737c92883c78a17267a0", func := "linkwork/linkworklaw28.CertifyRigid", spec := "certifyRigid", unfollowed := true, recurses := true, apart := false, narrowed := true }
def CertifyRigidUptoSaid : Prop := certifyRigidUptoRow.holds Tryz.pinned (OpenSpec.upto certifyRigidSpec)

end Rows
end Go.Proofs.YtlilpljpajeafaaGreat
