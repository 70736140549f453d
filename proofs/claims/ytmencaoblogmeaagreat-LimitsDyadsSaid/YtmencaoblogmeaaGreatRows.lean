/-
  No cell of these rows narrows 'for every input' (looked for: loops, veiled, ifaces, maps, wideKeys, modest, calm, conditions, laid).
  DERIVED. THE GIVEN ROWS OF THIS SEAT. 3 by the template 'for every input the law returns true; each argument reads behind the call as it read before'; 0 by the template 'total and deterministic' (their statements: YtmencaoblogmeaaGreatTotals.lean).
  GIVEN WITH THE SEED: the statements are not yours to turn. If you find one false, say at which input.
  Laid BY PROGRAM, IN A SANDBOX (cutbox-rows.mjs): the forced cells as the released guide's own fill.sh prints them over the translation c75d2be8094df956… (all of the seat's roots in one cut). By AI agents, Wed Nov 11 2026. No macro, syntax, notation, axiom, sorry.
-/
import Derived.Test.YtmencaoblogmeaaGreatChecked
import GoSem.Claim
import GoSem.ClaimJoined
import GoSem.ClaimMapViews
import Derived.JoinedTies
import Derived.KernelRfl
namespace Go.Proofs.YtmencaoblogmeaaGreat
/- THE CELL 'sum', in the pinned program and in every row, IS THE sha256 OF THE DUMP (.gsa) THAT YtmencaoblogmeaaGreatProg.lean LOADS. Nothing in Lean hashes anything: it is a label: what it is worth is what the hold of that sum in a sandbox is worth. -/
noncomputable def Tryz.pinned : Pinned := { name := "ytmencaoblogmeaagreat", sum := "c75d2be8094df9568e7b0e627852031896fb9dc6cfbaa2fd9e2309eafb26c18b", checked := Tryz.checked }
namespace Rows
def none {H : Type} : Left H := { results := [], args := [] }

/-- 'linkworklaw32.LimitsRadicands': WHATEVER THE INPUT: true; the input reads as it did. -/
def limitsRadicandsSpec : ChangeSpec := { name := "limitsRadicands", fn := fun _ => fun
  | [d] => { results := [.lit (.bool true)], args := [d] }
  | _ => none }
def limitsRadicandsRow : OpenClaim := { program := "ytmencaoblogmeaagreat", sum := "c75d2be8094df9568e7b0e627852031896fb9dc6cfbaa2fd9e2309eafb26c18b", func := "linkwork/linkworklaw32.LimitsRadicands", spec := "limitsRadicands", unfollowed := true, recurses := true, apart := false }
def LimitsRadicandsSaid : Prop := limitsRadicandsRow.holds Tryz.pinned (OpenSpec.ofChange limitsRadicandsSpec)

/-- ITS FALSE NEIGHBOUR: 'it returns false'. Refute it at one input. -/
def limitsRadicandsWrong : ChangeSpec := { name := "limitsRadicands", fn := fun _ => fun
  | [d] => { results := [.lit (.bool false)], args := [d] }
  | _ => none }
def LimitsRadicandsWrongFalsely : Prop := limitsRadicandsRow.holds Tryz.pinned (OpenSpec.ofChange limitsRadicandsWrong)

/-- 'linkworklaw32.LimitsExists': WHATEVER THE INPUT: true; the input reads as it did. -/
def limitsExistsSpec : ChangeSpec := { name := "limitsExists", fn := fun _ => fun
  | [d1, d2] => { results := [.lit (.bool true)], args := [d1, d2] }
  | _ => none }
def limitsExistsRow : OpenClaim := { program := "ytmencaoblogmeaagreat", sum := "c75d2be8094df9568e7b0e627852031896fb9dc6cfbaa2fd9e2309eafb26c18b", func := "linkwork/linkworklaw32.LimitsExists", spec := "limitsExists", unfollowed := true, recurses := true, apart := false }
def LimitsExistsSaid : Prop := limitsExistsRow.holds Tryz.pinned (OpenSpec.ofChange limitsExistsSpec)

/-- ITS FALSE NEIGHBOUR: 'it returns false'. Refute it at one input. -/
def limitsExistsWrong : ChangeSpec := { name := "limitsExists", fn := fun _ => fun
  | [d1, d2] => { results := [.lit (.bool false)], args := [d1, d2] }
  | _ => none }
def LimitsExistsWrongFalsely : Prop := limitsExistsRow.holds Tryz.pinned (OpenSpec.ofChange limitsExistsWrong)

/-- 'linkworklaw32.LimitsDyads': WHATEVER THE INPUT: true; the input reads as it did. -/
def limitsDyadsSpec : ChangeSpec := { name := "limitsDyads", fn := fun _ => fun
  | [d1, d2] => { results := [.lit (.bool true)], args := [d1, d2] }
  | _ => none }
def limitsDyadsRow : OpenClaim := { program := "ytmencaoblogmeaagreat", sum := "c75d2be8094df9568e7b0e627852031896fb9dc6cfbaa2fd9e2309eafb26c18b", func := "linkwork/linkworklaw32.LimitsDyads", spec := "limitsDyads", unfollowed := true, recurses := true, apart := false }
def LimitsDyadsSaid : Prop := limitsDyadsRow.holds Tryz.pinned (OpenSpec.ofChange limitsDyadsSpec)

/-- ITS FALSE NEIGHBOUR: 'it returns false'. Refute it at one input. -/
def limitsDyadsWrong : ChangeSpec := { name := "limitsDyads", fn := fun _ => fun
  | [d1, d2] => { results := [.lit (.bool false)], args := [d1, d2] }
  | _ => none }
def LimitsDyadsWrongFalsely : Prop := limitsDyadsRow.holds Tryz.pinned (OpenSpec.ofChange limitsDyadsWrong)

/- THE SECOND FORM. 'bulk': how many values and letters a reading holds, each counted each time it is reached (what is shared counts as often as it is met; a slice's spare places count too). A statement '..UptoSaid' is the law's where the arguments, and the package variables that the reading takes, are together of bulk at most 1048576: NARROWER than '..Said'. Prove '..Said' where nothing that the law and all that it calls make is longer than what came in: it says more and counts as full. Else prove '..UptoSaid'. A law counts once. -/
mutual
def uptoBulk {H : Type} : DataW H → Nat
  | .lit (.string bytes) => bytes.length + 1
  | .lit _ => 1
  | .nil => 1
  | .ptr d => uptoBulk d + 1
  | .slice elems spare => uptoBulkAll elems + uptoBulkAll spare + 1
  | .agg parts => uptoBulkAll parts + 1
  | .iface _ d => uptoBulk d + 1
  | .map entries => uptoBulkEntries entries + 1
  | .held _ => 1
def uptoBulkAll {H : Type} : List (DataW H) → Nat
  | [] => 0
  | d :: r => uptoBulk d + uptoBulkAll r
def uptoBulkEntries {H : Type} : List (Lit × DataW H) → Nat
  | [] => 0
  | x :: r => uptoBulkEntry x + uptoBulkEntries r
def uptoBulkEntry {H : Type} : Lit × DataW H → Nat
  | (.string bytes, d) => bytes.length + uptoBulk d + 1
  | (_, d) => uptoBulk d + 1
 end
def uptoSmall : (H : Type) → List (DataW H) → Bool := fun _ ds => decide (uptoBulkAll ds ≤ 1048576)
def OpenSpec.upto (s : _root_.Go.ChangeSpec) : _root_.Go.OpenSpec := { _root_.Go.OpenSpec.ofChange s with cond := some uptoSmall }

/-- 'linkworklaw32.LimitsRadicands', WHERE WHAT IT READS IS OF BULK AT MOST 1048576: true; the input reads as it did. -/
def limitsRadicandsUptoRow : OpenClaim := { program := "ytmencaoblogmeaagreat", sum := "c75d2be8094df9568e7b0e627852031896fb9dc6cfbaa2fd9e2309eafb26c18b", func := "linkwork/linkworklaw32.LimitsRadicands", spec := "limitsRadicands", unfollowed := true, recurses := true, apart := false, narrowed := true }
def LimitsRadicandsUptoSaid : Prop := limitsRadicandsUptoRow.holds Tryz.pinned (OpenSpec.upto limitsRadicandsSpec)

/-- 'linkworklaw32.LimitsExists', WHERE WHAT IT READS IS OF BULK AT MOST 1048576: true; the input reads as it did. -/
def limitsExistsUptoRow : OpenClaim := { program := "ytmencaoblogmeaagreat", sum := "c75d2be8094df9568e7b0e627852031896fb9dc6cfbaa2fd9e2309eafb26c18b", func := "linkwork/linkworklaw32.LimitsExists", spec := "limitsExists", unfollowed := true, recurses := true, apart := false, narrowed := true }
def LimitsExistsUptoSaid : Prop := limitsExistsUptoRow.holds Tryz.pinned (OpenSpec.upto limitsExistsSpec)

/-- 'linkworklaw32.LimitsDyads', WHERE WHAT IT READS IS OF BULK AT MOST 1048576: true; the input reads as it did. -/
def limitsDyadsUptoRow : OpenClaim := { program := "ytmencaoblogmeaagreat", sum := "c75d2be8094df9568e7b0e627852031896fb9dc6cfbaa2fd9e2309eafb26c18b", func := "linkwork/linkworklaw32.LimitsDyads", spec := "limitsDyads", unfollowed := true, recurses := true, apart := false, narrowed := true }
def LimitsDyadsUptoSaid : Prop := limitsDyadsUptoRow.holds Tryz.pinned (OpenSpec.upto limitsDyadsSpec)

end Rows
end Go.Proofs.YtmencaoblogmeaaGreat
