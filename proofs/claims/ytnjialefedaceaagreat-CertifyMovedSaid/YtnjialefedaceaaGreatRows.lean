/-
  No cell of these rows narrows 'for every input' (looked for: loops, veiled, ifaces, maps, wideKeys, modest, calm, conditions, laid).
  DERIVED. THE GIVEN ROWS OF THIS SEAT. 3 by the template 'for every input the law returns true; each argument reads behind the call as it read before'; 0 by the template 'total and deterministic' (their statements: YtnjialefedaceaaGreatTotals.lean).
  GIVEN WITH THE SEED: the statements are not yours to turn. If you find one false, say at which input.
  Laid BY PROGRAM, IN A SANDBOX (cutbox-rows.mjs): the forced cells as the released guide's own fill.sh prints them over the translation 21eb731599418584… (all of the seat's roots in one cut). By AI agents, Wed Nov 11 2026. No macro, syntax, notation, axiom, sorry.
-/
import Derived.Test.YtnjialefedaceaaGreatChecked
import GoSem.Claim
import GoSem.ClaimJoined
import GoSem.ClaimMapViews
import Derived.JoinedTies
import Derived.KernelRfl
namespace Go.Proofs.YtnjialefedaceaaGreat
/- THE CELL 'sum', in the pinned program and in every row, IS THE sha256 OF THE DUMP (.gsa) THAT YtnjialefedaceaaGreatProg.lean LOADS. Nothing in Lean hashes anything: it is a label: what it is worth is what the hold of that sum in a sandbox is worth. -/
noncomputable def Tryz.pinned : Pinned := { name := "ytnjialefedaceaagreat", sum := "21eb7315994185843f4af39d972d80030399eeb61011539c222852801a752867", checked := Tryz.checked }
namespace Rows
def none {H : Type} : Left H := { results := [], args := [] }

/-- 'linkworklaw28.CertifyVerifies': WHATEVER THE INPUT: true; the input reads as it did. -/
def certifyVerifiesSpec : ChangeSpec := { name := "certifyVerifies", fn := fun _ => fun
  | [d1, d2, d3] => { results := [.lit (.bool true)], args := [d1, d2, d3] }
  | _ => none }
def certifyVerifiesRow : OpenClaim := { program := "ytnjialefedaceaagreat", sum := "21eb7315994185843f4af39d972d80030399eeb61011539c222852801a752867", func := "linkwork/linkworklaw28.CertifyVerifies", spec := "certifyVerifies", unfollowed := true, recurses := true, apart := false }
def CertifyVerifiesSaid : Prop := certifyVerifiesRow.holds Tryz.pinned (OpenSpec.ofChange certifyVerifiesSpec)

/-- ITS FALSE NEIGHBOUR: 'it returns false'. Refute it at one input. -/
def certifyVerifiesWrong : ChangeSpec := { name := "certifyVerifies", fn := fun _ => fun
  | [d1, d2, d3] => { results := [.lit (.bool false)], args := [d1, d2, d3] }
  | _ => none }
def CertifyVerifiesWrongFalsely : Prop := certifyVerifiesRow.holds Tryz.pinned (OpenSpec.ofChange certifyVerifiesWrong)

/-- 'linkworklaw28.CertifyMatches': WHATEVER THE INPUT: true; the input reads as it did. -/
def certifyMatchesSpec : ChangeSpec := { name := "certifyMatches", fn := fun _ => fun
  | [d1, d2] => { results := [.lit (.bool true)], args := [d1, d2] }
  | _ => none }
def certifyMatchesRow : OpenClaim := { program := "ytnjialefedaceaagreat", sum := "21eb7315994185843f4af39d972d80030399eeb61011539c222852801a752867", func := "linkwork/linkworklaw28.CertifyMatches", spec := "certifyMatches", unfollowed := true, recurses := true, apart := false }
def CertifyMatchesSaid : Prop := certifyMatchesRow.holds Tryz.pinned (OpenSpec.ofChange certifyMatchesSpec)

/-- ITS FALSE NEIGHBOUR: 'it returns false'. Refute it at one input. -/
def certifyMatchesWrong : ChangeSpec := { name := "certifyMatches", fn := fun _ => fun
  | [d1, d2] => { results := [.lit (.bool false)], args := [d1, d2] }
  | _ => none }
def CertifyMatchesWrongFalsely : Prop := certifyMatchesRow.holds Tryz.pinned (OpenSpec.ofChange certifyMatchesWrong)

/-- 'linkworklaw28.CertifyMoved': WHATEVER THE INPUT: true; the input reads as it did. -/
def certifyMovedSpec : ChangeSpec := { name := "certifyMoved", fn := fun _ => fun
  | [d1, d2, d3] => { results := [.lit (.bool true)], args := [d1, d2, d3] }
  | _ => none }
def certifyMovedRow : OpenClaim := { program := "ytnjialefedaceaagreat", sum := "21eb7315994185843f4af39d972d80030399eeb61011539c222852801a752867", func := "linkwork/linkworklaw28.CertifyMoved", spec := "certifyMoved", unfollowed := true, recurses := true, apart := false }
def CertifyMovedSaid : Prop := certifyMovedRow.holds Tryz.pinned (OpenSpec.ofChange certifyMovedSpec)

/-- ITS FALSE NEIGHBOUR: 'it returns false'. Refute it at one input. -/
def certifyMovedWrong : ChangeSpec := { name := "certifyMoved", fn := fun _ => fun
  | [d1, d2, d3] => { results := [.lit (.bool false)], args := [d1, d2, d3] }
  | _ => none }
def CertifyMovedWrongFalsely : Prop := certifyMovedRow.holds Tryz.pinned (OpenSpec.ofChange certifyMovedWrong)

/- THE SECOND FORM. 'bulk': how many values and letters a reading holds, each counted each time it is reached (what is shared counts as often as it is met; a slice's spare places count too). A statement '..UptoSaid' is the law's where the arguments, and the package variables that the reading takes, are together of bulk at most 1048576: NARROWER than '..Said'. Prove '..Said' where nothing that the law and all that it calls make is longer than what came in: it says more and counts as full. Else prove '..UptoSaid'. A law counts once. -/
mutual
def uptoBulk {H : Type} : DataW H → Nat
  | .lit (.string bytes) => bytes.length + 1
  | .lit _ => 1
  | .nil => 1
  | .ptr d => uptoBulk d + 1
  | .slice elems spare => uptoBulkAll elems + uptoBulkAll spare + 1
  | .agg parts => uptoBulkAll parts + 1
  | .iface _ d => uptoBulk d + 1
  | .map entries => uptoBulkEntries entries + 1
  | .held _ => 1
def uptoBulkAll {H : Type} : List (DataW H) → Nat
  | [] => 0
  | d :: r => uptoBulk d + uptoBulkAll r
def uptoBulkEntries {H : Type} : List (Lit × DataW H) → Nat
  | [] => 0
  | x :: r => uptoBulkEntry x + uptoBulkEntries r
def uptoBulkEntry {H : Type} : Lit × DataW H → Nat
  | (.string bytes, d) => bytes.length + uptoBulk d + 1
  | (_, d) => uptoBulk d + 1
 end
def uptoSmall : (H : Type) → List (DataW H) → Bool := fun _ ds => decide (uptoBulkAll ds ≤ 1048576)
def OpenSpec.upto (s : _root_.Go.ChangeSpec) : _root_.Go.OpenSpec := { _root_.Go.OpenSpec.ofChange s with cond := some uptoSmall }

/-- 'linkworklaw28.CertifyVerifies', WHERE WHAT IT READS IS OF BULK AT MOST 1048576: true; the input reads as it did. -/
def certifyVerifiesUptoRow : OpenClaim := { program := "ytnjialefedaceaagreat", sum := "21eb7315994185843f4af39d972d80030399eeb61011539c222852801a752867", func := "linkwork/linkworklaw28.CertifyVerifies", spec := "certifyVerifies", unfollowed := true, recurses := true, apart := false, narrowed := true }
def CertifyVerifiesUptoSaid : Prop := certifyVerifiesUptoRow.holds Tryz.pinned (OpenSpec.upto certifyVerifiesSpec)

/-- 'linkworklaw28.CertifyMatches', WHERE WHAT IT READS IS OF BULK AT MOST 1048576: true; the input reads as it did. -/
def certifyMatchesUptoRow : OpenClaim := { program := "ytnjialefedaceaagreat", sum := "21eb7315994185843f4af39d972d80030399eeb61011539c222852801a752867", func := "linkwork/linkworklaw28.CertifyMatches", spec := "certifyMatches", unfollowed := true, recurses := true, apart := false, narrowed := true }
def CertifyMatchesUptoSaid : Prop := certifyMatchesUptoRow.holds Tryz.pinned (OpenSpec.upto certifyMatchesSpec)

/-- 'linkworklaw28.CertifyMoved', WHERE WHAT IT READS IS OF BULK AT MOST 1048576: true; the input reads as it did. -/
def certifyMovedUptoRow : OpenClaim := { program := "ytnjialefedaceaagreat", sum := "21eb7315994185843f4af39d972d80030399eeb61011539c222852801a752867", func := "linkwork/linkworklaw28.CertifyMoved", spec := "certifyMoved", unfollowed := true, recurses := true, apart := false, narrowed := true }
def CertifyMovedUptoSaid : Prop := certifyMovedUptoRow.holds Tryz.pinned (OpenSpec.upto certifyMovedSpec)

end Rows
end Go.Proofs.YtnjialefedaceaaGreat
