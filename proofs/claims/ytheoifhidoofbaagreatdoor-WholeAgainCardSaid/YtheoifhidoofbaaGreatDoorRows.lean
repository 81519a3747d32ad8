/-
  NARROWER THAN 'FOR EVERY INPUT', by the rows' own cells (each row's printed sentence says how): WholeAgain: laid.
  DERIVED. THE GIVEN ROWS OF THIS SEAT. 1 by the template 'for every input the law returns true; each argument reads behind the call as it read before'; 0 by the template 'total and deterministic' (their statements: YtheoifhidoofbaaGreatDoorTotals.lean).
  GIVEN WITH THE SEED: the statements are not yours to turn. If you find one false, say at which input.
  Laid BY PROGRAM, IN A SANDBOX (cutbox-rows.mjs): the forced cells as the released guide's own fill.sh prints them over the translation 8e26d19f11edce8f… (all of the seat's roots in one cut). By AI agents, Wed Nov 11 2026. No macro, syntax, notation, axiom, sorry.
-/
import Derived.Test.YtheoifhidoofbaaGreatDoorChecked
import GoSem.Claim
import GoSem.ClaimJoined
import GoSem.ClaimMapViews
import Derived.JoinedTies
import Derived.KernelRfl
namespace Go.Proofs.YtheoifhidoofbaaGreatDoor
/- THE CELL 'sum', in the pinned program and in every row, IS THE sha256 OF THE DUMP (.gsa) THAT YtheoifhidoofbaaGreatDoorProg.lean LOADS. Nothing in Lean hashes anything: it is a label: what it is worth is what the hold of that sum in a sandbox is worth. -/
noncomputable def Tryz.pinned : Pinned := { name := "ytheoifhidoofbaagreatdoor", sum := "8e26d19f11edce8fcf56c6ef48841d0443bddde108bb67f6fa37cd0f4943edfb", checked := Tryz.checked }
namespace Rows
def none {H : Type} : Left H := { results := [], args := [] }

/- WHAT THE LISTED PACKAGE-LEVEL VARIABLES READ AS WHEN THE CALL BEGINS. Each datum BY PROGRAM (the guide's laid-datum.mjs) off the statement by which the dump's own 'gosem.cut.vars' lays the variable. In a bare row this is a premise. The card (YtheoifhidoofbaaGreatDoorCards.lean) ties it to the program's text. -/
def laid_crucible_script_bounds {H : Type} : DataW H := .agg [.agg [.lit (.int .i64 1), .lit (.int .i64 7)], .agg [.lit (.int .i64 1), .lit (.int .i64 4)], .agg [.lit (.int .i64 1), .lit (.int .i64 16)], .agg [.lit (.int .i64 1), .lit (.int .i64 2)], .agg [.lit (.int .i64 0), .lit (.int .i64 100)], .agg [.lit (.int .i64 1), .lit (.int .i64 1000)], .agg [.lit (.int .i64 0), .lit (.int .i64 4194304)], .agg [.lit (.int .i64 0), .lit (.int .i64 1073741824)], .agg [.lit (.int .i64 0), .lit (.int .i64 63)]]

/-- 'crucibletop.WholeAgain': WHATEVER THE INPUT: true; the input reads as it did. -/
def wholeAgainSpec : ChangeSpec := { name := "wholeAgain", fn := fun _ => fun
  | [d1, d2, d3, d4] => { results := [.lit (.bool true)], args := [d1, d2, d3, d4] }
  | _ => none }
def wholeAgainRow : OpenClaim := { program := "ytheoifhidoofbaagreatdoor", sum := "8e26d19f11edce8fcf56c6ef48841d0443bddde108bb67f6fa37cd0f4943edfb", func := "crucible/crucibletop.WholeAgain", spec := "wholeAgain", inPlace := ["slices.overlaps[crucible/mvcc.Version]"], unfollowed := true, recurses := true, named := ["crucible/script.bounds"], plainKeys := false, apart := false, laid := [("crucible/script.bounds", laid_crucible_script_bounds)] }
def WholeAgainSaid : Prop := wholeAgainRow.holds Tryz.pinned (OpenSpec.ofChange wholeAgainSpec)

/-- ITS FALSE NEIGHBOUR: 'it returns false'. Refute it at one input. -/
def wholeAgainWrong : ChangeSpec := { name := "wholeAgain", fn := fun _ => fun
  | [d1, d2, d3, d4] => { results := [.lit (.bool false)], args := [d1, d2, d3, d4] }
  | _ => none }
def WholeAgainWrongFalsely : Prop := wholeAgainRow.holds Tryz.pinned (OpenSpec.ofChange wholeAgainWrong)

/- THE SECOND FORM. 'bulk': how many values and letters a reading holds, each counted each time it is reached (what is shared counts as often as it is met; a slice's spare places count too). A statement '..UptoSaid' is the law's where the arguments, and the package variables that the reading takes, are together of bulk at most 1048576: NARROWER than '..Said'. Prove '..Said' where nothing that the law and all that it calls make is longer than what came in: it says more and counts as full. Else prove '..UptoSaid'. A law counts once. -/
mutual
def uptoBulk {H : Type} : DataW H → Nat
  | .lit (.string bytes) => bytes.length + 1
  | .lit _ => 1
  | .nil => 1
  | .ptr d => uptoBulk d + 1
  | .slice elems spare => uptoBulkAll elems + uptoBulkAll spare + 1
  | .agg parts => uptoBulkAll parts + 1
  | .iface _ d => uptoBulk d + 1
  | .map entries => uptoBulkEntries entries + 1
  | .held _ => 1
def uptoBulkAll {H : Type} : List (DataW H) → Nat
  | [] => 0
  | d :: r => uptoBulk d + uptoBulkAll r
def uptoBulkEntries {H : Type} : List (Lit × DataW H) → Nat
  | [] => 0
  | x :: r => uptoBulkEntry x + uptoBulkEntries r
def uptoBulkEntry {H : Type} : Lit × DataW H → Nat
  | (.string bytes, d) => bytes.length + uptoBulk d + 1
  | (_, d) => uptoBulk d + 1
 end
def uptoSmall : (H : Type) → List (DataW H) → Bool := fun _ ds => decide (uptoBulkAll ds ≤ 1048576)
def OpenSpec.upto (s : _root_.Go.ChangeSpec) : _root_.Go.OpenSpec := { _root_.Go.OpenSpec.ofChange s with cond := some uptoSmall }

/-- 'crucibletop.WholeAgain', WHERE WHAT IT READS IS OF BULK AT MOST 1048576: true; the input reads as it did. -/
def wholeAgainUptoRow : OpenClaim := { program := "ytheoifhidoofbaagreatdoor", sum := "8e26d19f11edce8fcf56c6ef48841d0443bddde108bb67f6fa37cd0f4943edfb", func := "crucible/crucibletop.WholeAgain", spec := "wholeAgain", inPlace := ["slices.overlaps[crucible/mvcc.Version]"], unfollowed := true, recurses := true, named := ["crucible/script.bounds"], plainKeys := false, apart := false, laid := [("crucible/script.bounds", laid_crucible_script_bounds)], narrowed := true }
def WholeAgainUptoSaid : Prop := wholeAgainUptoRow.holds Tryz.pinned (OpenSpec.upto wholeAgainSpec)

end Rows
end Go.Proofs.YtheoifhidoofbaaGreatDoor
