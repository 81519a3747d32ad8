/-
  No cell of these rows narrows 'for every input' (looked for: loops, veiled, ifaces, maps, wideKeys, modest, calm, conditions, laid).
  DERIVED. THE GIVEN ROWS OF THIS SEAT. 11 by the template 'for every input the law returns true; each argument reads behind the call as it read before'; 0 by the template 'total and deterministic' (their statements: YtccmgmjfcfacoaaTotals.lean).
  GIVEN WITH THE SEED: the statements are not yours to turn. If you find one false, say at which input.
  Laid BY PROGRAM, IN A SANDBOX (cutbox-rows.mjs): the forced cells as the released guide's own fill.sh prints them over the translation bf2f9b6daef7a874… (all of the seat's roots in one cut). By AI agents, Wed Nov 11 2026. No macro, syntax, notation, axiom, sorry.
-/
import Derived.Test.YtccmgmjfcfacoaaChecked
import GoSem.Claim
import GoSem.ClaimJoined
import GoSem.ClaimMapViews
import Derived.JoinedTies
import Derived.KernelRfl
namespace Go.Proofs.Ytccmgmjfcfacoaa
/- THE CELL 'sum', in the pinned program and in every row, IS THE sha256 OF THE DUMP (.gsa) THAT YtccmgmjfcfacoaaProg.lean LOADS. Nothing in Lean hashes anything: it is a label: what it is worth is what the hold of that sum in a sandbox is worth. -/
noncomputable def Try.pinned : Pinned := { name := "ytccmgmjfcfacoaa", sum := "bf2f9b6daef7a8740b4c72b32b549a930ab9b083636b67379d13f4b14c08067c", checked := Try.checked }
namespace Rows
def none {H : Type} : Left H := { results := [], args := [] }

/-- 'cruciblelaw02.MixStirs': WHATEVER THE INPUT: true; the input reads as it did. -/
def mixStirsSpec : ChangeSpec := { name := "mixStirs", fn := fun _ => fun
  | [d] => { results := [.lit (.bool true)], args := [d] }
  | _ => none }
def mixStirsRow : OpenClaim := { program := "ytccmgmjfcfacoaa", sum := "bf2f9b6daef7a8740b4c72b32b549a930ab9b083636b67379d13f4b14c08067c", func := "crucible/cruciblelaw02.MixStirs", spec := "mixStirs", apart := false }
def MixStirsSaid : Prop := mixStirsRow.holds Try.pinned (OpenSpec.ofChange mixStirsSpec)

/-- ITS FALSE NEIGHBOUR: 'it returns false'. Refute it at one input. -/
def mixStirsWrong : ChangeSpec := { name := "mixStirs", fn := fun _ => fun
  | [d] => { results := [.lit (.bool false)], args := [d] }
  | _ => none }
def MixStirsWrongFalsely : Prop := mixStirsRow.holds Try.pinned (OpenSpec.ofChange mixStirsWrong)

/-- 'cruciblelaw02.MixUnlike': WHATEVER THE INPUT: true; the input reads as it did. -/
def mixUnlikeSpec : ChangeSpec := { name := "mixUnlike", fn := fun _ => fun
  | [d1, d2] => { results := [.lit (.bool true)], args := [d1, d2] }
  | _ => none }
def mixUnlikeRow : OpenClaim := { program := "ytccmgmjfcfacoaa", sum := "bf2f9b6daef7a8740b4c72b32b549a930ab9b083636b67379d13f4b14c08067c", func := "crucible/cruciblelaw02.MixUnlike", spec := "mixUnlike", apart := false }
def MixUnlikeSaid : Prop := mixUnlikeRow.holds Try.pinned (OpenSpec.ofChange mixUnlikeSpec)

/-- ITS FALSE NEIGHBOUR: 'it returns false'. Refute it at one input. -/
def mixUnlikeWrong : ChangeSpec := { name := "mixUnlike", fn := fun _ => fun
  | [d1, d2] => { results := [.lit (.bool false)], args := [d1, d2] }
  | _ => none }
def MixUnlikeWrongFalsely : Prop := mixUnlikeRow.holds Try.pinned (OpenSpec.ofChange mixUnlikeWrong)

/-- 'cruciblelaw02.MixDraws': WHATEVER THE INPUT: true; the input reads as it did. -/
def mixDrawsSpec : ChangeSpec := { name := "mixDraws", fn := fun _ => fun
  | [d1, d2] => { results := [.lit (.bool true)], args := [d1, d2] }
  | _ => none }
def mixDrawsRow : OpenClaim := { program := "ytccmgmjfcfacoaa", sum := "bf2f9b6daef7a8740b4c72b32b549a930ab9b083636b67379d13f4b14c08067c", func := "crucible/cruciblelaw02.MixDraws", spec := "mixDraws", apart := false }
def MixDrawsSaid : Prop := mixDrawsRow.holds Try.pinned (OpenSpec.ofChange mixDrawsSpec)

/-- ITS FALSE NEIGHBOUR: 'it returns false'. Refute it at one input. -/
def mixDrawsWrong : ChangeSpec := { name := "mixDraws", fn := fun _ => fun
  | [d1, d2] => { results := [.lit (.bool false)], args := [d1, d2] }
  | _ => none }
def MixDrawsWrongFalsely : Prop := mixDrawsRow.holds Try.pinned (OpenSpec.ofChange mixDrawsWrong)

/-- 'cruciblelaw02.MixBounds': WHATEVER THE INPUT: true; the input reads as it did. -/
def mixBoundsSpec : ChangeSpec := { name := "mixBounds", fn := fun _ => fun
  | [d1, d2] => { results := [.lit (.bool true)], args := [d1, d2] }
  | _ => none }
def mixBoundsRow : OpenClaim := { program := "ytccmgmjfcfacoaa", sum := "bf2f9b6daef7a8740b4c72b32b549a930ab9b083636b67379d13f4b14c08067c", func := "crucible/cruciblelaw02.MixBounds", spec := "mixBounds", apart := false }
def MixBoundsSaid : Prop := mixBoundsRow.holds Try.pinned (OpenSpec.ofChange mixBoundsSpec)

/-- ITS FALSE NEIGHBOUR: 'it returns false'. Refute it at one input. -/
def mixBoundsWrong : ChangeSpec := { name := "mixBounds", fn := fun _ => fun
  | [d1, d2] => { results := [.lit (.bool false)], args := [d1, d2] }
  | _ => none }
def MixBoundsWrongFalsely : Prop := mixBoundsRow.holds Try.pinned (OpenSpec.ofChange mixBoundsWrong)

/-- 'cruciblelaw02.MixShuffles': WHATEVER THE INPUT: true; the input reads as it did. -/
def mixShufflesSpec : ChangeSpec := { name := "mixShuffles", fn := fun _ => fun
  | [d1, d2] => { results := [.lit (.bool true)], args := [d1, d2] }
  | _ => none }
def mixShufflesRow : OpenClaim := { program := "ytccmgmjfcfacoaa", sum := "bf2f9b6daef7a8740b4c72b32b549a930ab9b083636b67379d13f4b14c08067c", func := "crucible/cruciblelaw02.MixShuffles", spec := "mixShuffles", apart := false }
def MixShufflesSaid : Prop := mixShufflesRow.holds Try.pinned (OpenSpec.ofChange mixShufflesSpec)

/-- ITS FALSE NEIGHBOUR: 'it returns false'. Refute it at one input. -/
def mixShufflesWrong : ChangeSpec := { name := "mixShuffles", fn := fun _ => fun
  | [d1, d2] => { results := [.lit (.bool false)], args := [d1, d2] }
  | _ => none }
def MixShufflesWrongFalsely : Prop := mixShufflesRow.holds Try.pinned (OpenSpec.ofChange mixShufflesWrong)

/-- 'cruciblelaw02.MixWeighs': WHATEVER THE INPUT: true; the input reads as it did. -/
def mixWeighsSpec : ChangeSpec := { name := "mixWeighs", fn := fun _ => fun
  | [d1, d2] => { results := [.lit (.bool true)], args := [d1, d2] }
  | _ => none }
def mixWeighsRow : OpenClaim := { program := "ytccmgmjfcfacoaa", sum := "bf2f9b6daef7a8740b4c72b32b549a930ab9b083636b67379d13f4b14c08067c", func := "crucible/cruciblelaw02.MixWeighs", spec := "mixWeighs", apart := false }
def MixWeighsSaid : Prop := mixWeighsRow.holds Try.pinned (OpenSpec.ofChange mixWeighsSpec)

/-- ITS FALSE NEIGHBOUR: 'it returns false'. Refute it at one input. -/
def mixWeighsWrong : ChangeSpec := { name := "mixWeighs", fn := fun _ => fun
  | [d1, d2] => { results := [.lit (.bool false)], args := [d1, d2] }
  | _ => none }
def MixWeighsWrongFalsely : Prop := mixWeighsRow.holds Try.pinned (OpenSpec.ofChange mixWeighsWrong)

/-- 'cruciblelaw13.DrawPlans': WHATEVER THE INPUT: true; the input reads as it did. -/
def drawPlansSpec : ChangeSpec := { name := "drawPlans", fn := fun _ => fun
  | [d1, d2, d3] => { results := [.lit (.bool true)], args := [d1, d2, d3] }
  | _ => none }
def drawPlansRow : OpenClaim := { program := "ytccmgmjfcfacoaa", sum := "bf2f9b6daef7a8740b4c72b32b549a930ab9b083636b67379d13f4b14c08067c", func := "crucible/cruciblelaw13.DrawPlans", spec := "drawPlans", apart := false }
def DrawPlansSaid : Prop := drawPlansRow.holds Try.pinned (OpenSpec.ofChange drawPlansSpec)

/-- ITS FALSE NEIGHBOUR: 'it returns false'. Refute it at one input. -/
def drawPlansWrong : ChangeSpec := { name := "drawPlans", fn := fun _ => fun
  | [d1, d2, d3] => { results := [.lit (.bool false)], args := [d1, d2, d3] }
  | _ => none }
def DrawPlansWrongFalsely : Prop := drawPlansRow.holds Try.pinned (OpenSpec.ofChange drawPlansWrong)

/-- 'cruciblelaw13.DrawNexts': WHATEVER THE INPUT: true; the input reads as it did. -/
def drawNextsSpec : ChangeSpec := { name := "drawNexts", fn := fun _ => fun
  | [d1, d2, d3, d4] => { results := [.lit (.bool true)], args := [d1, d2, d3, d4] }
  | _ => none }
def drawNextsRow : OpenClaim := { program := "ytccmgmjfcfacoaa", sum := "bf2f9b6daef7a8740b4c72b32b549a930ab9b083636b67379d13f4b14c08067c", func := "crucible/cruciblelaw13.DrawNexts", spec := "drawNexts", apart := false }
def DrawNextsSaid : Prop := drawNextsRow.holds Try.pinned (OpenSpec.ofChange drawNextsSpec)

/-- ITS FALSE NEIGHBOUR: 'it returns false'. Refute it at one input. -/
def drawNextsWrong : ChangeSpec := { name := "drawNexts", fn := fun _ => fun
  | [d1, d2, d3, d4] => { results := [.lit (.bool false)], args := [d1, d2, d3, d4] }
  | _ => none }
def DrawNextsWrongFalsely : Prop := drawNextsRow.holds Try.pinned (OpenSpec.ofChange drawNextsWrong)

/-- 'cruciblelaw13.DrawFits': WHATEVER THE INPUT: true; the input reads as it did. -/
def drawFitsSpec : ChangeSpec := { name := "drawFits", fn := fun _ => fun
  | [d1, d2, d3] => { results := [.lit (.bool true)], args := [d1, d2, d3] }
  | _ => none }
def drawFitsRow : OpenClaim := { program := "ytccmgmjfcfacoaa", sum := "bf2f9b6daef7a8740b4c72b32b549a930ab9b083636b67379d13f4b14c08067c", func := "crucible/cruciblelaw13.DrawFits", spec := "drawFits", apart := false }
def DrawFitsSaid : Prop := drawFitsRow.holds Try.pinned (OpenSpec.ofChange drawFitsSpec)

/-- ITS FALSE NEIGHBOUR: 'it returns false'. Refute it at one input. -/
def drawFitsWrong : ChangeSpec := { name := "drawFits", fn := fun _ => fun
  | [d1, d2, d3] => { results := [.lit (.bool false)], args := [d1, d2, d3] }
  | _ => none }
def DrawFitsWrongFalsely : Prop := drawFitsRow.holds Try.pinned (OpenSpec.ofChange drawFitsWrong)

/-- 'cruciblelaw13.DrawSeeds': WHATEVER THE INPUT: true; the input reads as it did. -/
def drawSeedsSpec : ChangeSpec := { name := "drawSeeds", fn := fun _ => fun
  | [d1, d2, d3, d4] => { results := [.lit (.bool true)], args := [d1, d2, d3, d4] }
  | _ => none }
def drawSeedsRow : OpenClaim := { program := "ytccmgmjfcfacoaa", sum := "bf2f9b6daef7a8740b4c72b32b549a930ab9b083636b67379d13f4b14c08067c", func := "crucible/cruciblelaw13.DrawSeeds", spec := "drawSeeds", apart := false }
def DrawSeedsSaid : Prop := drawSeedsRow.holds Try.pinned (OpenSpec.ofChange drawSeedsSpec)

/-- ITS FALSE NEIGHBOUR: 'it returns false'. Refute it at one input. -/
def drawSeedsWrong : ChangeSpec := { name := "drawSeeds", fn := fun _ => fun
  | [d1, d2, d3, d4] => { results := [.lit (.bool false)], args := [d1, d2, d3, d4] }
  | _ => none }
def DrawSeedsWrongFalsely : Prop := drawSeedsRow.holds Try.pinned (OpenSpec.ofChange drawSeedsWrong)

/-- 'cruciblelaw13.DrawWho': WHATEVER THE INPUT: true; the input reads as it did. -/
def drawWhoSpec : ChangeSpec := { name := "drawWho", fn := fun _ => fun
  | [d1, d2] => { results := [.lit (.bool true)], args := [d1, d2] }
  | _ => none }
def drawWhoRow : OpenClaim := { program := "ytccmgmjfcfacoaa", sum := "bf2f9b6daef7a8740b4c72b32b549a930ab9b083636b67379d13f4b14c08067c", func := "crucible/cruciblelaw13.DrawWho", spec := "drawWho", apart := false }
def DrawWhoSaid : Prop := drawWhoRow.holds Try.pinned (OpenSpec.ofChange drawWhoSpec)

/-- ITS FALSE NEIGHBOUR: 'it returns false'. Refute it at one input. -/
def drawWhoWrong : ChangeSpec := { name := "drawWho", fn := fun _ => fun
  | [d1, d2] => { results := [.lit (.bool false)], args := [d1, d2] }
  | _ => none }
def DrawWhoWrongFalsely : Prop := drawWhoRow.holds Try.pinned (OpenSpec.ofChange drawWhoWrong)

/- THE SECOND FORM. 'bulk': how many values and letters a reading holds, each counted each time it is reached (what is shared counts as often as it is met; a slice's spare places count too). A statement '..UptoSaid' is the law's where the arguments, and the package variables that the reading takes, are together of bulk at most 1048576: NARROWER than '..Said'. Prove '..Said' where nothing that the law and all that it calls make is longer than what came in: it says more and counts as full. Else prove '..UptoSaid'. A law counts once. -/
mutual
def uptoBulk {H : Type} : DataW H → Nat
  | .lit (.string bytes) => bytes.length + 1
  | .lit _ => 1
  | .nil => 1
  | .ptr d => uptoBulk d + 1
  | .slice elems spare => uptoBulkAll elems + uptoBulkAll spare + 1
  | .agg parts => uptoBulkAll parts + 1
  | .iface _ d => uptoBulk d + 1
  | .map entries => uptoBulkEntries entries + 1
  | .held _ => 1
def uptoBulkAll {H : Type} : List (DataW H) → Nat
  | [] => 0
  | d :: r => uptoBulk d + uptoBulkAll r
def uptoBulkEntries {H : Type} : List (Lit × DataW H) → Nat
  | [] => 0
  | x :: r => uptoBulkEntry x + uptoBulkEntries r
def uptoBulkEntry {H : Type} : Lit × DataW H → Nat
  | (.string bytes, d) => bytes.length + uptoBulk d + 1
  | (_, d) => uptoBulk d + 1
 end
def uptoSmall : (H : Type) → List (DataW H) → Bool := fun _ ds => decide (uptoBulkAll ds ≤ 1048576)
def OpenSpec.upto (s : _root_.Go.ChangeSpec) : _root_.Go.OpenSpec := { _root_.Go.OpenSpec.ofChange s with cond := some uptoSmall }

/-- 'cruciblelaw02.MixStirs', WHERE WHAT IT READS IS OF BULK AT MOST 1048576: true; the input reads as it did. -/
def mixStirsUptoRow : OpenClaim := { program := "ytccmgmjfcfacoaa", sum := "bf2f9b6daef7a8740b4c72b32b549a930ab9b083636b67379d13f4b14c08067c", func := "crucible/cruciblelaw02.MixStirs", spec := "mixStirs", apart := false, narrowed := true }
def MixStirsUptoSaid : Prop := mixStirsUptoRow.holds Try.pinned (OpenSpec.upto mixStirsSpec)

/-- 'cruciblelaw02.MixUnlike', WHERE WHAT IT READS IS OF BULK AT MOST 1048576: true; the input reads as it did. -/
def mixUnlikeUptoRow : OpenClaim := { program := "ytccmgmjfcfacoaa", sum := "bf2f9b6daef7a8740b4c72b32b549a930ab9b083636b67379d13f4b14c08067c", func := "crucible/cruciblelaw02.MixUnlike", spec := "mixUnlike", apart := false, narrowed := true }
def MixUnlikeUptoSaid : Prop := mixUnlikeUptoRow.holds Try.pinned (OpenSpec.upto mixUnlikeSpec)

/-- 'cruciblelaw02.MixDraws', WHERE WHAT IT READS IS OF BULK AT MOST 1048576: true; the input reads as it did. -/
def mixDrawsUptoRow : OpenClaim := { program := "ytccmgmjfcfacoaa", sum := "bf2f9b6daef7a8740b4c72b32b549a930ab9b083636b67379d13f4b14c08067c", func := "crucible/cruciblelaw02.MixDraws", spec := "mixDraws", apart := false, narrowed := true }
def MixDrawsUptoSaid : Prop := mixDrawsUptoRow.holds Try.pinned (OpenSpec.upto mixDrawsSpec)

/-- 'cruciblelaw02.MixBounds', WHERE WHAT IT READS IS OF BULK AT MOST 1048576: true; the input reads as it did. -/
def mixBoundsUptoRow : OpenClaim := { program := "ytccmgmjfcfacoaa", sum := "bf2f9b6daef7a8740b4c72b32b549a930ab9b083636b67379d13f4b14c08067c", func := "crucible/cruciblelaw02.MixBounds", spec := "mixBounds", apart := false, narrowed := true }
def MixBoundsUptoSaid : Prop := mixBoundsUptoRow.holds Try.pinned (OpenSpec.upto mixBoundsSpec)

/-- 'cruciblelaw02.MixShuffles', WHERE WHAT IT READS IS OF BULK AT MOST 1048576: true; the input reads as it did. -/
def mixShufflesUptoRow : OpenClaim := { program := "ytccmgmjfcfacoaa", sum := "bf2f9b6daef7a8740b4c72b32b549a930ab9b083636b67379d13f4b14c08067c", func := "crucible/cruciblelaw02.MixShuffles", spec := "mixShuffles", apart := false, narrowed := true }
def MixShufflesUptoSaid : Prop := mixShufflesUptoRow.holds Try.pinned (OpenSpec.upto mixShufflesSpec)

/-- 'cruciblelaw02.MixWeighs', WHERE WHAT IT READS IS OF BULK AT MOST 1048576: true; the input reads as it did. -/
def mixWeighsUptoRow : OpenClaim := { program := "ytccmgmjfcfacoaa", sum := "bf2f9b6daef7a8740b4c72b32b549a930ab9b083636b67379d13f4b14c08067c", func := "crucible/cruciblelaw02.MixWeighs", spec := "mixWeighs", apart := false, narrowed := true }
def MixWeighsUptoSaid : Prop := mixWeighsUptoRow.holds Try.pinned (OpenSpec.upto mixWeighsSpec)

/-- 'cruciblelaw13.DrawPlans', WHERE WHAT IT READS IS OF BULK AT MOST 1048576: true; the input reads as it did. -/
def drawPlansUptoRow : OpenClaim := { program := "ytccmgmjfcfacoaa", sum := "bf2f9b6daef7a8740b4c72b32b549a930ab9b083636b67379d13f4b14c08067c", func := "crucible/cruciblelaw13.DrawPlans", spec := "drawPlans", apart := false, narrowed := true }
def DrawPlansUptoSaid : Prop := drawPlansUptoRow.holds Try.pinned (OpenSpec.upto drawPlansSpec)

/-- 'cruciblelaw13.DrawNexts', WHERE WHAT IT READS IS OF BULK AT MOST 1048576: true; the input reads as it did. -/
def drawNextsUptoRow : OpenClaim := { program := "ytccmgmjfcfacoaa", sum := "bf2f9b6daef7a8740b4c72b32b549a930ab9b083636b67379d13f4b14c08067c", func := "crucible/cruciblelaw13.DrawNexts", spec := "drawNexts", apart := false, narrowed := true }
def DrawNextsUptoSaid : Prop := drawNextsUptoRow.holds Try.pinned (OpenSpec.upto drawNextsSpec)

/-- 'cruciblelaw13.DrawFits', WHERE WHAT IT READS IS OF BULK AT MOST 1048576: true; the input reads as it did. -/
def drawFitsUptoRow : OpenClaim := { program := "ytccmgmjfcfacoaa", sum := "bf2f9b6daef7a8740b4c72b32b549a930ab9b083636b67379d13f4b14c08067c", func := "crucible/cruciblelaw13.DrawFits", spec := "drawFits", apart := false, narrowed := true }
def DrawFitsUptoSaid : Prop := drawFitsUptoRow.holds Try.pinned (OpenSpec.upto drawFitsSpec)

/-- 'cruciblelaw13.DrawSeeds', WHERE WHAT IT READS IS OF BULK AT MOST 1048576: true; the input reads as it did. -/
def drawSeedsUptoRow : OpenClaim := { program := "ytccmgmjfcfacoaa", sum := "bf2f9b6daef7a8740b4c72b32b549a930ab9b083636b67379d13f4b14c08067c", func := "crucible/cruciblelaw13.DrawSeeds", spec := "drawSeeds", apart := false, narrowed := true }
def DrawSeedsUptoSaid : Prop := drawSeedsUptoRow.holds Try.pinned (OpenSpec.upto drawSeedsSpec)

/-- 'cruciblelaw13.DrawWho', WHERE WHAT IT READS IS OF BULK AT MOST 1048576: true; the input reads as it did. -/
def drawWhoUptoRow : OpenClaim := { program := "ytccmgmjfcfacoaa", sum := "bf2f9b6daef7a8740b4c72b32b549a930ab9b083636b67379d13f4b14c08067c", func := "crucible/cruciblelaw13.DrawWho", spec := "drawWho", apart := false, narrowed := true }
def DrawWhoUptoSaid : Prop := drawWhoUptoRow.holds Try.pinned (OpenSpec.upto drawWhoSpec)

end Rows
end Go.Proofs.Ytccmgmjfcfacoaa
