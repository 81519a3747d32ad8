/-
  No cell of these rows narrows 'for every input' (looked for: loops, veiled, ifaces, maps, wideKeys, modest, calm, conditions, laid).
  DERIVED. THE GIVEN ROWS OF THIS SEAT. 12 by the template 'for every input the law returns true; each argument reads behind the call as it read before'; 0 by the template 'total and deterministic' (their statements: YtjnopbmanhialaaTotals.lean).
  GIVEN WITH THE SEED: the statements are not yours to turn. If you find one false, say at which input.
  Laid BY PROGRAM, IN A SANDBOX (cutbox-rows.mjs): the forced cells as the released guide's own fill.sh prints them over the translation b36b73a275e4996f… (all of the seat's roots in one cut). By AI agents, Wed Nov 11 2026. No macro, syntax, notation, axiom, sorry.
-/
import Derived.Test.YtjnopbmanhialaaChecked
import GoSem.Claim
import GoSem.ClaimJoined
import GoSem.ClaimMapViews
import Derived.JoinedTies
import Derived.KernelRfl
namespace Go.Proofs.Ytjnopbmanhialaa
/- THE CELL 'sum', in the pinned program and in every row, IS THE sha256 OF THE DUMP (.gsa) THAT YtjnopbmanhialaaProg.lean LOADS. Nothing in Lean hashes anything: it is a label: what it is worth is what the hold of that sum in a sandbox is worth. -/
noncomputable def Try.pinned : Pinned := { name := "ytjnopbmanhialaa", sum := "b36b73a275e4996fae567b702c1e19bf37fb2cf97e613a863bb1df12b3ffe359", checked := Try.checked }
namespace Rows
def none {H : Type} : Left H := { results := [], args := [] }

/-- 'cruciblelaw08.FlawsAll': WHATEVER THE INPUT: true; the input reads as it did. -/
def flawsAllSpec : ChangeSpec := { name := "flawsAll", fn := fun _ => fun
  | [d] => { results := [.lit (.bool true)], args := [d] }
  | _ => none }
def flawsAllRow : OpenClaim := { program := "ytjnopbmanhialaa", sum := "b36b73a275e4996fae567b702c1e19bf37fb2cf97e613a863bb1df12b3ffe359", func := "crucible/cruciblelaw08.FlawsAll", spec := "flawsAll", unfollowed := true, recurses := true, plainKeys := false, apart := false }
def FlawsAllSaid : Prop := flawsAllRow.holds Try.pinned (OpenSpec.ofChange flawsAllSpec)

/-- ITS FALSE NEIGHBOUR: 'it returns false'. Refute it at one input. -/
def flawsAllWrong : ChangeSpec := { name := "flawsAll", fn := fun _ => fun
  | [d] => { results := [.lit (.bool false)], args := [d] }
  | _ => none }
def FlawsAllWrongFalsely : Prop := flawsAllRow.holds Try.pinned (OpenSpec.ofChange flawsAllWrong)

/-- 'cruciblelaw08.FlawsRuns': WHATEVER THE INPUT: true; the input reads as it did. -/
def flawsRunsSpec : ChangeSpec := { name := "flawsRuns", fn := fun _ => fun
  | [d1, d2] => { results := [.lit (.bool true)], args := [d1, d2] }
  | _ => none }
def flawsRunsRow : OpenClaim := { program := "ytjnopbmanhialaa", sum := "b36b73a275e4996fae567b702c1e19bf37fb2cf97e613a863bb1df12b3ffe359", func := "crucible/cruciblelaw08.FlawsRuns", spec := "flawsRuns", unfollowed := true, recurses := true, plainKeys := false, apart := false }
def FlawsRunsSaid : Prop := flawsRunsRow.holds Try.pinned (OpenSpec.ofChange flawsRunsSpec)

/-- ITS FALSE NEIGHBOUR: 'it returns false'. Refute it at one input. -/
def flawsRunsWrong : ChangeSpec := { name := "flawsRuns", fn := fun _ => fun
  | [d1, d2] => { results := [.lit (.bool false)], args := [d1, d2] }
  | _ => none }
def FlawsRunsWrongFalsely : Prop := flawsRunsRow.holds Try.pinned (OpenSpec.ofChange flawsRunsWrong)

/-- 'cruciblelaw08.FlawsMore': WHATEVER THE INPUT: true; the input reads as it did. -/
def flawsMoreSpec : ChangeSpec := { name := "flawsMore", fn := fun _ => fun
  | [d1, d2] => { results := [.lit (.bool true)], args := [d1, d2] }
  | _ => none }
def flawsMoreRow : OpenClaim := { program := "ytjnopbmanhialaa", sum := "b36b73a275e4996fae567b702c1e19bf37fb2cf97e613a863bb1df12b3ffe359", func := "crucible/cruciblelaw08.FlawsMore", spec := "flawsMore", unfollowed := true, recurses := true, plainKeys := false, apart := false }
def FlawsMoreSaid : Prop := flawsMoreRow.holds Try.pinned (OpenSpec.ofChange flawsMoreSpec)

/-- ITS FALSE NEIGHBOUR: 'it returns false'. Refute it at one input. -/
def flawsMoreWrong : ChangeSpec := { name := "flawsMore", fn := fun _ => fun
  | [d1, d2] => { results := [.lit (.bool false)], args := [d1, d2] }
  | _ => none }
def FlawsMoreWrongFalsely : Prop := flawsMoreRow.holds Try.pinned (OpenSpec.ofChange flawsMoreWrong)

/-- 'cruciblelaw08.FlawsSelf': WHATEVER THE INPUT: true; the input reads as it did. -/
def flawsSelfSpec : ChangeSpec := { name := "flawsSelf", fn := fun _ => fun
  | [d1, d2, d3] => { results := [.lit (.bool true)], args := [d1, d2, d3] }
  | _ => none }
def flawsSelfRow : OpenClaim := { program := "ytjnopbmanhialaa", sum := "b36b73a275e4996fae567b702c1e19bf37fb2cf97e613a863bb1df12b3ffe359", func := "crucible/cruciblelaw08.FlawsSelf", spec := "flawsSelf", unfollowed := true, recurses := true, plainKeys := false, apart := false }
def FlawsSelfSaid : Prop := flawsSelfRow.holds Try.pinned (OpenSpec.ofChange flawsSelfSpec)

/-- ITS FALSE NEIGHBOUR: 'it returns false'. Refute it at one input. -/
def flawsSelfWrong : ChangeSpec := { name := "flawsSelf", fn := fun _ => fun
  | [d1, d2, d3] => { results := [.lit (.bool false)], args := [d1, d2, d3] }
  | _ => none }
def FlawsSelfWrongFalsely : Prop := flawsSelfRow.holds Try.pinned (OpenSpec.ofChange flawsSelfWrong)

/-- 'cruciblelaw08.FlawsSources': WHATEVER THE INPUT: true; the input reads as it did. -/
def flawsSourcesSpec : ChangeSpec := { name := "flawsSources", fn := fun _ => fun
  | [d1, d2, d3] => { results := [.lit (.bool true)], args := [d1, d2, d3] }
  | _ => none }
def flawsSourcesRow : OpenClaim := { program := "ytjnopbmanhialaa", sum := "b36b73a275e4996fae567b702c1e19bf37fb2cf97e613a863bb1df12b3ffe359", func := "crucible/cruciblelaw08.FlawsSources", spec := "flawsSources", unfollowed := true, recurses := true, plainKeys := false, apart := false }
def FlawsSourcesSaid : Prop := flawsSourcesRow.holds Try.pinned (OpenSpec.ofChange flawsSourcesSpec)

/-- ITS FALSE NEIGHBOUR: 'it returns false'. Refute it at one input. -/
def flawsSourcesWrong : ChangeSpec := { name := "flawsSources", fn := fun _ => fun
  | [d1, d2, d3] => { results := [.lit (.bool false)], args := [d1, d2, d3] }
  | _ => none }
def FlawsSourcesWrongFalsely : Prop := flawsSourcesRow.holds Try.pinned (OpenSpec.ofChange flawsSourcesWrong)

/-- 'cruciblelaw05.HistReads': WHATEVER THE INPUT: true; the input reads as it did. -/
def histReadsSpec : ChangeSpec := { name := "histReads", fn := fun _ => fun
  | [d] => { results := [.lit (.bool true)], args := [d] }
  | _ => none }
def histReadsRow : OpenClaim := { program := "ytjnopbmanhialaa", sum := "b36b73a275e4996fae567b702c1e19bf37fb2cf97e613a863bb1df12b3ffe359", func := "crucible/cruciblelaw05.HistReads", spec := "histReads", plainKeys := false, apart := false }
def HistReadsSaid : Prop := histReadsRow.holds Try.pinned (OpenSpec.ofChange histReadsSpec)

/-- ITS FALSE NEIGHBOUR: 'it returns false'. Refute it at one input. -/
def histReadsWrong : ChangeSpec := { name := "histReads", fn := fun _ => fun
  | [d] => { results := [.lit (.bool false)], args := [d] }
  | _ => none }
def HistReadsWrongFalsely : Prop := histReadsRow.holds Try.pinned (OpenSpec.ofChange histReadsWrong)

/-- 'cruciblelaw05.HistPrefix': WHATEVER THE INPUT: true; the input reads as it did. -/
def histPrefixSpec : ChangeSpec := { name := "histPrefix", fn := fun _ => fun
  | [d1, d2] => { results := [.lit (.bool true)], args := [d1, d2] }
  | _ => none }
def histPrefixRow : OpenClaim := { program := "ytjnopbmanhialaa", sum := "b36b73a275e4996fae567b702c1e19bf37fb2cf97e613a863bb1df12b3ffe359", func := "crucible/cruciblelaw05.HistPrefix", spec := "histPrefix", plainKeys := false, apart := false }
def HistPrefixSaid : Prop := histPrefixRow.holds Try.pinned (OpenSpec.ofChange histPrefixSpec)

/-- ITS FALSE NEIGHBOUR: 'it returns false'. Refute it at one input. -/
def histPrefixWrong : ChangeSpec := { name := "histPrefix", fn := fun _ => fun
  | [d1, d2] => { results := [.lit (.bool false)], args := [d1, d2] }
  | _ => none }
def HistPrefixWrongFalsely : Prop := histPrefixRow.holds Try.pinned (OpenSpec.ofChange histPrefixWrong)

/-- 'cruciblelaw05.HistNames': WHATEVER THE INPUT: true; the input reads as it did. -/
def histNamesSpec : ChangeSpec := { name := "histNames", fn := fun _ => fun
  | [d1, d2] => { results := [.lit (.bool true)], args := [d1, d2] }
  | _ => none }
def histNamesRow : OpenClaim := { program := "ytjnopbmanhialaa", sum := "b36b73a275e4996fae567b702c1e19bf37fb2cf97e613a863bb1df12b3ffe359", func := "crucible/cruciblelaw05.HistNames", spec := "histNames", plainKeys := false, apart := false }
def HistNamesSaid : Prop := histNamesRow.holds Try.pinned (OpenSpec.ofChange histNamesSpec)

/-- ITS FALSE NEIGHBOUR: 'it returns false'. Refute it at one input. -/
def histNamesWrong : ChangeSpec := { name := "histNames", fn := fun _ => fun
  | [d1, d2] => { results := [.lit (.bool false)], args := [d1, d2] }
  | _ => none }
def HistNamesWrongFalsely : Prop := histNamesRow.holds Try.pinned (OpenSpec.ofChange histNamesWrong)

/-- 'cruciblelaw05.HistOne': WHATEVER THE INPUT: true; the input reads as it did. -/
def histOneSpec : ChangeSpec := { name := "histOne", fn := fun _ => fun
  | [d1, d2] => { results := [.lit (.bool true)], args := [d1, d2] }
  | _ => none }
def histOneRow : OpenClaim := { program := "ytjnopbmanhialaa", sum := "b36b73a275e4996fae567b702c1e19bf37fb2cf97e613a863bb1df12b3ffe359", func := "crucible/cruciblelaw05.HistOne", spec := "histOne", plainKeys := false, apart := false }
def HistOneSaid : Prop := histOneRow.holds Try.pinned (OpenSpec.ofChange histOneSpec)

/-- ITS FALSE NEIGHBOUR: 'it returns false'. Refute it at one input. -/
def histOneWrong : ChangeSpec := { name := "histOne", fn := fun _ => fun
  | [d1, d2] => { results := [.lit (.bool false)], args := [d1, d2] }
  | _ => none }
def HistOneWrongFalsely : Prop := histOneRow.holds Try.pinned (OpenSpec.ofChange histOneWrong)

/-- 'cruciblelaw05.HistCounts': WHATEVER THE INPUT: true; the input reads as it did. -/
def histCountsSpec : ChangeSpec := { name := "histCounts", fn := fun _ => fun
  | [d] => { results := [.lit (.bool true)], args := [d] }
  | _ => none }
def histCountsRow : OpenClaim := { program := "ytjnopbmanhialaa", sum := "b36b73a275e4996fae567b702c1e19bf37fb2cf97e613a863bb1df12b3ffe359", func := "crucible/cruciblelaw05.HistCounts", spec := "histCounts", plainKeys := false, apart := false }
def HistCountsSaid : Prop := histCountsRow.holds Try.pinned (OpenSpec.ofChange histCountsSpec)

/-- ITS FALSE NEIGHBOUR: 'it returns false'. Refute it at one input. -/
def histCountsWrong : ChangeSpec := { name := "histCounts", fn := fun _ => fun
  | [d] => { results := [.lit (.bool false)], args := [d] }
  | _ => none }
def HistCountsWrongFalsely : Prop := histCountsRow.holds Try.pinned (OpenSpec.ofChange histCountsWrong)

/-- 'cruciblelaw05.HistParts': WHATEVER THE INPUT: true; the input reads as it did. -/
def histPartsSpec : ChangeSpec := { name := "histParts", fn := fun _ => fun
  | [d] => { results := [.lit (.bool true)], args := [d] }
  | _ => none }
def histPartsRow : OpenClaim := { program := "ytjnopbmanhialaa", sum := "b36b73a275e4996fae567b702c1e19bf37fb2cf97e613a863bb1df12b3ffe359", func := "crucible/cruciblelaw05.HistParts", spec := "histParts", unfollowed := true, recurses := true, plainKeys := false, apart := false }
def HistPartsSaid : Prop := histPartsRow.holds Try.pinned (OpenSpec.ofChange histPartsSpec)

/-- ITS FALSE NEIGHBOUR: 'it returns false'. Refute it at one input. -/
def histPartsWrong : ChangeSpec := { name := "histParts", fn := fun _ => fun
  | [d] => { results := [.lit (.bool false)], args := [d] }
  | _ => none }
def HistPartsWrongFalsely : Prop := histPartsRow.holds Try.pinned (OpenSpec.ofChange histPartsWrong)

/-- 'cruciblelaw05.HistEnds': WHATEVER THE INPUT: true; the input reads as it did. -/
def histEndsSpec : ChangeSpec := { name := "histEnds", fn := fun _ => fun
  | [d] => { results := [.lit (.bool true)], args := [d] }
  | _ => none }
def histEndsRow : OpenClaim := { program := "ytjnopbmanhialaa", sum := "b36b73a275e4996fae567b702c1e19bf37fb2cf97e613a863bb1df12b3ffe359", func := "crucible/cruciblelaw05.HistEnds", spec := "histEnds", unfollowed := true, recurses := true, plainKeys := false, apart := false }
def HistEndsSaid : Prop := histEndsRow.holds Try.pinned (OpenSpec.ofChange histEndsSpec)

/-- ITS FALSE NEIGHBOUR: 'it returns false'. Refute it at one input. -/
def histEndsWrong : ChangeSpec := { name := "histEnds", fn := fun _ => fun
  | [d] => { results := [.lit (.bool false)], args := [d] }
  | _ => none }
def HistEndsWrongFalsely : Prop := histEndsRow.holds Try.pinned (OpenSpec.ofChange histEndsWrong)

/- THE SECOND FORM. 'bulk': how many values and letters a reading holds, each counted each time it is reached (what is shared counts as often as it is met; a slice's spare places count too). A statement '..UptoSaid' is the law's where the arguments, and the package variables that the reading takes, are together of bulk at most 1048576: NARROWER than '..Said'. Prove '..Said' where nothing that the law and all that it calls make is longer than what came in: it says more and counts as full. Else prove '..UptoSaid'. A law counts once. -/
mutual
def uptoBulk {H : Type} : DataW H → Nat
  | .lit (.string bytes) => bytes.length + 1
  | .lit _ => 1
  | .nil => 1
  | .ptr d => uptoBulk d + 1
  | .slice elems spare => uptoBulkAll elems + uptoBulkAll spare + 1
  | .agg parts => uptoBulkAll parts + 1
  | .iface _ d => uptoBulk d + 1
  | .map entries => uptoBulkEntries entries + 1
  | .held _ => 1
def uptoBulkAll {H : Type} : List (DataW H) → Nat
  | [] => 0
  | d :: r => uptoBulk d + uptoBulkAll r
def uptoBulkEntries {H : Type} : List (Lit × DataW H) → Nat
  | [] => 0
  | x :: r => uptoBulkEntry x + uptoBulkEntries r
def uptoBulkEntry {H : Type} : Lit × DataW H → Nat
  | (.string bytes, d) => bytes.length + uptoBulk d + 1
  | (_, d) => uptoBulk d + 1
 end
def uptoSmall : (H : Type) → List (DataW H) → Bool := fun _ ds => decide (uptoBulkAll ds ≤ 1048576)
def OpenSpec.upto (s : _root_.Go.ChangeSpec) : _root_.Go.OpenSpec := { _root_.Go.OpenSpec.ofChange s with cond := some uptoSmall }

/-- 'cruciblelaw08.FlawsAll', WHERE WHAT IT READS IS OF BULK AT MOST 1048576: true; the input reads as it did. -/
def flawsAllUptoRow : OpenClaim := { program := "ytjnopbmanhialaa", sum := "b36b73a275e4996fae567b702c1e19bf37fb2cf97e613a863bb1df12b3ffe359", func := "crucible/cruciblelaw08.FlawsAll", spec := "flawsAll", unfollowed := true, recurses := true, plainKeys := false, apart := false, narrowed := true }
def FlawsAllUptoSaid : Prop := flawsAllUptoRow.holds Try.pinned (OpenSpec.upto flawsAllSpec)

/-- 'cruciblelaw08.FlawsRuns', WHERE WHAT IT READS IS OF BULK AT MOST 1048576: true; the input reads as it did. -/
def flawsRunsUptoRow : OpenClaim := { program := "ytjnopbmanhialaa", sum := "b36b73a275e4996fae567b702c1e19bf37fb2cf97e613a863bb1df12b3ffe359", func := "crucible/cruciblelaw08.FlawsRuns", spec := "flawsRuns", unfollowed := true, recurses := true, plainKeys := false, apart := false, narrowed := true }
def FlawsRunsUptoSaid : Prop := flawsRunsUptoRow.holds Try.pinned (OpenSpec.upto flawsRunsSpec)

/-- 'cruciblelaw08.FlawsMore', WHERE WHAT IT READS IS OF BULK AT MOST 1048576: true; the input reads as it did. -/
def flawsMoreUptoRow : OpenClaim := { program := "ytjnopbmanhialaa", sum := "b36b73a275e4996fae567b702c1e19bf37fb2cf97e613a863bb1df12b3ffe359", func := "crucible/cruciblelaw08.FlawsMore", spec := "flawsMore", unfollowed := true, recurses := true, plainKeys := false, apart := false, narrowed := true }
def FlawsMoreUptoSaid : Prop := flawsMoreUptoRow.holds Try.pinned (OpenSpec.upto flawsMoreSpec)

/-- 'cruciblelaw08.FlawsSelf', WHERE WHAT IT READS IS OF BULK AT MOST 1048576: true; the input reads as it did. -/
def flawsSelfUptoRow : OpenClaim := { program := "ytjnopbmanhialaa", sum := "b36b73a275e4996fae567b702c1e19bf37fb2cf97e613a863bb1df12b3ffe359", func := "crucible/cruciblelaw08.FlawsSelf", spec := "flawsSelf", unfollowed := true, recurses := true, plainKeys := false, apart := false, narrowed := true }
def FlawsSelfUptoSaid : Prop := flawsSelfUptoRow.holds Try.pinned (OpenSpec.upto flawsSelfSpec)

/-- 'cruciblelaw08.FlawsSources', WHERE WHAT IT READS IS OF BULK AT MOST 1048576: true; the input reads as it did. -/
def flawsSourcesUptoRow : OpenClaim := { program := "ytjnopbmanhialaa", sum := "b36b73a275e4996fae567b702c1e19bf37fb2cf97e613a863bb1df12b3ffe359", func := "crucible/cruciblelaw08.FlawsSources", spec := "flawsSources", unfollowed := true, recurses := true, plainKeys := false, apart := false, narrowed := true }
def FlawsSourcesUptoSaid : Prop := flawsSourcesUptoRow.holds Try.pinned (OpenSpec.upto flawsSourcesSpec)

/-- 'cruciblelaw05.HistReads', WHERE WHAT IT READS IS OF BULK AT MOST 1048576: true; the input reads as it did. -/
def histReadsUptoRow : OpenClaim := { program := "ytjnopbmanhialaa", sum := "b36b73a275e4996fae567b702c1e19bf37fb2cf97e613a863bb1df12b3ffe359", func := "crucible/cruciblelaw05.HistReads", spec := "histReads", plainKeys := false, apart := false, narrowed := true }
def HistReadsUptoSaid : Prop := histReadsUptoRow.holds Try.pinned (OpenSpec.upto histReadsSpec)

/-- 'cruciblelaw05.HistPrefix', WHERE WHAT IT READS IS OF BULK AT MOST 1048576: true; the input reads as it did. -/
def histPrefixUptoRow : OpenClaim := { program := "ytjnopbmanhialaa", sum := "b36b73a275e4996fae567b702c1e19bf37fb2cf97e613a863bb1df12b3ffe359", func := "crucible/cruciblelaw05.HistPrefix", spec := "histPrefix", plainKeys := false, apart := false, narrowed := true }
def HistPrefixUptoSaid : Prop := histPrefixUptoRow.holds Try.pinned (OpenSpec.upto histPrefixSpec)

/-- 'cruciblelaw05.HistNames', WHERE WHAT IT READS IS OF BULK AT MOST 1048576: true; the input reads as it did. -/
def histNamesUptoRow : OpenClaim := { program := "ytjnopbmanhialaa", sum := "b36b73a275e4996fae567b702c1e19bf37fb2cf97e613a863bb1df12b3ffe359", func := "crucible/cruciblelaw05.HistNames", spec := "histNames", plainKeys := false, apart := false, narrowed := true }
def HistNamesUptoSaid : Prop := histNamesUptoRow.holds Try.pinned (OpenSpec.upto histNamesSpec)

/-- 'cruciblelaw05.HistOne', WHERE WHAT IT READS IS OF BULK AT MOST 1048576: true; the input reads as it did. -/
def histOneUptoRow : OpenClaim := { program := "ytjnopbmanhialaa", sum := "b36b73a275e4996fae567b702c1e19bf37fb2cf97e613a863bb1df12b3ffe359", func := "crucible/cruciblelaw05.HistOne", spec := "histOne", plainKeys := false, apart := false, narrowed := true }
def HistOneUptoSaid : Prop := histOneUptoRow.holds Try.pinned (OpenSpec.upto histOneSpec)

/-- 'cruciblelaw05.HistCounts', WHERE WHAT IT READS IS OF BULK AT MOST 1048576: true; the input reads as it did. -/
def histCountsUptoRow : OpenClaim := { program := "ytjnopbmanhialaa", sum := "b36b73a275e4996fae567b702c1e19bf37fb2cf97e613a863bb1df12b3ffe359", func := "crucible/cruciblelaw05.HistCounts", spec := "histCounts", plainKeys := false, apart := false, narrowed := true }
def HistCountsUptoSaid : Prop := histCountsUptoRow.holds Try.pinned (OpenSpec.upto histCountsSpec)

/-- 'cruciblelaw05.HistParts', WHERE WHAT IT READS IS OF BULK AT MOST 1048576: true; the input reads as it did. -/
def histPartsUptoRow : OpenClaim := { program := "ytjnopbmanhialaa", sum := "b36b73a275e4996fae567b702c1e19bf37fb2cf97e613a863bb1df12b3ffe359", func := "crucible/cruciblelaw05.HistParts", spec := "histParts", unfollowed := true, recurses := true, plainKeys := false, apart := false, narrowed := true }
def HistPartsUptoSaid : Prop := histPartsUptoRow.holds Try.pinned (OpenSpec.upto histPartsSpec)

/-- 'cruciblelaw05.HistEnds', WHERE WHAT IT READS IS OF BULK AT MOST 1048576: true; the input reads as it did. -/
def histEndsUptoRow : OpenClaim := { program := "ytjnopbmanhialaa", sum := "b36b73a275e4996fae567b702c1e19bf37fb2cf97e613a863bb1df12b3ffe359", func := "crucible/cruciblelaw05.HistEnds", spec := "histEnds", unfollowed := true, recurses := true, plainKeys := false, apart := false, narrowed := true }
def HistEndsUptoSaid : Prop := histEndsUptoRow.holds Try.pinned (OpenSpec.upto histEndsSpec)

end Rows
end Go.Proofs.Ytjnopbmanhialaa
