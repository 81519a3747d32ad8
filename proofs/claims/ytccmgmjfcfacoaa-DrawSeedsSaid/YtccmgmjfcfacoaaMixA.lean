/-
  Walks: what the functions of the package mix and of its reference give back.
-/
import Derived.Test.YtccmgmjfcfacoaaEnt
namespace Go.Proofs.Ytccmgmjfcfacoaa
open Go.Cru

def two64 : Nat := 18446744073709551616
/-- The stirring of a number's bits. -/
def stir (x : Nat) : Nat :=
  let a := (x ^^^ x / 2 ^ 30) * 13787848793156543929 % 18446744073709551616
  let b := (a ^^^ a / 2 ^ 27) * 10723151780598845931 % 18446744073709551616
  b ^^^ b / 2 ^ 31
theorem div_lt {a m : Nat} (ha : a < 18446744073709551616) : a / m < 18446744073709551616 := Nat.lt_of_le_of_lt (Nat.div_le_self _ _) ha
theorem stir_lt (x : Nat) : stir x < 18446744073709551616 := by
  unfold stir
  exact xor_lt (Nat.mod_lt _ (by decide)) (div_lt (Nat.mod_lt _ (by decide)))
theorem stir_gives (x : Nat) (hx : x < 18446744073709551616) (w0 : World) : Gives Try.prog 14 [.int .u64 x] w0 [] fun v h => v = .int .u64 (stir x) ∧ h = [] := by
  refine gives_of Try.func14 rfl rfl rfl (Own.start w0) ?_
  refine TC_seq ?_
  refine TC_region ?_
  refine OL_sil rfl rfl rfl (Sil.assign (v := .int .u64 ((0 : Nat) : Int)) rfl rfl) ?_
  refine OL_nil ?_
  refine TC_seq ?_
  refine TC_region ?_
  refine OL_sil rfl rfl rfl (Sil.move rfl rfl) ?_
  refine OL_sil rfl rfl rfl (Sil.move rfl rfl) ?_
  refine OL_sil rfl rfl rfl (Sil.shr (m := 30) rfl rfl rfl (by decide)) ?_
  refine OL_sil rfl rfl rfl (Sil.xoru rfl rfl rfl hx (div_lt hx)) ?_
  refine OL_sil rfl rfl rfl (Sil.assign rfl rfl) ?_
  refine OL_nil ?_
  refine TC_seq ?_
  refine TC_region ?_
  refine OL_sil rfl rfl rfl (Sil.move rfl rfl) ?_
  refine OL_sil rfl rfl rfl (Sil.mulu (j := 13787848793156543929) rfl rfl rfl) ?_
  refine OL_sil rfl rfl rfl (Sil.assign rfl rfl) ?_
  refine OL_nil ?_
  refine TC_seq ?_
  refine TC_region ?_
  refine OL_sil rfl rfl rfl (Sil.move rfl rfl) ?_
  refine OL_sil rfl rfl rfl (Sil.move rfl rfl) ?_
  refine OL_sil rfl rfl rfl (Sil.shr (m := 27) rfl rfl rfl (by decide)) ?_
  refine OL_sil rfl rfl rfl (Sil.xoru rfl rfl rfl (Nat.mod_lt _ (by decide)) (div_lt (Nat.mod_lt _ (by decide)))) ?_
  refine OL_sil rfl rfl rfl (Sil.assign rfl rfl) ?_
  refine OL_nil ?_
  refine TC_seq ?_
  refine TC_region ?_
  refine OL_sil rfl rfl rfl (Sil.move rfl rfl) ?_
  refine OL_sil rfl rfl rfl (Sil.mulu (j := 10723151780598845931) rfl rfl rfl) ?_
  refine OL_sil rfl rfl rfl (Sil.assign rfl rfl) ?_
  refine OL_nil ?_
  refine TC_seq ?_
  refine TC_region ?_
  refine OL_sil rfl rfl rfl (Sil.move rfl rfl) ?_
  refine OL_sil rfl rfl rfl (Sil.move rfl rfl) ?_
  refine OL_sil rfl rfl rfl (Sil.shr (m := 31) rfl rfl rfl (by decide)) ?_
  refine OL_sil rfl rfl rfl (Sil.xoru rfl rfl rfl (Nat.mod_lt _ (by decide)) (div_lt (Nat.mod_lt _ (by decide)))) ?_
  refine OL_sil rfl rfl rfl (Sil.assign rfl rfl) ?_
  refine OL_nil ?_
  refine TC_ret ?_
  exact ret1 rfl rfl ⟨rfl, rfl⟩
end Go.Proofs.Ytccmgmjfcfacoaa
