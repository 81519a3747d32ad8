/-
  Walks over crucibleref02: numbers of 64 bits as four of 16.
-/
import Derived.Test.YtccmgmjfcfacoaaEnt
import Derived.Test.YtccmgmjfcfacoaaMixNum
import Derived.Test.YtccmgmjfcfacoaaMixA
namespace Go.Proofs.Ytccmgmjfcfacoaa
open Go.Cru

def cells4 (f : Nat → Nat) : Array Value := #[.int .u64 (f 0), .int .u64 (f 1), .int .u64 (f 2), .int .u64 (f 3)]
def cells8 (f : Nat → Nat) : Array Value := #[.int .u64 (f 0), .int .u64 (f 1), .int .u64 (f 2), .int .u64 (f 3), .int .u64 (f 4), .int .u64 (f 5), .int .u64 (f 6), .int .u64 (f 7)]
theorem cells4_at (f : Nat → Nat) (j : Nat) (hj : j < 4) : (cells4 f)[j]? = some (.int .u64 (f j)) := by
  match j, hj with
  | 0, _ | 1, _ | 2, _ | 3, _ => rfl
theorem cells8_at (f : Nat → Nat) (j : Nat) (hj : j < 8) : (cells8 f)[j]? = some (.int .u64 (f j)) := by
  match j, hj with
  | 0, _ | 1, _ | 2, _ | 3, _ | 4, _ | 5, _ | 6, _ | 7, _ => rfl
theorem cells4_put (f : Nat → Nat) (j x : Nat) (hj : j < 4) : putCells (cells4 f) j [.int .u64 x] = cells4 (upd f j x) := by
  match j, hj with
  | 0, _ | 1, _ | 2, _ | 3, _ => rfl
theorem cells8_put (f : Nat → Nat) (j x : Nat) (hj : j < 8) : putCells (cells8 f) j [.int .u64 x] = cells8 (upd f j x) := by
  match j, hj with
  | 0, _ | 1, _ | 2, _ | 3, _ | 4, _ | 5, _ | 6, _ | 7, _ => rfl
theorem put4 (f g : Nat → Nat) : putCells (cells4 f) 0 (Value.agg (cells4 g)).cells.toList = cells4 g := putCells_all (cells4 f) (cells4 g) (show 4 = 4 from rfl)
theorem put8 (f g : Nat → Nat) : putCells (cells8 f) 0 (Value.agg (cells8 g)).cells.toList = cells8 g := putCells_all (cells8 f) (cells8 g) (show 8 = 8 from rfl)
theorem oneC_int (k : IntKind) (x : Int) : ∀ u ∈ (Value.int k x).cells.toList, oneC u = true := by
  intro u hu
  simp [Value.cells] at hu
  subst hu
  rfl
theorem oneC_cells4 (f : Nat → Nat) : ∀ u ∈ (Value.agg (cells4 f)).cells.toList, oneC u = true := by
  intro u hu
  simp [Value.cells, cells4] at hu
  rcases hu with rfl | rfl | rfl | rfl <;> rfl
theorem oneC_cells8 (f : Nat → Nat) : ∀ u ∈ (Value.agg (cells8 f)).cells.toList, oneC u = true := by
  intro u hu
  simp [Value.cells, cells8] at hu
  rcases hu with rfl | rfl | rfl | rfl | rfl | rfl | rfl | rfl <;> rfl

theorem over_gives (x n : Nat) (hx : x < 18446744073709551616) (hn : n ≤ 64) (w0 : World) : Gives Try.prog 33 [.int .u64 x, .int .i64 n] w0 [] fun v h => v = .int .u64 ((x ^^^ x / 2 ^ n : Nat) : Int) ∧ h = [] := by
  refine gives_of Try.func33 rfl rfl rfl (Own.start w0) ?_
  refine TC_seq ?_
  refine TC_region ?_
  refine OL_sil rfl rfl rfl (Sil.assign (v := .int .u64 ((0 : Nat) : Int)) rfl rfl) ?_
  refine OL_nil ?_
  refine TC_seq ?_
  refine TC_region ?_
  refine OL_sil rfl rfl rfl (Sil.move rfl rfl) ?_
  refine OL_sil rfl rfl rfl (Sil.assign rfl rfl) ?_
  refine OL_nil ?_
  refine TC_seq ?_
  refine TC_seq ?_
  refine TC_region ?_
  refine OL_sil rfl rfl rfl (Sil.assign rfl rfl) ?_
  refine OL_nil ?_
  refine TC_block ?_
  refine TC_loop (fun i : Nat => [(0, .int .u64 x), (1, .int .i64 n), (5, .int .u64 ((x / 2 ^ i : Nat) : Int)), (6, .int .i64 i)]) (fun _ => []) (fun i => i ≤ n) (fun i => n - i) 0 ⟨Nat.zero_le _, ⟨rfl, rfl, by rw [Nat.pow_zero, Nat.div_one]; rfl, rfl, trivial⟩, List.Sublist.refl _⟩ ?_
  · intro i hi
    refine TC_seq ?_
    refine TC_seq ?_
    refine TC_region ?_
    refine OL_sil rfl rfl rfl (Sil.move rfl rfl) ?_
    refine OL_sil rfl rfl rfl (Sil.move rfl rfl) ?_
    refine OL_sil rfl rfl rfl (Sil.lss rfl rfl rfl) ?_
    refine OL_nil ?_
    refine TC_if rfl (fun ht13 => ?_) (fun ht13 => ?_)
    · refine TC_skip ?_
      refine TC_seq ?_
      refine TC_block ?_
      refine TC_region ?_
      refine OL_sil rfl rfl rfl (Sil.move rfl rfl) ?_
      refine OL_sil rfl rfl rfl (Sil.quou (j := 2) rfl rfl rfl (by decide) (div_lt hx)) ?_
      refine OL_sil rfl rfl rfl (Sil.assign rfl rfl) ?_
      refine OL_nil ?_
      refine TC_region ?_
      refine OL_sil rfl rfl rfl (Sil.move rfl rfl) ?_
      refine OL_sil rfl rfl rfl (Sil.add rfl rfl rfl (by omega) (by omega)) ?_
      refine OL_sil rfl rfl rfl (Sil.assign rfl rfl) ?_
      refine OL_nil ?_
      exact ⟨i + 1, ⟨by omega, ⟨rfl, rfl, by rw [Nat.pow_succ, ← Nat.div_div_eq_div_mul]; rfl, rfl, trivial⟩, List.Sublist.refl _⟩, by omega⟩
    · obtain rfl : n = i := by omega
      refine TC_exit ?_
      refine TC_seq ?_
      refine TC_region ?_
      refine OL_sil rfl rfl rfl (Sil.assign (v := .int .u64 ((0 : Nat) : Int)) rfl rfl) ?_
      refine OL_nil ?_
      refine TC_seq ?_
      refine TC_region ?_
      refine OL_sil rfl rfl rfl (Sil.assign (v := .int .u64 ((1 : Nat) : Int)) rfl rfl) ?_
      refine OL_nil ?_
      refine TC_seq ?_
      refine TC_seq ?_
      refine TC_region ?_
      refine OL_sil rfl rfl rfl (Sil.assign rfl rfl) ?_
      refine OL_nil ?_
      refine TC_block ?_
      refine TC_loop (fun ((i, out) : Nat × Nat) => [(0, .int .u64 ((x / 2 ^ i : Nat) : Int)), (5, .int .u64 ((x / 2 ^ n / 2 ^ i : Nat) : Int)), (7, .int .u64 out), (8, .int .u64 ((2 ^ i % 18446744073709551616 : Nat) : Int)), (9, .int .i64 i)]) (fun _ => []) (fun (i, out) => i ≤ 64 ∧ out + 2 ^ i * (x / 2 ^ i ^^^ x / 2 ^ n / 2 ^ i) = x ^^^ x / 2 ^ n) (fun (i, _) => 64 - i) (0, 0) ?_ ?_
      · exact ⟨⟨Nat.zero_le _, by simp⟩, ⟨by simp only [Nat.pow_zero, Nat.div_one]; rfl, by simp only [Nat.pow_zero, Nat.div_one]; rfl, rfl, rfl, rfl, trivial⟩, List.Sublist.refl _⟩
      · rintro ⟨i, out⟩ ⟨hi, hinv⟩
        have hstep := xor_step (x / 2 ^ i) (x / 2 ^ n / 2 ^ i)
        have htot := xor_lt hx (div_lt (m := 2 ^ n) hx)
        refine TC_seq ?_
        refine TC_seq ?_
        refine TC_region ?_
        refine OL_sil rfl rfl rfl (Sil.move rfl rfl) ?_
        refine OL_sil rfl rfl rfl (Sil.lss rfl rfl rfl) ?_
        refine OL_nil ?_
        refine TC_if rfl (fun ht19 => ?_) (fun ht19 => ?_)
        · have hpow : 2 ^ i % 18446744073709551616 = 2 ^ i := Nat.mod_eq_of_lt (by have := Nat.pow_lt_pow_right (a := 2) (by decide) (show i < 64 by omega); simpa using this)
          refine TC_skip ?_
          refine TC_seq ?_
          refine TC_block ?_
          refine TC_seq ?_
          refine TC_seq ?_
          refine TC_region ?_
          refine OL_sil rfl rfl rfl (Sil.move rfl rfl) ?_
          refine OL_sil rfl rfl rfl (Sil.remu (j := 2) rfl rfl rfl (by decide)) ?_
          refine OL_sil rfl rfl rfl (Sil.move rfl rfl) ?_
          refine OL_sil rfl rfl rfl (Sil.remu (j := 2) rfl rfl rfl (by decide)) ?_
          refine OL_sil rfl rfl rfl (Sil.neq rfl rfl rfl) ?_
          refine OL_nil ?_
          refine TC_ifn rfl (fun ht26 => ?_) (fun ht26 => ?_)
          · rw [if_neg (fun e => ht26 (by rw [e]))] at hstep
            rw [hstep, Nat.mul_add, Nat.mul_one] at hinv
            refine TC_region ?_
            refine OL_sil rfl rfl rfl (Sil.move rfl rfl) ?_
            refine OL_sil rfl rfl rfl (Sil.move rfl rfl) ?_
            refine OL_sil rfl rfl rfl (Sil.addun rfl rfl rfl (by omega)) ?_
            refine OL_sil rfl rfl rfl (Sil.assign rfl rfl) ?_
            refine OL_nil ?_
            refine TC_seq ?_
            refine TC_region ?_
            refine OL_sil rfl rfl rfl (Sil.move rfl rfl) ?_
            refine OL_sil rfl rfl rfl (Sil.quou (j := 2) rfl rfl rfl (by decide) (div_lt hx)) ?_
            refine OL_sil rfl rfl rfl (Sil.assign rfl rfl) ?_
            refine OL_nil ?_
            refine TC_seq ?_
            refine TC_region ?_
            refine OL_sil rfl rfl rfl (Sil.move rfl rfl) ?_
            refine OL_sil rfl rfl rfl (Sil.quou (j := 2) rfl rfl rfl (by decide) (div_lt (div_lt hx))) ?_
            refine OL_sil rfl rfl rfl (Sil.assign rfl rfl) ?_
            refine OL_nil ?_
            refine TC_region ?_
            refine OL_sil rfl rfl rfl (Sil.move rfl rfl) ?_
            refine OL_sil rfl rfl rfl (Sil.mulu (j := 2) rfl rfl rfl) ?_
            refine OL_sil rfl rfl rfl (Sil.assign rfl rfl) ?_
            refine OL_nil ?_
            refine TC_region ?_
            refine OL_sil rfl rfl rfl (Sil.move rfl rfl) ?_
            refine OL_sil rfl rfl rfl (Sil.add rfl rfl rfl (by omega) (by omega)) ?_
            refine OL_sil rfl rfl rfl (Sil.assign rfl rfl) ?_
            refine OL_nil ?_
            refine ⟨(i + 1, out + 2 ^ i), ⟨⟨by omega, ?_⟩, ⟨slotN rfl (by rw [Nat.pow_succ, ← Nat.div_div_eq_div_mul]), slotN rfl (by rw [Nat.pow_succ, ← Nat.div_div_eq_div_mul]), slotN rfl (by rw [hpow]), slotN rfl (by rw [Nat.pow_succ, Nat.mod_mul_mod]), rfl, trivial⟩, List.Sublist.refl _⟩, by show 64 - (i + 1) < 64 - i; omega⟩
            rw [Nat.pow_succ, ← Nat.div_div_eq_div_mul, ← Nat.div_div_eq_div_mul, Nat.mul_assoc, Nat.add_assoc]; exact hinv
          · rw [if_pos (by omega)] at hstep
            rw [hstep, Nat.zero_add] at hinv
            refine TC_skip ?_
            refine TC_seq ?_
            refine TC_region ?_
            refine OL_sil rfl rfl rfl (Sil.move rfl rfl) ?_
            refine OL_sil rfl rfl rfl (Sil.quou (j := 2) rfl rfl rfl (by decide) (div_lt hx)) ?_
            refine OL_sil rfl rfl rfl (Sil.assign rfl rfl) ?_
            refine OL_nil ?_
            refine TC_seq ?_
            refine TC_region ?_
            refine OL_sil rfl rfl rfl (Sil.move rfl rfl) ?_
            refine OL_sil rfl rfl rfl (Sil.quou (j := 2) rfl rfl rfl (by decide) (div_lt (div_lt hx))) ?_
            refine OL_sil rfl rfl rfl (Sil.assign rfl rfl) ?_
            refine OL_nil ?_
            refine TC_region ?_
            refine OL_sil rfl rfl rfl (Sil.move rfl rfl) ?_
            refine OL_sil rfl rfl rfl (Sil.mulu (j := 2) rfl rfl rfl) ?_
            refine OL_sil rfl rfl rfl (Sil.assign rfl rfl) ?_
            refine OL_nil ?_
            refine TC_region ?_
            refine OL_sil rfl rfl rfl (Sil.move rfl rfl) ?_
            refine OL_sil rfl rfl rfl (Sil.add rfl rfl rfl (by omega) (by omega)) ?_
            refine OL_sil rfl rfl rfl (Sil.assign rfl rfl) ?_
            refine OL_nil ?_
            refine ⟨(i + 1, out), ⟨⟨by omega, ?_⟩, ⟨slotN rfl (by rw [Nat.pow_succ, ← Nat.div_div_eq_div_mul]), slotN rfl (by rw [Nat.pow_succ, ← Nat.div_div_eq_div_mul]), rfl, slotN rfl (by rw [Nat.pow_succ, Nat.mod_mul_mod]), rfl, trivial⟩, List.Sublist.refl _⟩, by show 64 - (i + 1) < 64 - i; omega⟩
            rw [Nat.pow_succ, ← Nat.div_div_eq_div_mul, ← Nat.div_div_eq_div_mul, Nat.mul_assoc]; exact hinv
        · have h64 : i = 64 := by omega
          subst h64
          rw [Nat.div_eq_of_lt (by simpa using hx), Nat.div_eq_of_lt (by simpa using div_lt (m := 2 ^ n) hx)] at hinv
          refine TC_exit ?_
          refine TC_seq ?_
          refine TC_region ?_
          refine OL_sil rfl rfl rfl (Sil.move rfl rfl) ?_
          refine OL_sil rfl rfl rfl (Sil.assign rfl rfl) ?_
          refine OL_nil ?_
          refine TC_ret ?_
          exact ret1 rfl rfl ⟨by rw [← hinv]; simp, rfl⟩

theorem To_gives (f : Nat → Nat) (hf : ∀ t, t < 4 → f t < 65536) (w0 : World) : Gives Try.prog 34 [.agg (cells4 f)] w0 [] fun v h => v = .int .u64 ((S4 f : Nat) : Int) ∧ h = [] := by
  have h0 := hf 0 (by decide)
  have h1 := hf 1 (by decide)
  have h2 := hf 2 (by decide)
  have h3 := hf 3 (by decide)
  clear hf
  refine gives_of Try.func34 rfl rfl rfl (Own.start w0) ?_
  refine TC_seq ?_
  refine TC_region ?_
  refine OL_loud rfl rfl rfl (LO.box rfl rfl) ?_
  rintro _ _ ⟨b, hb, rfl, rfl⟩
  refine OL_sil rfl rfl rfl (Sil.assign (v := .int .u64 ((0 : Nat) : Int)) rfl rfl) ?_
  refine OL_nil ?_
  refine TC_seq ?_
  refine TC_region ?_
  refine OL_sil rfl rfl rfl (Sil.assign (v := .int .u64 ((0 : Nat) : Int)) rfl rfl) ?_
  refine OL_nil ?_
  refine TC_seq ?_
  refine TC_seq ?_
  refine TC_region ?_
  refine OL_sil rfl rfl rfl (Sil.assign rfl rfl) ?_
  refine OL_nil ?_
  refine TC_block ?_
  refine TC_rounds 5 ?_
  refine TR_succ ?_
  refine TC_seq ?_
  refine TC_seq ?_
  refine TC_region ?_
  refine OL_sil rfl rfl rfl (Sil.move rfl rfl) ?_
  refine OL_sil rfl rfl rfl (Sil.geq rfl rfl rfl) ?_
  refine OL_nil ?_
  refine TC_yes rfl ?_
  refine TC_skip ?_
  refine TC_seq ?_
  refine TC_block ?_
  refine TC_region ?_
  refine OL_sil rfl rfl rfl (Sil.move rfl rfl) ?_
  refine OL_sil rfl rfl rfl (Sil.mulun (j := 65536) rfl rfl rfl (by first | decide | omega)) ?_
  refine OL_sil rfl rfl rfl (Sil.move rfl rfl) ?_
  refine OL_sil rfl rfl rfl (Sil.indexLoc1 3 rfl rfl rfl Try.underlying69 rfl rfl (by decide)) ?_
  refine OL_sil rfl rfl rfl (Sil.own 0 rfl rfl rfl Try.underlying22 rfl (cells4_at f 3 (by decide))) ?_
  refine OL_sil rfl rfl rfl (Sil.addun rfl rfl rfl (by omega)) ?_
  refine OL_sil rfl rfl rfl (Sil.assign rfl rfl) ?_
  refine OL_nil ?_
  refine TC_region ?_
  refine OL_sil rfl rfl rfl (Sil.move rfl rfl) ?_
  refine OL_sil rfl rfl rfl (Sil.sub rfl rfl rfl (by decide) (by decide)) ?_
  refine OL_sil rfl rfl rfl (Sil.assign rfl rfl) ?_
  refine OL_nil ?_
  refine TR_succ ?_
  refine TC_seq ?_
  refine TC_seq ?_
  refine TC_region ?_
  refine OL_sil rfl rfl rfl (Sil.move rfl rfl) ?_
  refine OL_sil rfl rfl rfl (Sil.geq rfl rfl rfl) ?_
  refine OL_nil ?_
  refine TC_yes rfl ?_
  refine TC_skip ?_
  refine TC_seq ?_
  refine TC_block ?_
  refine TC_region ?_
  refine OL_sil rfl rfl rfl (Sil.move rfl rfl) ?_
  refine OL_sil rfl rfl rfl (Sil.mulun (j := 65536) rfl rfl rfl (by first | decide | omega)) ?_
  refine OL_sil rfl rfl rfl (Sil.move rfl rfl) ?_
  refine OL_sil rfl rfl rfl (Sil.indexLoc1 2 rfl rfl rfl Try.underlying69 rfl rfl (by decide)) ?_
  refine OL_sil rfl rfl rfl (Sil.own 0 rfl rfl rfl Try.underlying22 rfl (cells4_at f 2 (by decide))) ?_
  refine OL_sil rfl rfl rfl (Sil.addun rfl rfl rfl (by omega)) ?_
  refine OL_sil rfl rfl rfl (Sil.assign rfl rfl) ?_
  refine OL_nil ?_
  refine TC_region ?_
  refine OL_sil rfl rfl rfl (Sil.move rfl rfl) ?_
  refine OL_sil rfl rfl rfl (Sil.sub rfl rfl rfl (by decide) (by decide)) ?_
  refine OL_sil rfl rfl rfl (Sil.assign rfl rfl) ?_
  refine OL_nil ?_
  refine TR_succ ?_
  refine TC_seq ?_
  refine TC_seq ?_
  refine TC_region ?_
  refine OL_sil rfl rfl rfl (Sil.move rfl rfl) ?_
  refine OL_sil rfl rfl rfl (Sil.geq rfl rfl rfl) ?_
  refine OL_nil ?_
  refine TC_yes rfl ?_
  refine TC_skip ?_
  refine TC_seq ?_
  refine TC_block ?_
  refine TC_region ?_
  refine OL_sil rfl rfl rfl (Sil.move rfl rfl) ?_
  refine OL_sil rfl rfl rfl (Sil.mulun (j := 65536) rfl rfl rfl (by first | decide | omega)) ?_
  refine OL_sil rfl rfl rfl (Sil.move rfl rfl) ?_
  refine OL_sil rfl rfl rfl (Sil.indexLoc1 1 rfl rfl rfl Try.underlying69 rfl rfl (by decide)) ?_
  refine OL_sil rfl rfl rfl (Sil.own 0 rfl rfl rfl Try.underlying22 rfl (cells4_at f 1 (by decide))) ?_
  refine OL_sil rfl rfl rfl (Sil.addun rfl rfl rfl (by omega)) ?_
  refine OL_sil rfl rfl rfl (Sil.assign rfl rfl) ?_
  refine OL_nil ?_
  refine TC_region ?_
  refine OL_sil rfl rfl rfl (Sil.move rfl rfl) ?_
  refine OL_sil rfl rfl rfl (Sil.sub rfl rfl rfl (by decide) (by decide)) ?_
  refine OL_sil rfl rfl rfl (Sil.assign rfl rfl) ?_
  refine OL_nil ?_
  refine TR_succ ?_
  refine TC_seq ?_
  refine TC_seq ?_
  refine TC_region ?_
  refine OL_sil rfl rfl rfl (Sil.move rfl rfl) ?_
  refine OL_sil rfl rfl rfl (Sil.geq rfl rfl rfl) ?_
  refine OL_nil ?_
  refine TC_yes rfl ?_
  refine TC_skip ?_
  refine TC_seq ?_
  refine TC_block ?_
  refine TC_region ?_
  refine OL_sil rfl rfl rfl (Sil.move rfl rfl) ?_
  refine OL_sil rfl rfl rfl (Sil.mulun (j := 65536) rfl rfl rfl (by first | decide | omega)) ?_
  refine OL_sil rfl rfl rfl (Sil.move rfl rfl) ?_
  refine OL_sil rfl rfl rfl (Sil.indexLoc1 0 rfl rfl rfl Try.underlying69 rfl rfl (by decide)) ?_
  refine OL_sil rfl rfl rfl (Sil.own 0 rfl rfl rfl Try.underlying22 rfl (cells4_at f 0 (by decide))) ?_
  refine OL_sil rfl rfl rfl (Sil.addun rfl rfl rfl (by omega)) ?_
  refine OL_sil rfl rfl rfl (Sil.assign rfl rfl) ?_
  refine OL_nil ?_
  refine TC_region ?_
  refine OL_sil rfl rfl rfl (Sil.move rfl rfl) ?_
  refine OL_sil rfl rfl rfl (Sil.sub rfl rfl rfl (by decide) (by decide)) ?_
  refine OL_sil rfl rfl rfl (Sil.assign rfl rfl) ?_
  refine OL_nil ?_
  refine TR_succ ?_
  refine TC_seq ?_
  refine TC_seq ?_
  refine TC_region ?_
  refine OL_sil rfl rfl rfl (Sil.move rfl rfl) ?_
  refine OL_sil rfl rfl rfl (Sil.geq rfl rfl rfl) ?_
  refine OL_nil ?_
  refine TC_no rfl ?_
  refine TC_exit ?_
  refine TC_seq ?_
  refine TC_region ?_
  refine OL_sil rfl rfl rfl (Sil.move rfl rfl) ?_
  refine OL_sil rfl rfl rfl (Sil.assign rfl rfl) ?_
  refine OL_nil ?_
  refine TC_ret ?_
  exact ret1 rfl rfl ⟨congrArg (fun x : Nat => Value.int .u64 (x : Int)) (by simp only [S4]; omega), rfl⟩

theorem upd_dig (x i : Nat) : upd (fun t => if t < i then dig x t else 0) i (x / 65536 ^ i % 65536) = fun t => if t < i + 1 then dig x t else 0 := by
  funext t
  unfold upd
  by_cases h : t = i
  · subst h; rw [if_pos rfl, if_pos (by omega)]; rfl
  · rw [if_neg h]
    show (if t < i then dig x t else 0) = _
    by_cases h' : t < i
    · rw [if_pos h', if_pos (by omega)]
    · rw [if_neg h', if_neg (by omega)]
theorem Of_gives (x : Nat) (hx : x < 18446744073709551616) (w0 : World) : Gives Try.prog 36 [.int .u64 x] w0 [] fun v h => v = .agg (cells4 (dig x)) ∧ h = [] := by
  refine gives_of Try.func36 rfl rfl rfl (Own.start w0) ?_
  refine TC_seq ?_
  refine TC_region ?_
  refine OL_loud rfl rfl rfl (LO.alloc rfl rfl) ?_
  rintro _ _ ⟨br, hbr, rfl, rfl⟩
  refine OL_nil ?_
  refine TC_seq ?_
  refine TC_region ?_
  refine OL_sil rfl rfl rfl (Sil.build (vs := []) (cs := cells4 (fun _ => 0)) rfl rfl (fun _ => rfl)) ?_
  refine OL_loud rfl rfl rfl (LO.alloc rfl rfl) ?_
  rintro _ _ ⟨bw, hbw, rfl, rfl⟩
  refine OL_loud0 rfl rfl (LO.storeAs 1 (cells4 (fun _ => 0)) rfl rfl rfl rfl rfl rfl (oneC_cells4 _) (by decide) rfl) ?_
  rintro _ _ ⟨rfl, rfl⟩
  refine OL_nil ?_
  refine TC_seq ?_
  refine TC_seq ?_
  refine TC_region ?_
  refine OL_sil rfl rfl rfl (Sil.assign rfl rfl) ?_
  refine OL_nil ?_
  refine TC_block ?_
  refine TC_loop (fun i : Nat => [(0, .int .u64 ((x / 65536 ^ i : Nat) : Int)), (2, .pointer (some ⟨br, 0, none⟩)), (3, .pointer (some ⟨bw, 0, none⟩)), (4, .int .i64 i)]) (fun i => [blk br (.cells (cells4 fun _ => 0) 69 (0, 0)), blk bw (.cells (cells4 fun t => if t < i then dig x t else 0) 69 (0, 0))]) (fun i => i ≤ 4) (fun i => 4 - i) 0 ?_ ?_
  · exact ⟨Nat.zero_le _, ⟨by simp only [Nat.pow_zero, Nat.div_one]; rfl, rfl, rfl, rfl, trivial⟩, List.Sublist.refl _⟩
  · intro i hi
    refine TC_seq ?_
    refine TC_seq ?_
    refine TC_region ?_
    refine OL_sil rfl rfl rfl (Sil.move rfl rfl) ?_
    refine OL_sil rfl rfl rfl (Sil.lss rfl rfl rfl) ?_
    refine OL_nil ?_
    refine TC_if rfl (fun ht7 => ?_) (fun ht7 => ?_)
    · refine TC_skip ?_
      refine TC_seq ?_
      refine TC_block ?_
      refine TC_seq ?_
      refine TC_region ?_
      refine OL_sil rfl rfl rfl (Sil.move rfl rfl) ?_
      refine OL_sil rfl rfl rfl (Sil.move rfl rfl) ?_
      refine OL_sil rfl rfl rfl (Sil.remu (j := 65536) rfl rfl rfl (by decide)) ?_
      refine OL_sil rfl rfl rfl (Sil.indexLoc1 i rfl rfl rfl Try.underlying69 rfl rfl (by omega)) ?_
      refine OL_loud0 rfl rfl (LO.storeAs 1 (cells4 fun t => if t < i + 1 then dig x t else 0) rfl rfl rfl rfl rfl rfl (oneC_int _ _) (by show i + 1 ≤ 4; omega) ((cells4_put _ _ _ (by omega)).trans (congrArg cells4 (upd_dig x i)))) ?_
      rintro _ _ ⟨rfl, rfl⟩
      refine OL_nil ?_
      refine TC_region ?_
      refine OL_sil rfl rfl rfl (Sil.move rfl rfl) ?_
      refine OL_sil rfl rfl rfl (Sil.quou (j := 65536) rfl rfl rfl (by decide) (div_lt hx)) ?_
      refine OL_sil rfl rfl rfl (Sil.assign rfl rfl) ?_
      refine OL_nil ?_
      refine TC_region ?_
      refine OL_sil rfl rfl rfl (Sil.move rfl rfl) ?_
      refine OL_sil rfl rfl rfl (Sil.add rfl rfl rfl (by omega) (by omega)) ?_
      refine OL_sil rfl rfl rfl (Sil.assign rfl rfl) ?_
      refine OL_nil ?_
      exact ⟨i + 1, ⟨by omega, ⟨slotN rfl (by rw [Nat.pow_succ, ← Nat.div_div_eq_div_mul]), rfl, rfl, rfl, trivial⟩, List.Sublist.refl _⟩, by omega⟩
    · obtain rfl : i = 4 := by omega
      refine TC_exit ?_
      refine TC_seq ?_
      refine TC_region ?_
      refine OL_sil rfl rfl rfl (Sil.whole 1 rfl rfl rfl ⟨Try.underlying69, rfl⟩ rfl rfl) ?_
      refine OL_loud0 rfl rfl (LO.storeAs 0 (cells4 (dig x)) rfl rfl rfl rfl rfl rfl (oneC_cells4 _) (by decide) rfl) ?_
      rintro _ _ ⟨rfl, rfl⟩
      refine OL_nil ?_
      refine TC_ret ?_
      exact retC 0 rfl rfl rfl ⟨Try.underlying69, rfl⟩ rfl rfl (List.nil_sublist _) ⟨rfl, rfl⟩
end Go.Proofs.Ytccmgmjfcfacoaa
