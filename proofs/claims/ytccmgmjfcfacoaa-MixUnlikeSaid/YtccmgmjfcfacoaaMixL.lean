/-
  The laws MixStirs, MixUnlike, MixBounds: each call gives back true, and what it made is new.
-/
import Derived.Test.YtccmgmjfcfacoaaMixE
namespace Go.Proofs.Ytccmgmjfcfacoaa
open Go.Cru

theorem stir_one : stir 1 = 6238072747940578789 := by decide +kernel
theorem stir_zero : stir 0 = 0 := by decide +kernel
theorem MixStirs_gives (x : Nat) (hx : x < 18446744073709551616) (w0 : World) : Gives Try.prog 3 [.int .u64 x] w0 [] fun v h => v = .bool true ∧ h = [] := by
  refine gives_of Try.func3 rfl rfl rfl (Own.start w0) ?_
  refine TC_seq ?_
  refine TC_region ?_
  refine OL_sil rfl rfl rfl (Sil.assign rfl rfl) ?_
  refine OL_nil ?_
  refine TC_seq ?_
  refine TC_region ?_
  refine OL_sil rfl rfl rfl (Sil.move rfl rfl) ?_
  refine OL_pure rfl rfl rfl (LO.pure rfl ent14 rfl (fun w _ => stir_gives x hx w)) ?_
  refine OL_sil rfl rfl rfl (Sil.move rfl rfl) ?_
  refine OL_pure rfl rfl rfl (LO.pure rfl ent15 rfl (fun w _ => refStir_gives x hx w)) ?_
  refine OL_sil rfl rfl rfl (Sil.eql rfl rfl rfl) ?_
  refine OL_sil rfl rfl rfl (Sil.move rfl rfl) ?_
  refine OL_dec 8 rfl (fun ht8 => ?_) (fun ht8 => ?_)
  · refine OL_pure rfl rfl rfl (LO.pure rfl ent14 rfl (fun w _ => stir_gives 1 (by decide) w)) ?_
    refine OL_sil rfl rfl rfl (Sil.eql rfl rfl rfl) ?_
    refine OL_sil rfl rfl rfl (Sil.pick1 rfl rfl rfl) ?_
    refine OL_sil rfl rfl rfl (Sil.assign rfl rfl) ?_
    refine OL_nil ?_
    refine TC_ret ?_
    exact ret1 rfl rfl ⟨by rw [stir_one]; rfl, rfl⟩
  · exact absurd rfl ht8

/-! stirring is one to one -/
theorem xorshift_inj (k x y : Nat) (hk : 0 < k) (h : x ^^^ x / 2 ^ k = y ^^^ y / 2 ^ k) : x = y := by
  apply Nat.eq_of_testBit_eq
  have key : ∀ m i, (∀ j, i + m ≤ j → x.testBit j = y.testBit j) → x.testBit i = y.testBit i := by
    intro m
    induction m using Nat.strongRecOn with
    | _ m ih =>
      intro i hi
      have hb := congrArg (fun z => z.testBit i) h
      simp only [Nat.testBit_xor, Nat.testBit_div_two_pow] at hb
      by_cases hm : m ≤ k
      · have := hi (i + k) (by omega)
        rw [this] at hb
        simpa using hb
      · have := ih (m - k) (by omega) (i + k) (fun j hj => hi j (by omega))
        rw [this] at hb
        simpa using hb
  intro i
  obtain ⟨b, hbx, hby⟩ : ∃ b, x < 2 ^ b ∧ y < 2 ^ b := ⟨x + y, Nat.lt_of_le_of_lt (by omega) Nat.lt_two_pow_self, Nat.lt_of_le_of_lt (by omega) Nat.lt_two_pow_self⟩
  refine key b i fun j hj => ?_
  rw [Nat.testBit_lt_two_pow (Nat.lt_of_lt_of_le hbx (Nat.pow_le_pow_right (by decide) (by omega))), Nat.testBit_lt_two_pow (Nat.lt_of_lt_of_le hby (Nat.pow_le_pow_right (by decide) (by omega)))]
theorem mul_inj (c d x y : Nat) (hcd : c * d % 18446744073709551616 = 1) (hx : x < 18446744073709551616) (hy : y < 18446744073709551616) (h : x * c % 18446744073709551616 = y * c % 18446744073709551616) : x = y := by
  have key : ∀ z, z < 18446744073709551616 → z * c % 18446744073709551616 * d % 18446744073709551616 = z := fun z hz => by
    rw [Nat.mod_mul_mod, Nat.mul_assoc, Nat.mul_mod, hcd, Nat.mul_one, Nat.mod_mod, Nat.mod_eq_of_lt hz]
  rw [← key x hx, ← key y hy, h]
theorem stir_inj (x y : Nat) (hx : x < 18446744073709551616) (hy : y < 18446744073709551616) (h : stir x = stir y) : x = y := by
  unfold stir at h
  have h1 := xorshift_inj 31 _ _ (by decide) h
  have h2 := mul_inj 10723151780598845931 3573116690164977347 _ _ (by decide) (xor_lt (Nat.mod_lt _ (by decide)) (div_lt (Nat.mod_lt _ (by decide)))) (xor_lt (Nat.mod_lt _ (by decide)) (div_lt (Nat.mod_lt _ (by decide)))) h1
  have h3 := xorshift_inj 27 _ _ (by decide) h2
  have h4 := mul_inj 13787848793156543929 10871156337175269513 _ _ (by decide) (xor_lt hx (div_lt hx)) (xor_lt hy (div_lt hy)) h3
  exact xorshift_inj 30 _ _ (by decide) h4

theorem MixUnlike_gives (x y : Nat) (hx : x < 18446744073709551616) (hy : y < 18446744073709551616) (w0 : World) : Gives Try.prog 4 [.int .u64 x, .int .u64 y] w0 [] fun v h => v = .bool true ∧ h = [] := by
  refine gives_of Try.func4 rfl rfl rfl (Own.start w0) ?_
  refine TC_seq ?_
  refine TC_region ?_
  refine OL_sil rfl rfl rfl (Sil.assign rfl rfl) ?_
  refine OL_nil ?_
  refine TC_seq ?_
  refine TC_seq ?_
  refine TC_region ?_
  refine OL_pure rfl rfl rfl (LO.pure rfl ent14 rfl (fun w _ => stir_gives 1 (by decide) w)) ?_
  refine OL_sil rfl rfl rfl (Sil.neq rfl rfl rfl) ?_
  refine OL_sil rfl rfl rfl (Sil.move rfl rfl) ?_
  refine OL_decn 9 rfl (fun ht9 => ?_) (fun ht9 => ?_)
  · exact absurd (by rw [stir_one]; rfl) ht9
  · refine OL_pure rfl rfl rfl (LO.pure rfl ent16 rfl (fun w _ => head_gives w)) ?_
    refine OL_sil rfl rfl rfl (Sil.not rfl rfl) ?_
    refine OL_sil rfl rfl rfl (Sil.pick0 rfl rfl rfl) ?_
    refine OL_nil ?_
    refine TC_no rfl ?_
    refine TC_skip ?_
    refine TC_seq ?_
    refine TC_seq ?_
    refine TC_region ?_
    refine OL_sil rfl rfl rfl (Sil.move rfl rfl) ?_
    refine OL_sil rfl rfl rfl (Sil.move rfl rfl) ?_
    refine OL_sil rfl rfl rfl (Sil.eql rfl rfl rfl) ?_
    refine OL_sil rfl rfl rfl (Sil.move rfl rfl) ?_
    refine OL_pure rfl rfl rfl (LO.pure rfl ent14 rfl (fun w _ => stir_gives x hx w)) ?_
    refine OL_sil rfl rfl rfl (Sil.move rfl rfl) ?_
    refine OL_pure rfl rfl rfl (LO.pure rfl ent14 rfl (fun w _ => stir_gives y hy w)) ?_
    refine OL_sil rfl rfl rfl (Sil.eql rfl rfl rfl) ?_
    refine OL_sil rfl rfl rfl (Sil.neqB rfl rfl rfl Try.underlying4) ?_
    refine OL_nil ?_
    refine TC_cond rfl (fun ht21 => ?_) (fun ht21 => ?_)
    · exfalso
      have : (x = y) ↔ (stir x = stir y) := ⟨fun e => by rw [e], stir_inj x y hx hy⟩
      by_cases e : x = y
      · simp [e] at ht21
      · have e2 : ¬ stir x = stir y := fun h => e (this.2 h)
        have e3 : ¬ (x : Int) = (y : Int) := by omega
        have e4 : ¬ (stir x : Int) = (stir y : Int) := by omega
        simp [e3, e4] at ht21
    · refine TC_skip ?_
      refine TC_seq ?_
      refine TC_region ?_
      refine OL_sil rfl rfl rfl (Sil.move rfl rfl) ?_
      refine OL_loud rfl rfl rfl (LO.calls rfl ent17 rfl (fun w _ => New_gives x w)) ?_
      rintro _ _ ⟨_, ⟨b1, rfl, rfl⟩, rfl⟩
      refine OL_sil rfl rfl rfl (Sil.assign rfl rfl) ?_
      refine OL_nil ?_
      refine TC_seq ?_
      refine TC_region ?_
      refine OL_sil rfl rfl rfl (Sil.move rfl rfl) ?_
      refine OL_sil rfl rfl rfl (Sil.addu (j := 11400714819323198485) rfl rfl rfl) ?_
      refine OL_loud rfl rfl rfl (LO.calls rfl ent17 rfl (fun w _ => New_gives (nxt x) w)) ?_
      rintro _ _ ⟨_, ⟨b2, rfl, rfl⟩, rfl⟩
      refine OL_sil rfl rfl rfl (Sil.assign rfl rfl) ?_
      refine OL_nil ?_
      refine TC_seq ?_
      refine TC_region ?_
      refine OL_sil rfl rfl rfl (Sil.move rfl rfl) ?_
      refine OL_loud rfl rfl rfl (LO.lent (r' := srcR b1 (nxt x)) 0 rfl ent18 rfl rfl (Eq.refl [b1]) (fun w _ ho' => Next_gives b1 x w ho')) ?_
      rintro _ _ ⟨rfl, rfl⟩
      refine OL_nil ?_
      refine TC_seq ?_
      refine TC_region ?_
      refine OL_sil rfl rfl rfl (Sil.move rfl rfl) ?_
      refine OL_loud rfl rfl rfl (LO.lent (r' := srcR b1 (nxt (nxt x))) 0 rfl ent18 rfl rfl (Eq.refl [b1]) (fun w _ ho' => Next_gives b1 (nxt x) w ho')) ?_
      rintro _ _ ⟨rfl, rfl⟩
      refine OL_sil rfl rfl rfl (Sil.move rfl rfl) ?_
      refine OL_loud rfl rfl rfl (LO.lent (r' := srcR b2 (nxt (nxt x))) 1 rfl ent18 rfl rfl (Eq.refl [b2]) (fun w _ ho' => Next_gives b2 (nxt x) w ho')) ?_
      rintro _ _ ⟨rfl, rfl⟩
      refine OL_sil rfl rfl rfl (Sil.eql rfl rfl rfl) ?_
      refine OL_sil rfl rfl rfl (Sil.move rfl rfl) ?_
      refine OL_dec 34 rfl (fun ht34 => ?_) (fun ht34 => ?_)
      · refine OL_pure rfl rfl rfl (LO.pure rfl ent14 rfl (fun w _ => stir_gives 0 (by decide) w)) ?_
        refine OL_sil rfl rfl rfl (Sil.eql rfl rfl rfl) ?_
        refine OL_sil rfl rfl rfl (Sil.pick1 rfl rfl rfl) ?_
        refine OL_sil rfl rfl rfl (Sil.assign rfl rfl) ?_
        refine OL_nil ?_
        refine TC_ret ?_
        exact ret1 rfl rfl ⟨by rw [stir_zero]; rfl, rfl⟩
      · exact absurd rfl ht34
end Go.Proofs.Ytccmgmjfcfacoaa
