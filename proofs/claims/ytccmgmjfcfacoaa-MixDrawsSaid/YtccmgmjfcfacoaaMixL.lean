/-
  The laws MixStirs, MixUnlike, MixBounds: each call gives back true, and what it made is new.
-/
import Derived.Test.YtccmgmjfcfacoaaMixE
namespace Go.Proofs.Ytccmgmjfcfacoaa
open Go.Cru

theorem stir_one : stir 1 = 6238072747940578789 := by decide +kernel
theorem stir_zero : stir 0 = 0 := by decide +kernel
theorem MixStirs_gives (x : Nat) (hx : x < 18446744073709551616) (w0 : World) : Gives Try.prog 3 [.int .u64 x] w0 [] fun v h => v = .bool true ∧ h = [] := by
  refine gives_of Try.func3 rfl rfl rfl (Own.start w0) ?_
  refine TC_seq ?_
  refine TC_region ?_
  refine OL_sil rfl rfl rfl (Sil.assign rfl rfl) ?_
  refine OL_nil ?_
  refine TC_seq ?_
  refine TC_region ?_
  refine OL_sil rfl rfl rfl (Sil.move rfl rfl) ?_
  refine OL_pure rfl rfl rfl (LO.pure rfl ent14 rfl (fun w _ => stir_gives x hx w)) ?_
  refine OL_sil rfl rfl rfl (Sil.move rfl rfl) ?_
  refine OL_pure rfl rfl rfl (LO.pure rfl ent15 rfl (fun w _ => refStir_gives x hx w)) ?_
  refine OL_sil rfl rfl rfl (Sil.eql rfl rfl rfl) ?_
  refine OL_sil rfl rfl rfl (Sil.move rfl rfl) ?_
  refine OL_dec 8 rfl (fun ht8 => ?_) (fun ht8 => ?_)
  · refine OL_pure rfl rfl rfl (LO.pure rfl ent14 rfl (fun w _ => stir_gives 1 (by decide) w)) ?_
    refine OL_sil rfl rfl rfl (Sil.eql rfl rfl rfl) ?_
    refine OL_sil rfl rfl rfl (Sil.pick1 rfl rfl rfl) ?_
    refine OL_sil rfl rfl rfl (Sil.assign rfl rfl) ?_
    refine OL_nil ?_
    refine TC_ret ?_
    exact ret1 rfl rfl ⟨by rw [stir_one]; rfl, rfl⟩
  · exact absurd rfl ht8

/-! stirring is one to one -/
theorem xorshift_inj (k x y : Nat) (hk : 0 < k) (h : x ^^^ x / 2 ^ k = y ^^^ y / 2 ^ k) : x = y := by
  apply Nat.eq_of_testBit_eq
  have key : ∀ m i, (∀ j, i + m ≤ j → x.testBit j = y.testBit j) → x.testBit i = y.testBit i := by
    intro m
    induction m using Nat.strongRecOn with
    | _ m ih =>
      intro i hi
      have hb := congrArg (fun z => z.testBit i) h
      simp only [Nat.testBit_xor, Nat.testBit_div_two_pow] at hb
      by_cases hm : m ≤ k
      · have := hi (i + k) (by omega)
        rw [this] at hb
        simpa using hb
      · have := ih (m - k) (by omega) (i + k) (fun j hj => hi j (by omega))
        rw [this] at hb
        simpa using hb
  intro i
  obtain ⟨b, hbx, hby⟩ : ∃ b, x < 2 ^ b ∧ y < 2 ^ b := ⟨x + y, Nat.lt_of_le_of_lt (by omega) Nat.lt_two_pow_self, Nat.lt_of_le_of_lt (by omega) Nat.lt_two_pow_self⟩
  refine key b i fun j hj => ?_
  rw [Nat.testBit_lt_two_pow (Nat.lt_of_lt_of_le hbx (Nat.pow_le_pow_right (by decide) (by omega))), Nat.testBit_lt_two_pow (Nat.lt_of_lt_of_le hby (Nat.pow_le_pow_right (by decide) (by omega)))]
theorem mul_inj (c d x y : Nat) (hcd : c * d % 18446744073709551616 = 1) (hx : x < 18446744073709551616) (hy : y < 18446744073709551616) (h : x * c % 18446744073709551616 = y * c % 18446744073709551616) : x = y := by
  have key : ∀ z, z < 18446744073709551616 → z * c % 18446744073709551616 * d % 18446744073709551616 = z := fun z hz => by
    rw [Nat.mod_mul_mod, Nat.mul_assoc, Nat.mul_mod, hcd, Nat.mul_one, Nat.mod_mod, Nat.mod_eq_of_lt hz]
  rw [← key x hx, ← key y hy, h]
theorem stir_inj (x y : Nat) (hx : x < 18446744073709551616) (hy : y < 18446744073709551616) (h : stir x = stir y) : x = y := by
  unfold stir at h
  have h1 := xorshift_inj 31 _ _ (by decide) h
  have h2 := mul_inj 10723151780598845931 3573116690164977347 _ _ (by decide) (xor_lt (Nat.mod_lt _ (by decide)) (div_lt (Nat.mod_lt _ (by decide)))) (xor_lt (Nat.mod_lt _ (by decide)) (div_lt (Nat.mod_lt _ (by decide)))) h1
  have h3 := xorshift_inj 27 _ _ (by decide) h2
  have h4 := mul_inj 13787848793156543929 10871156337175269513 _ _ (by decide) (xor_lt hx (div_lt hx)) (xor_lt hy (div_lt hy)) h3
  exact xorshift_inj 30 _ _ (by decide) h4

theorem MixUnlike_gives (x y : Nat) (hx : x < 18446744073709551616) (hy : y < 18446744073709551616) (w0 : World) : Gives Try.prog 4 [.int .u64 x, .int .u64 y] w0 [] fun v h => v = .bool true ∧ h = [] := by
  refine gives_of Try.func4 rfl rfl rfl (Own.start w0) ?_
  refine TC_seq ?_
  refine TC_region ?_
  refine OL_sil rfl rfl rfl (Sil.assign rfl rfl) ?_
  refine OL_nil ?_
  refine TC_seq ?_
  refine TC_seq ?_
  refine TC_region ?_
  refine OL_pure rfl rfl rfl (LO.pure rfl ent14 rfl (fun w _ => stir_gives 1 (by decide) w)) ?_
  refine OL_sil rfl rfl rfl (Sil.neq rfl rfl rfl) ?_
  refine OL_sil rfl rfl rfl (Sil.move rfl rfl) ?_
  refine OL_decn 9 rfl (fun ht9 => ?_) (fun ht9 => ?_)
  · exact absurd (by rw [stir_one]; rfl) ht9
  · refine OL_pure rfl rfl rfl (LO.pure rfl ent16 rfl (fun w _ => head_gives w)) ?_
    refine OL_sil rfl rfl rfl (Sil.not rfl rfl) ?_
    refine OL_sil rfl rfl rfl (Sil.pick0 rfl rfl rfl) ?_
    refine OL_nil ?_
    refine TC_no rfl ?_
    refine TC_skip ?_
    refine TC_seq ?_
    refine TC_seq ?_
    refine TC_region ?_
    refine OL_sil rfl rfl rfl (Sil.move rfl rfl) ?_
    refine OL_sil rfl rfl rfl (Sil.move rfl rfl) ?_
    refine OL_sil rfl rfl rfl (Sil.eql rfl rfl rfl) ?_
    refine OL_sil rfl rfl rfl (Sil.move rfl rfl) ?_
    refine OL_pure rfl rfl rfl (LO.pure rfl ent14 rfl (fun w _ => stir_gives x hx w)) ?_
    refine OL_sil rfl rfl rfl (Sil.move rfl rfl) ?_
    refine OL_pure rfl rfl rfl (LO.pure rfl ent14 rfl (fun w _ => stir_gives y hy w)) ?_
    refine OL_sil rfl rfl rfl (Sil.eql rfl rfl rfl) ?_
    refine OL_sil rfl rfl rfl (Sil.neqB rfl rfl rfl Try.underlying4) ?_
    refine OL_nil ?_
    refine TC_cond rfl (fun ht21 => ?_) (fun ht21 => ?_)
    · exfalso
      have : (x = y) ↔ (stir x = stir y) := ⟨fun e => by rw [e], stir_inj x y hx hy⟩
      by_cases e : x = y
      · simp [e] at ht21
      · have e2 : ¬ stir x = stir y := fun h => e (this.2 h)
        have e3 : ¬ (x : Int) = (y : Int) := by omega
        have e4 : ¬ (stir x : Int) = (stir y : Int) := by omega
        simp [e3, e4] at ht21
    · refine TC_skip ?_
      refine TC_seq ?_
      refine TC_region ?_
      refine OL_sil rfl rfl rfl (Sil.move rfl rfl) ?_
      refine OL_loud rfl rfl rfl (LO.calls rfl ent17 rfl (fun w _ => New_gives x w)) ?_
      rintro _ _ ⟨_, ⟨b1, rfl, rfl⟩, rfl⟩
      refine OL_sil rfl rfl rfl (Sil.assign rfl rfl) ?_
      refine OL_nil ?_
      refine TC_seq ?_
      refine TC_region ?_
      refine OL_sil rfl rfl rfl (Sil.move rfl rfl) ?_
      refine OL_sil rfl rfl rfl (Sil.addu (j := 11400714819323198485) rfl rfl rfl) ?_
      refine OL_loud rfl rfl rfl (LO.calls rfl ent17 rfl (fun w _ => New_gives (nxt x) w)) ?_
      rintro _ _ ⟨_, ⟨b2, rfl, rfl⟩, rfl⟩
      refine OL_sil rfl rfl rfl (Sil.assign rfl rfl) ?_
      refine OL_nil ?_
      refine TC_seq ?_
      refine TC_region ?_
      refine OL_sil rfl rfl rfl (Sil.move rfl rfl) ?_
      refine OL_loud rfl rfl rfl (LO.lent (r' := srcR b1 (nxt x)) 0 rfl ent18 rfl rfl (Eq.refl [b1]) (fun w _ ho' => Next_gives b1 x w ho')) ?_
      rintro _ _ ⟨rfl, rfl⟩
      refine OL_nil ?_
      refine TC_seq ?_
      refine TC_region ?_
      refine OL_sil rfl rfl rfl (Sil.move rfl rfl) ?_
      refine OL_loud rfl rfl rfl (LO.lent (r' := srcR b1 (nxt (nxt x))) 0 rfl ent18 rfl rfl (Eq.refl [b1]) (fun w _ ho' => Next_gives b1 (nxt x) w ho')) ?_
      rintro _ _ ⟨rfl, rfl⟩
      refine OL_sil rfl rfl rfl (Sil.move rfl rfl) ?_
      refine OL_loud rfl rfl rfl (LO.lent (r' := srcR b2 (nxt (nxt x))) 1 rfl ent18 rfl rfl (Eq.refl [b2]) (fun w _ ho' => Next_gives b2 (nxt x) w ho')) ?_
      rintro _ _ ⟨rfl, rfl⟩
      refine OL_sil rfl rfl rfl (Sil.eql rfl rfl rfl) ?_
      refine OL_sil rfl rfl rfl (Sil.move rfl rfl) ?_
      refine OL_dec 34 rfl (fun ht34 => ?_) (fun ht34 => ?_)
      · refine OL_pure rfl rfl rfl (LO.pure rfl ent14 rfl (fun w _ => stir_gives 0 (by decide) w)) ?_
        refine OL_sil rfl rfl rfl (Sil.eql rfl rfl rfl) ?_
        refine OL_sil rfl rfl rfl (Sil.pick1 rfl rfl rfl) ?_
        refine OL_sil rfl rfl rfl (Sil.assign rfl rfl) ?_
        refine OL_nil ?_
        refine TC_ret ?_
        exact ret1 rfl rfl ⟨by rw [stir_zero]; rfl, rfl⟩
      · exact absurd rfl ht34

theorem bel_two (s : Nat) : bel s 2 = if 9223372036854775808 ≤ stir (nxt s) then 1 else 0 := by
  have := stir_lt (nxt s)
  unfold bel
  rw [if_neg (by decide)]
  show stir (nxt s) * 2 / 18446744073709551616 = _
  split <;> omega
theorem bel_62 (s : Nat) : bel s 4611686018427387904 = stir (nxt s) / 2 ^ 2 := by
  have := stir_lt (nxt s)
  unfold bel
  rw [if_neg (by decide)]
  show stir (nxt s) * 4611686018427387904 / 18446744073709551616 = _
  omega
theorem MixBounds_gives (s : Nat) (n : Int) (hn : n ≤ 9223372036854775807) (w0 : World) : Gives Try.prog 6 [.int .u64 s, .int .i64 n] w0 [] fun v h => v = .bool true ∧ h = [] := by
  have h2 := bel_two s
  have h62 := bel_62 s
  have hlt := bel_lt s n
  have hnx := fun b w => Next_gives b s w
  have hyl := stir_lt (nxt s)
  generalize stir (nxt s) = y at h2 h62 hnx hyl
  refine gives_of Try.func6 rfl rfl rfl (Own.start w0) ?_
  refine TC_seq ?_
  refine TC_region ?_
  refine OL_sil rfl rfl rfl (Sil.assign rfl rfl) ?_
  refine OL_nil ?_
  refine TC_seq ?_
  refine TC_seq ?_
  refine TC_region ?_
  refine OL_pure rfl rfl rfl (LO.pure rfl ent16 rfl (fun w _ => head_gives w)) ?_
  refine OL_sil rfl rfl rfl (Sil.not rfl rfl) ?_
  refine OL_nil ?_
  refine TC_no rfl ?_
  refine TC_skip ?_
  refine TC_seq ?_
  refine TC_region ?_
  refine OL_sil rfl rfl rfl (Sil.move rfl rfl) ?_
  refine OL_loud rfl rfl rfl (LO.calls rfl ent17 rfl (fun w _ => New_gives s w)) ?_
  rintro _ _ ⟨_, ⟨b1, rfl, rfl⟩, rfl⟩
  refine OL_sil rfl rfl rfl (Sil.assign rfl rfl) ?_
  refine OL_nil ?_
  refine TC_seq ?_
  refine TC_region ?_
  refine OL_sil rfl rfl rfl (Sil.move rfl rfl) ?_
  refine OL_loud rfl rfl rfl (LO.calls rfl ent17 rfl (fun w _ => New_gives s w)) ?_
  rintro _ _ ⟨_, ⟨b2, rfl, rfl⟩, rfl⟩
  refine OL_sil rfl rfl rfl (Sil.assign rfl rfl) ?_
  refine OL_nil ?_
  refine TC_seq ?_
  refine TC_region ?_
  refine OL_sil rfl rfl rfl (Sil.move rfl rfl) ?_
  refine OL_sil rfl rfl rfl (Sil.move rfl rfl) ?_
  refine OL_loud rfl rfl rfl (LO.lent (r' := srcR b1 (nxt s)) 0 rfl ent21 rfl rfl (Eq.refl [b1]) (fun w _ ho' => Below_gives b1 s n hn w ho')) ?_
  rintro _ _ ⟨rfl, rfl⟩
  refine OL_sil rfl rfl rfl (Sil.assign rfl rfl) ?_
  refine OL_nil ?_
  refine TC_seq ?_
  refine TC_region ?_
  refine OL_sil rfl rfl rfl (Sil.move rfl rfl) ?_
  refine OL_loud rfl rfl rfl (LO.lent (r' := srcR b2 (nxt s)) 1 rfl ent18 rfl rfl (Eq.refl [b2]) (fun w _ ho' => hnx b2 w ho')) ?_
  rintro _ _ ⟨rfl, rfl⟩
  refine OL_sil rfl rfl rfl (Sil.assign rfl rfl) ?_
  refine OL_nil ?_
  refine TC_seq ?_
  refine TC_seq ?_
  refine TC_region ?_
  refine OL_sil rfl rfl rfl (Sil.move rfl rfl) ?_
  refine OL_sil rfl rfl rfl (Sil.leq rfl rfl rfl) ?_
  refine OL_nil ?_
  refine TC_if rfl (fun ht23 => ?_) (fun ht23 => ?_)
  · refine TC_seq ?_
    refine TC_region ?_
    refine OL_sil rfl rfl rfl (Sil.move rfl rfl) ?_
    refine OL_sil rfl rfl rfl (Sil.eql rfl rfl rfl) ?_
    refine OL_sil rfl rfl rfl (Sil.assign rfl rfl) ?_
    refine OL_nil ?_
    refine TC_ret ?_
    exact ret1 rfl rfl ⟨congrArg Value.bool (decide_eq_true (by unfold bel; rw [if_pos ht23]; rfl)), rfl⟩
  · refine TC_skip ?_
    refine TC_seq ?_
    refine TC_region ?_
    refine OL_sil rfl rfl rfl (Sil.assign rfl rfl) ?_
    refine OL_nil ?_
    refine TC_seq ?_
    refine TC_seq ?_
    refine TC_region ?_
    refine OL_sil rfl rfl rfl (Sil.move rfl rfl) ?_
    refine OL_sil rfl rfl rfl (Sil.geq rfl rfl rfl) ?_
    refine OL_nil ?_
    refine TC_if rfl (fun ht27 => ?_) (fun ht27 => ?_)
    · refine TC_region ?_
      refine OL_sil rfl rfl rfl (Sil.assign rfl rfl) ?_
      refine OL_nil ?_
      refine TC_seq ?_
      refine TC_region ?_
      refine OL_sil rfl rfl rfl (Sil.move rfl rfl) ?_
      refine OL_loud rfl rfl rfl (LO.calls rfl ent17 rfl (fun w _ => New_gives s w)) ?_
      rintro _ _ ⟨_, ⟨b3, rfl, rfl⟩, rfl⟩
      refine OL_sil rfl rfl rfl (Sil.assign rfl rfl) ?_
      refine OL_nil ?_
      refine TC_seq ?_
      refine TC_region ?_
      refine OL_sil rfl rfl rfl (Sil.move rfl rfl) ?_
      refine OL_sil rfl rfl rfl (Sil.geq rfl rfl rfl) ?_
      refine OL_sil rfl rfl rfl (Sil.move rfl rfl) ?_
      refine OL_dec 32 rfl (fun ht32 => ?_) (fun ht32 => ?_)
      · refine OL_sil rfl rfl rfl (Sil.move rfl rfl) ?_
        refine OL_sil rfl rfl rfl (Sil.move rfl rfl) ?_
        refine OL_sil rfl rfl rfl (Sil.lss rfl rfl rfl) ?_
        refine OL_sil rfl rfl rfl (Sil.pick1 rfl rfl rfl) ?_
        refine OL_sil rfl rfl rfl (Sil.move rfl rfl) ?_
        refine OL_dec 37 rfl (fun ht37 => ?_) (fun ht37 => ?_)
        · refine OL_sil rfl rfl rfl (Sil.move rfl rfl) ?_
          refine OL_loud rfl rfl rfl (LO.lent (r' := srcR b3 (nxt s)) 2 rfl ent21 rfl rfl (Eq.refl [b3]) (fun w _ ho' => Below_gives b3 s 2 (by decide) w ho')) ?_
          rintro _ _ ⟨rfl, rfl⟩
          refine OL_sil rfl rfl rfl (Sil.move rfl rfl) ?_
          refine OL_sil rfl rfl rfl (Sil.eql rfl rfl rfl) ?_
          refine OL_sil rfl rfl rfl (Sil.pick1 rfl rfl rfl) ?_
          refine OL_sil rfl rfl rfl (Sil.move rfl rfl) ?_
          refine OL_dec 43 rfl (fun ht43 => ?_) (fun ht43 => ?_)
          · refine OL_sil rfl rfl rfl (Sil.move rfl rfl) ?_
            refine OL_sil rfl rfl rfl (Sil.neq rfl rfl rfl) ?_
            refine OL_sil rfl rfl rfl (Sil.move rfl rfl) ?_
            refine OL_decn 46 rfl (fun ht46 => ?_) (fun ht46 => ?_)
            · refine OL_skip rfl rfl rfl ?_
              refine OL_skip rfl rfl rfl ?_
              refine OL_skip rfl rfl rfl ?_
              refine OL_skip rfl rfl rfl ?_
              refine OL_skip rfl rfl rfl ?_
              refine OL_sil rfl rfl rfl (Sil.pick1 rfl rfl rfl) ?_
              refine OL_sil rfl rfl rfl (Sil.pick1 rfl rfl rfl) ?_
              refine OL_sil rfl rfl rfl (Sil.assign rfl rfl) ?_
              refine OL_nil ?_
              refine TC_ret ?_
              exact ret1 rfl rfl ⟨rfl, rfl⟩
            · subst ht46
              refine OL_sil rfl rfl rfl (Sil.move rfl rfl) ?_
              refine OL_sil rfl rfl rfl (Sil.move rfl rfl) ?_
              refine OL_sil rfl rfl rfl (Sil.shr (m := 2) rfl rfl rfl (by decide)) ?_
              refine OL_sil rfl rfl rfl (Sil.conv rfl rfl Try.underlying22 Try.underlying3 (wrap_natI (by omega))) ?_
              refine OL_sil rfl rfl rfl (Sil.eql rfl rfl rfl) ?_
              refine OL_sil rfl rfl rfl (Sil.pick0 rfl rfl rfl) ?_
              refine OL_sil rfl rfl rfl (Sil.pick1 rfl rfl rfl) ?_
              refine OL_sil rfl rfl rfl (Sil.assign rfl rfl) ?_
              refine OL_nil ?_
              refine TC_ret ?_
              exact ret1 rfl rfl ⟨congrArg Value.bool (decide_eq_true (by rw [h62])), rfl⟩
          · exact absurd (by rw [h2, if_pos (by omega)]; rfl) ht43
        · exact absurd (hlt (by omega)) ht37
      · omega
    · refine TC_skip ?_
      refine TC_seq ?_
      refine TC_region ?_
      refine OL_sil rfl rfl rfl (Sil.move rfl rfl) ?_
      refine OL_loud rfl rfl rfl (LO.calls rfl ent17 rfl (fun w _ => New_gives s w)) ?_
      rintro _ _ ⟨_, ⟨b3, rfl, rfl⟩, rfl⟩
      refine OL_sil rfl rfl rfl (Sil.assign rfl rfl) ?_
      refine OL_nil ?_
      refine TC_seq ?_
      refine TC_region ?_
      refine OL_sil rfl rfl rfl (Sil.move rfl rfl) ?_
      refine OL_sil rfl rfl rfl (Sil.geq rfl rfl rfl) ?_
      refine OL_sil rfl rfl rfl (Sil.move rfl rfl) ?_
      refine OL_dec 32 rfl (fun ht32 => ?_) (fun ht32 => ?_)
      · refine OL_sil rfl rfl rfl (Sil.move rfl rfl) ?_
        refine OL_sil rfl rfl rfl (Sil.move rfl rfl) ?_
        refine OL_sil rfl rfl rfl (Sil.lss rfl rfl rfl) ?_
        refine OL_sil rfl rfl rfl (Sil.pick1 rfl rfl rfl) ?_
        refine OL_sil rfl rfl rfl (Sil.move rfl rfl) ?_
        refine OL_dec 37 rfl (fun ht37 => ?_) (fun ht37 => ?_)
        · refine OL_sil rfl rfl rfl (Sil.move rfl rfl) ?_
          refine OL_loud rfl rfl rfl (LO.lent (r' := srcR b3 (nxt s)) 2 rfl ent21 rfl rfl (Eq.refl [b3]) (fun w _ ho' => Below_gives b3 s 2 (by decide) w ho')) ?_
          rintro _ _ ⟨rfl, rfl⟩
          refine OL_sil rfl rfl rfl (Sil.move rfl rfl) ?_
          refine OL_sil rfl rfl rfl (Sil.eql rfl rfl rfl) ?_
          refine OL_sil rfl rfl rfl (Sil.pick1 rfl rfl rfl) ?_
          refine OL_sil rfl rfl rfl (Sil.move rfl rfl) ?_
          refine OL_dec 43 rfl (fun ht43 => ?_) (fun ht43 => ?_)
          · refine OL_sil rfl rfl rfl (Sil.move rfl rfl) ?_
            refine OL_sil rfl rfl rfl (Sil.neq rfl rfl rfl) ?_
            refine OL_sil rfl rfl rfl (Sil.move rfl rfl) ?_
            refine OL_decn 46 rfl (fun ht46 => ?_) (fun ht46 => ?_)
            · refine OL_skip rfl rfl rfl ?_
              refine OL_skip rfl rfl rfl ?_
              refine OL_skip rfl rfl rfl ?_
              refine OL_skip rfl rfl rfl ?_
              refine OL_skip rfl rfl rfl ?_
              refine OL_sil rfl rfl rfl (Sil.pick1 rfl rfl rfl) ?_
              refine OL_sil rfl rfl rfl (Sil.pick1 rfl rfl rfl) ?_
              refine OL_sil rfl rfl rfl (Sil.assign rfl rfl) ?_
              refine OL_nil ?_
              refine TC_ret ?_
              exact ret1 rfl rfl ⟨rfl, rfl⟩
            · subst ht46
              refine OL_sil rfl rfl rfl (Sil.move rfl rfl) ?_
              refine OL_sil rfl rfl rfl (Sil.move rfl rfl) ?_
              refine OL_sil rfl rfl rfl (Sil.shr (m := 2) rfl rfl rfl (by decide)) ?_
              refine OL_sil rfl rfl rfl (Sil.conv rfl rfl Try.underlying22 Try.underlying3 (wrap_natI (by omega))) ?_
              refine OL_sil rfl rfl rfl (Sil.eql rfl rfl rfl) ?_
              refine OL_sil rfl rfl rfl (Sil.pick0 rfl rfl rfl) ?_
              refine OL_sil rfl rfl rfl (Sil.pick1 rfl rfl rfl) ?_
              refine OL_sil rfl rfl rfl (Sil.assign rfl rfl) ?_
              refine OL_nil ?_
              refine TC_ret ?_
              exact ret1 rfl rfl ⟨congrArg Value.bool (decide_eq_true (by rw [h62])), rfl⟩
          · exact absurd (by rw [h2, if_neg (by omega)]; rfl) ht43
        · exact absurd (hlt (by omega)) ht37
      · omega

theorem MixDraws_gives (s0 : Nat) (a : Option Addr) (len cap : Nat) (f : Nat → Int) (hs : s0 < 18446744073709551616) (hlen : len ≤ 9223372036854775807) (hf : ∀ i, i < len → f i ≤ 9223372036854775807) (w0 : World) (hd : IntSl w0 a len f) :
    Gives Try.prog 5 [.int .u64 s0, .slice a len cap] w0 [] fun v h => v = .bool true ∧ h = [] := by
  refine gives_of Try.func5 rfl rfl rfl (Own.start w0) ?_
  refine TC_seq ?_
  refine TC_region ?_
  refine OL_sil rfl rfl rfl (Sil.assign rfl rfl) ?_
  refine OL_nil ?_
  refine TC_seq ?_
  refine TC_seq ?_
  refine TC_region ?_
  refine OL_pure rfl rfl rfl (LO.pure rfl ent16 rfl (fun w _ => head_gives w)) ?_
  refine OL_sil rfl rfl rfl (Sil.not rfl rfl) ?_
  refine OL_nil ?_
  refine TC_no rfl ?_
  refine TC_skip ?_
  refine TC_seq ?_
  refine TC_seq ?_
  refine TC_region ?_
  refine OL_sil rfl rfl rfl (Sil.move rfl rfl) ?_
  refine OL_sil rfl rfl rfl (Sil.lenSl rfl rfl Try.underlying30) ?_
  refine OL_sil rfl rfl rfl (Sil.gtr rfl rfl rfl) ?_
  refine OL_nil ?_
  refine TC_if rfl (fun ht18 => ?_) (fun ht18 => ?_)
  · refine TC_seq ?_
    refine TC_region ?_
    refine OL_sil rfl rfl rfl (Sil.assign rfl rfl) ?_
    refine OL_nil ?_
    refine TC_ret ?_
    exact ret1 rfl rfl ⟨rfl, rfl⟩
  · refine TC_skip ?_
    refine TC_seq ?_
    refine TC_region ?_
    refine OL_sil rfl rfl rfl (Sil.move rfl rfl) ?_
    refine OL_loud rfl rfl rfl (LO.calls rfl ent17 rfl (fun w _ => New_gives s0 w)) ?_
    rintro _ _ ⟨_, ⟨b, rfl, rfl⟩, rfl⟩
    refine OL_sil rfl rfl rfl (Sil.assign rfl rfl) ?_
    refine OL_nil ?_
    refine TC_seq ?_
    refine TC_region ?_
    refine OL_sil rfl rfl rfl (Sil.move rfl rfl) ?_
    refine OL_sil rfl rfl rfl (Sil.assign rfl rfl) ?_
    refine OL_nil ?_
    refine TC_seq ?_
    refine TC_seq ?_
    refine TC_region ?_
    refine OL_sil rfl rfl rfl (Sil.move rfl rfl) ?_
    refine OL_sil rfl rfl rfl (Sil.lenSl rfl rfl Try.underlying30) ?_
    refine OL_sil rfl rfl rfl (Sil.move rfl rfl) ?_
    refine OL_nil ?_
    refine TC_block ?_
    refine TC_loop (fun ((i, s) : Nat × Nat) => [(5, .pointer (some ⟨b, 0, none⟩)), (6, .int .u64 s), (22, .slice a len cap), (23, .int .i64 len), (24, .int .i64 i)]) (fun (_, s) => [srcR b s]) (fun (i, s) => i ≤ len ∧ s < 18446744073709551616) (fun (i, _) => len - i) (0, s0) ?_ ?_
    · exact ⟨⟨Nat.zero_le _, hs⟩, ⟨rfl, rfl, rfl, rfl, rfl, trivial⟩, List.Sublist.refl _⟩
    · rintro ⟨i, s⟩ ⟨hi, hsl⟩
      refine TC_seq ?_
      refine TC_region ?_
      refine OL_sil rfl rfl rfl (Sil.lss rfl rfl rfl) ?_
      refine OL_nil ?_
      refine TC_seq ?_
      refine TC_if rfl (fun ht25 => ?_) (fun ht25 => ?_)
      · have hfi := hf i (by omega)
        obtain ⟨x, rfl, hc⟩ := hd i (by omega)
        generalize f i = n at hc hfi
        refine TC_skip ?_
        refine TC_seq ?_
        refine TC_block ?_
        refine TC_seq ?_
        refine TC_region ?_
        refine OL_sil rfl rfl rfl (Sil.move rfl rfl) ?_
        refine OL_sil rfl rfl rfl (Sil.indexSl1 i rfl rfl rfl Try.underlying30 rfl rfl (by omega)) ?_
        refine OL_sil rfl rfl rfl (Sil.old rfl rfl Try.underlying3 rfl hc (by simp)) ?_
        refine OL_sil rfl rfl rfl (Sil.assign rfl rfl) ?_
        refine OL_sil rfl rfl rfl (Sil.assign rfl rfl) ?_
        refine OL_nil ?_
        refine TC_seq ?_
        refine TC_seq ?_
        refine TC_region ?_
        refine OL_sil rfl rfl rfl (Sil.move rfl rfl) ?_
        refine OL_sil rfl rfl rfl (Sil.and (j := 1) rfl rfl rfl (by omega) (by decide)) ?_
        refine OL_sil rfl rfl rfl (Sil.eql rfl rfl rfl) ?_
        refine OL_nil ?_
        refine TC_if rfl (fun ht31 => ?_) (fun ht31 => ?_)
        · refine TC_seq ?_
          refine TC_region ?_
          refine OL_sil rfl rfl rfl (Sil.move rfl rfl) ?_
          refine OL_pure rfl rfl rfl (LO.pure rfl ent19 rfl (fun w _ => refNext_gives s hsl w)) ?_
          refine OL_sil rfl rfl rfl (Sil.move rfl rfl) ?_
          refine OL_sil rfl rfl rfl (Sil.extract rfl rfl rfl) ?_
          refine OL_sil rfl rfl rfl (Sil.extract rfl rfl rfl) ?_
          refine OL_sil rfl rfl rfl (Sil.assign rfl rfl) ?_
          refine OL_sil rfl rfl rfl (Sil.assign rfl rfl) ?_
          refine OL_nil ?_
          refine TC_seq ?_
          refine TC_region ?_
          refine OL_sil rfl rfl rfl (Sil.move rfl rfl) ?_
          refine OL_sil rfl rfl rfl (Sil.assign rfl rfl) ?_
          refine OL_nil ?_
          refine TC_seq ?_
          refine TC_seq ?_
          refine TC_region ?_
          refine OL_sil rfl rfl rfl (Sil.move rfl rfl) ?_
          refine OL_loud rfl rfl rfl (LO.lent (r' := srcR b (nxt s)) 0 rfl ent18 rfl rfl (Eq.refl [b]) (fun w _ ho' => Next_gives b s w ho')) ?_
          rintro _ _ ⟨rfl, rfl⟩
          refine OL_sil rfl rfl rfl (Sil.move rfl rfl) ?_
          refine OL_sil rfl rfl rfl (Sil.neq rfl rfl rfl) ?_
          refine OL_nil ?_
          refine TC_ifn rfl (fun ht41 => ?_) (fun ht41 => ?_)
          · exact absurd rfl ht41
          · refine TC_skip ?_
            refine TC_exit ?_
            refine TC_region ?_
            refine OL_sil rfl rfl rfl (Sil.add rfl rfl rfl (by omega) (by omega)) ?_
            refine OL_sil rfl rfl rfl (Sil.move rfl rfl) ?_
            refine OL_nil ?_
            exact ⟨(i + 1, nxt s), ⟨⟨by omega, nxt_lt s⟩, ⟨rfl, rfl, rfl, rfl, rfl, trivial⟩, List.Sublist.refl _⟩, by show len - (i + 1) < len - i; omega⟩
        · refine TC_skip ?_
          refine TC_seq ?_
          refine TC_region ?_
          refine OL_sil rfl rfl rfl (Sil.move rfl rfl) ?_
          refine OL_sil rfl rfl rfl (Sil.move rfl rfl) ?_
          refine OL_pure rfl rfl rfl (LO.pure rfl ent20 rfl (fun w _ => refBelow_gives s n hsl hfi w)) ?_
          refine OL_sil rfl rfl rfl (Sil.move rfl rfl) ?_
          refine OL_sil rfl rfl rfl (Sil.extract rfl rfl rfl) ?_
          refine OL_sil rfl rfl rfl (Sil.extract rfl rfl rfl) ?_
          refine OL_sil rfl rfl rfl (Sil.assign rfl rfl) ?_
          refine OL_sil rfl rfl rfl (Sil.assign rfl rfl) ?_
          refine OL_nil ?_
          refine TC_seq ?_
          refine TC_region ?_
          refine OL_sil rfl rfl rfl (Sil.move rfl rfl) ?_
          refine OL_sil rfl rfl rfl (Sil.assign rfl rfl) ?_
          refine OL_nil ?_
          refine TC_seq ?_
          refine TC_region ?_
          refine OL_sil rfl rfl rfl (Sil.move rfl rfl) ?_
          refine OL_sil rfl rfl rfl (Sil.move rfl rfl) ?_
          refine OL_loud rfl rfl rfl (LO.lent (r' := srcR b (nxt s)) 0 rfl ent21 rfl rfl (Eq.refl [b]) (fun w _ ho' => Below_gives b s n hfi w ho')) ?_
          rintro _ _ ⟨rfl, rfl⟩
          refine OL_sil rfl rfl rfl (Sil.assign rfl rfl) ?_
          refine OL_nil ?_
          refine TC_seq ?_
          refine TC_region ?_
          refine OL_sil rfl rfl rfl (Sil.move rfl rfl) ?_
          refine OL_sil rfl rfl rfl (Sil.move rfl rfl) ?_
          refine OL_sil rfl rfl rfl (Sil.neq rfl rfl rfl) ?_
          refine OL_sil rfl rfl rfl (Sil.move rfl rfl) ?_
          refine OL_decn 55 rfl (fun ht55 => ?_) (fun ht55 => ?_)
          · exact absurd rfl ht55
          · refine OL_sil rfl rfl rfl (Sil.move rfl rfl) ?_
            refine OL_sil rfl rfl rfl (Sil.lss rfl rfl rfl) ?_
            refine OL_sil rfl rfl rfl (Sil.pick0 rfl rfl rfl) ?_
            refine OL_sil rfl rfl rfl (Sil.move rfl rfl) ?_
            refine OL_dec 59 rfl (fun ht59 => ?_) (fun ht59 => ?_)
            · omega
            · refine OL_sil rfl rfl rfl (Sil.move rfl rfl) ?_
              refine OL_sil rfl rfl rfl (Sil.gtr rfl rfl rfl) ?_
              refine OL_sil rfl rfl rfl (Sil.move rfl rfl) ?_
              refine OL_dec 62 rfl (fun ht62 => ?_) (fun ht62 => ?_)
              · refine OL_sil rfl rfl rfl (Sil.move rfl rfl) ?_
                refine OL_sil rfl rfl rfl (Sil.move rfl rfl) ?_
                refine OL_sil rfl rfl rfl (Sil.geq rfl rfl rfl) ?_
                refine OL_sil rfl rfl rfl (Sil.pick1 rfl rfl rfl) ?_
                refine OL_sil rfl rfl rfl (Sil.pick0 rfl rfl rfl) ?_
                refine OL_nil ?_
                refine TC_if rfl (fun ht67 => ?_) (fun ht67 => ?_)
                · exfalso
                  by_cases h1 : n ≤ 1
                  · have : bel s n = 0 := by unfold bel; rw [if_pos h1]
                    omega
                  · have := bel_lt s n (by omega)
                    omega
                · refine TC_skip ?_
                  refine TC_region ?_
                  refine OL_sil rfl rfl rfl (Sil.add rfl rfl rfl (by omega) (by omega)) ?_
                  refine OL_sil rfl rfl rfl (Sil.move rfl rfl) ?_
                  refine OL_nil ?_
                  exact ⟨(i + 1, nxt s), ⟨⟨by omega, nxt_lt s⟩, ⟨rfl, rfl, rfl, rfl, rfl, trivial⟩, List.Sublist.refl _⟩, by show len - (i + 1) < len - i; omega⟩
              · refine OL_skip rfl rfl rfl ?_
                refine OL_skip rfl rfl rfl ?_
                refine OL_skip rfl rfl rfl ?_
                refine OL_sil rfl rfl rfl (Sil.pick0 rfl rfl rfl) ?_
                refine OL_sil rfl rfl rfl (Sil.pick0 rfl rfl rfl) ?_
                refine OL_nil ?_
                refine TC_no rfl ?_
                refine TC_skip ?_
                refine TC_region ?_
                refine OL_sil rfl rfl rfl (Sil.add rfl rfl rfl (by omega) (by omega)) ?_
                refine OL_sil rfl rfl rfl (Sil.move rfl rfl) ?_
                refine OL_nil ?_
                exact ⟨(i + 1, nxt s), ⟨⟨by omega, nxt_lt s⟩, ⟨rfl, rfl, rfl, rfl, rfl, trivial⟩, List.Sublist.refl _⟩, by show len - (i + 1) < len - i; omega⟩
      · refine TC_exit ?_
        refine TC_seq ?_
        refine TC_region ?_
        refine OL_sil rfl rfl rfl (Sil.assign rfl rfl) ?_
        refine OL_nil ?_
        refine TC_ret ?_
        exact ret1 rfl rfl ⟨rfl, rfl⟩
end Go.Proofs.Ytccmgmjfcfacoaa
