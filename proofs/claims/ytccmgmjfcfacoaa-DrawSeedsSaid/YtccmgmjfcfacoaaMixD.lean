/-
  Walks: the reference's stirring and draws, the program's source.
-/
import Derived.Test.YtccmgmjfcfacoaaMixC
namespace Go.Proofs.Ytccmgmjfcfacoaa
open Go.Cru

theorem Mul_gives (f g : Nat → Nat) (hf : ∀ t, t < 4 → f t < 65536) (hg : ∀ t, t < 4 → g t < 65536) (w0 : World) : Gives Try.prog 35 [.agg (cells4 f), .agg (cells4 g)] w0 [] fun v h => v = .agg (cells4 (dig (S4 f * S4 g))) ∧ h = [] := by
  have hall : ∀ w, Gives Try.prog 38 [.agg (cells4 f), .agg (cells4 g)] w [] fun v h => v = .agg (cells8 (dig (S4 f * S4 g))) ∧ h = [] := fun w => all_gives f g hf hg w
  generalize dig (S4 f * S4 g) = d at hall ⊢
  refine gives_of Try.func35 rfl rfl rfl (Own.start w0) ?_
  refine TC_seq ?_
  refine TC_region ?_
  refine OL_loud rfl rfl rfl (LO.box rfl rfl) ?_
  rintro _ _ ⟨bf, hbf, rfl, rfl⟩
  refine OL_loud rfl rfl rfl (LO.box rfl rfl) ?_
  rintro _ _ ⟨bg, hbg, rfl, rfl⟩
  refine OL_loud rfl rfl rfl (LO.alloc rfl rfl) ?_
  rintro _ _ ⟨br, hbr, rfl, rfl⟩
  refine OL_nil ?_
  refine TC_seq ?_
  refine TC_region ?_
  refine OL_sil rfl rfl rfl (Sil.whole 0 rfl rfl rfl ⟨Try.underlying69, rfl⟩ rfl rfl) ?_
  refine OL_sil rfl rfl rfl (Sil.whole 1 rfl rfl rfl ⟨Try.underlying69, rfl⟩ rfl rfl) ?_
  refine OL_pure rfl rfl rfl (LO.pure rfl ent38 rfl (fun w _ => hall w)) ?_
  refine OL_loud rfl rfl rfl (LO.alloc rfl rfl) ?_
  rintro _ _ ⟨bp, hbp, rfl, rfl⟩
  refine OL_loud0 rfl rfl (LO.storeAs 3 (cells8 d) rfl rfl rfl rfl rfl rfl (oneC_cells8 _) (by decide) (put8 (fun _ => 0) d)) ?_
  rintro _ _ ⟨rfl, rfl⟩
  refine OL_nil ?_
  refine TC_seq ?_
  refine TC_region ?_
  refine OL_sil rfl rfl rfl (Sil.indexLoc1 0 rfl rfl rfl Try.underlying74 rfl rfl (by decide)) ?_
  refine OL_sil rfl rfl rfl (Sil.own 3 rfl rfl rfl Try.underlying22 rfl (cells8_at _ 0 (by decide))) ?_
  refine OL_sil rfl rfl rfl (Sil.indexLoc1 1 rfl rfl rfl Try.underlying74 rfl rfl (by decide)) ?_
  refine OL_sil rfl rfl rfl (Sil.own 3 rfl rfl rfl Try.underlying22 rfl (cells8_at _ 1 (by decide))) ?_
  refine OL_sil rfl rfl rfl (Sil.indexLoc1 2 rfl rfl rfl Try.underlying74 rfl rfl (by decide)) ?_
  refine OL_sil rfl rfl rfl (Sil.own 3 rfl rfl rfl Try.underlying22 rfl (cells8_at _ 2 (by decide))) ?_
  refine OL_sil rfl rfl rfl (Sil.indexLoc1 3 rfl rfl rfl Try.underlying74 rfl rfl (by decide)) ?_
  refine OL_sil rfl rfl rfl (Sil.own 3 rfl rfl rfl Try.underlying22 rfl (cells8_at _ 3 (by decide))) ?_
  refine OL_sil rfl rfl rfl (Sil.build (vs := [(0, .int .u64 (d 0)), (1, .int .u64 (d 1)), (2, .int .u64 (d 2)), (3, .int .u64 (d 3))]) (cs := cells4 (d)) rfl rfl (fun _ => rfl)) ?_
  refine OL_loud0 rfl rfl (LO.storeAs 2 (cells4 (d)) rfl rfl rfl rfl rfl rfl (oneC_cells4 _) (by decide) (put4 (fun _ => 0) _)) ?_
  rintro _ _ ⟨rfl, rfl⟩
  refine OL_nil ?_
  refine TC_ret ?_
  exact retC 2 rfl rfl rfl ⟨Try.underlying69, rfl⟩ rfl rfl (List.nil_sublist _) ⟨rfl, rfl⟩

theorem refStir_gives (x : Nat) (hx : x < 18446744073709551616) (w0 : World) : Gives Try.prog 15 [.int .u64 x] w0 [] fun v h => v = .int .u64 (stir x) ∧ h = [] := by
  have hx1 := xor_lt hx (div_lt (m := 2 ^ 30) hx)
  have e1 := S4_dig_mod ((x ^^^ x / 2 ^ 30) * 13787848793156543929)
  obtain ⟨y, hy⟩ : ∃ y, y = (x ^^^ x / 2 ^ 30) * 13787848793156543929 % 18446744073709551616 := ⟨_, rfl⟩
  have hyl : y < 18446744073709551616 := by rw [hy]; exact Nat.mod_lt _ (by decide)
  have hy1 := xor_lt hyl (div_lt (m := 2 ^ 27) hyl)
  have e2 := S4_dig_mod ((y ^^^ y / 2 ^ 27) * 10723151780598845931)
  refine gives_of Try.func15 rfl rfl rfl (Own.start w0) ?_
  refine TC_seq ?_
  refine TC_region ?_
  refine OL_sil rfl rfl rfl (Sil.assign (v := .int .u64 ((0 : Nat) : Int)) rfl rfl) ?_
  refine OL_nil ?_
  refine TC_seq ?_
  refine TC_region ?_
  refine OL_sil rfl rfl rfl (Sil.move rfl rfl) ?_
  refine OL_pure rfl rfl rfl (LO.pure rfl ent33 rfl (fun w _ => over_gives x 30 hx (by decide) w)) ?_
  refine OL_sil rfl rfl rfl (Sil.assign rfl rfl) ?_
  refine OL_nil ?_
  refine TC_seq ?_
  refine TC_region ?_
  refine OL_sil rfl rfl rfl (Sil.move rfl rfl) ?_
  refine OL_pure rfl rfl rfl (LO.pure rfl ent36 rfl (fun w _ => Of_gives _ hx1 w)) ?_
  refine OL_pure rfl rfl rfl (LO.pure rfl ent36 rfl (fun w _ => Of_gives 13787848793156543929 (by decide) w)) ?_
  refine OL_pure rfl rfl rfl (LO.pure rfl ent35 rfl (fun w _ => Mul_gives (dig _) (dig _) (fun t _ => dig_lt _ t) (fun t _ => dig_lt _ t) w)) ?_
  refine OL_pure rfl rfl rfl (LO.pure rfl ent34 rfl (fun w _ => To_gives _ (fun t _ => dig_lt _ t) w)) ?_
  refine OL_sil rfl rfl rfl (Sil.assign rfl rfl) ?_
  refine OL_nil ?_
  refine TC_slot 0 (v := .int .u64 (y : Int)) rfl (by rw [S4_dig _ hx1, S4_dig 13787848793156543929 (by decide), e1, hy]) ?_
  refine TC_seq ?_
  refine TC_region ?_
  refine OL_sil rfl rfl rfl (Sil.move rfl rfl) ?_
  refine OL_pure rfl rfl rfl (LO.pure rfl ent33 rfl (fun w _ => over_gives y 27 hyl (by decide) w)) ?_
  refine OL_sil rfl rfl rfl (Sil.assign rfl rfl) ?_
  refine OL_nil ?_
  refine TC_seq ?_
  refine TC_region ?_
  refine OL_sil rfl rfl rfl (Sil.move rfl rfl) ?_
  refine OL_pure rfl rfl rfl (LO.pure rfl ent36 rfl (fun w _ => Of_gives _ hy1 w)) ?_
  refine OL_pure rfl rfl rfl (LO.pure rfl ent36 rfl (fun w _ => Of_gives 10723151780598845931 (by decide) w)) ?_
  refine OL_pure rfl rfl rfl (LO.pure rfl ent35 rfl (fun w _ => Mul_gives (dig _) (dig _) (fun t _ => dig_lt _ t) (fun t _ => dig_lt _ t) w)) ?_
  refine OL_pure rfl rfl rfl (LO.pure rfl ent34 rfl (fun w _ => To_gives _ (fun t _ => dig_lt _ t) w)) ?_
  refine OL_sil rfl rfl rfl (Sil.assign rfl rfl) ?_
  refine OL_nil ?_
  refine TC_slot 0 (v := .int .u64 (((y ^^^ y / 2 ^ 27) * 10723151780598845931 % 18446744073709551616 : Nat) : Int)) rfl (by rw [S4_dig _ hy1, S4_dig 10723151780598845931 (by decide), e2]) ?_
  refine TC_seq ?_
  refine TC_region ?_
  refine OL_sil rfl rfl rfl (Sil.move rfl rfl) ?_
  refine OL_pure rfl rfl rfl (LO.pure rfl ent33 rfl (fun w _ => over_gives _ 31 (Nat.mod_lt _ (by decide)) (by decide) w)) ?_
  refine OL_sil rfl rfl rfl (Sil.assign rfl rfl) ?_
  refine OL_nil ?_
  refine TC_ret ?_
  exact ret1 rfl rfl ⟨by rw [hy]; rfl, rfl⟩

/-- The state behind a draw. -/
def nxt (s : Nat) : Nat := (s + 11400714819323198485) % 18446744073709551616
theorem nxt_lt (s : Nat) : nxt s < 18446744073709551616 := Nat.mod_lt _ (by decide)
theorem refNext_gives (s : Nat) (hs : s < 18446744073709551616) (w0 : World) : Gives Try.prog 19 [.int .u64 s] w0 [] fun v h => v = .tuple #[.int .u64 (nxt s), .int .u64 (stir (nxt s))] ∧ h = [] := by
  refine gives_of Try.func19 rfl rfl rfl (Own.start w0) ?_
  refine TC_seq ?_
  refine TC_region ?_
  refine OL_sil rfl rfl rfl (Sil.assign (v := .int .u64 ((0 : Nat) : Int)) rfl rfl) ?_
  refine OL_sil rfl rfl rfl (Sil.assign (v := .int .u64 ((0 : Nat) : Int)) rfl rfl) ?_
  refine OL_nil ?_
  refine TC_seq ?_
  refine TC_region ?_
  refine OL_sil rfl rfl rfl (Sil.move rfl rfl) ?_
  refine OL_pure rfl rfl rfl (LO.pure rfl ent36 rfl (fun w _ => Of_gives s hs w)) ?_
  refine OL_pure rfl rfl rfl (LO.pure rfl ent36 rfl (fun w _ => Of_gives 11400714819323198485 (by decide) w)) ?_
  refine OL_pure rfl rfl rfl (LO.pure rfl ent37 rfl (fun w _ => Add_gives (dig _) (dig _) (fun t _ => dig_lt _ t) (fun t _ => dig_lt _ t) w)) ?_
  refine OL_pure rfl rfl rfl (LO.pure rfl ent34 rfl (fun w _ => To_gives _ (fun t _ => dig_lt _ t) w)) ?_
  refine OL_sil rfl rfl rfl (Sil.assign rfl rfl) ?_
  refine OL_nil ?_
  refine TC_slot 4 (v := .int .u64 (nxt s : Int)) rfl (by rw [S4_dig_mod, S4_dig _ hs, S4_dig 11400714819323198485 (by decide)]; rfl) ?_
  refine TC_seq ?_
  refine TC_region ?_
  refine OL_sil rfl rfl rfl (Sil.move rfl rfl) ?_
  refine OL_sil rfl rfl rfl (Sil.move rfl rfl) ?_
  refine OL_pure rfl rfl rfl (LO.pure rfl ent15 rfl (fun w _ => refStir_gives _ (nxt_lt s) w)) ?_
  refine OL_sil rfl rfl rfl (Sil.assign rfl rfl) ?_
  refine OL_sil rfl rfl rfl (Sil.assign rfl rfl) ?_
  refine OL_nil ?_
  refine TC_ret ?_
  exact ret2 rfl rfl rfl ⟨rfl, rfl⟩

/-- A draw below n. -/
def bel (s : Nat) (n : Int) : Nat := if n ≤ 1 then 0 else stir (nxt s) * n.toNat / 18446744073709551616
theorem mul_div_lt {x n : Nat} (hx : x < 18446744073709551616) (hn : 0 < n) : x * n / 18446744073709551616 < n := by
  rw [Nat.div_lt_iff_lt_mul (by decide), Nat.mul_comm]
  exact Nat.mul_lt_mul_of_pos_left hx hn
theorem bel_lt (s : Nat) (n : Int) (hn : 1 < n) : (bel s n : Int) < n := by
  unfold bel
  rw [if_neg (by omega)]
  have := mul_div_lt (stir_lt (nxt s)) (show 0 < n.toNat by omega)
  omega
theorem refBelow_gives (s : Nat) (n : Int) (hs : s < 18446744073709551616) (hn : n ≤ 9223372036854775807) (w0 : World) : Gives Try.prog 20 [.int .u64 s, .int .i64 n] w0 [] fun v h => v = .tuple #[.int .u64 (nxt s), .int .i64 (bel s n)] ∧ h = [] := by
  refine gives_of Try.func20 rfl rfl rfl (Own.start w0) ?_
  refine TC_seq ?_
  refine TC_region ?_
  refine OL_sil rfl rfl rfl (Sil.assign (v := .int .u64 ((0 : Nat) : Int)) rfl rfl) ?_
  refine OL_sil rfl rfl rfl (Sil.assign rfl rfl) ?_
  refine OL_nil ?_
  refine TC_seq ?_
  refine TC_region ?_
  refine OL_sil rfl rfl rfl (Sil.move rfl rfl) ?_
  refine OL_pure rfl rfl rfl (LO.pure rfl ent19 rfl (fun w _ => refNext_gives s hs w)) ?_
  refine OL_sil rfl rfl rfl (Sil.move rfl rfl) ?_
  refine OL_sil rfl rfl rfl (Sil.extract rfl rfl rfl) ?_
  refine OL_sil rfl rfl rfl (Sil.extract rfl rfl rfl) ?_
  refine OL_sil rfl rfl rfl (Sil.assign rfl rfl) ?_
  refine OL_sil rfl rfl rfl (Sil.assign rfl rfl) ?_
  refine OL_nil ?_
  refine TC_seq ?_
  refine TC_seq ?_
  refine TC_region ?_
  refine OL_sil rfl rfl rfl (Sil.move rfl rfl) ?_
  refine OL_sil rfl rfl rfl (Sil.leq rfl rfl rfl) ?_
  refine OL_nil ?_
  refine TC_if rfl (fun ht15 => ?_) (fun ht15 => ?_)
  · refine TC_seq ?_
    refine TC_region ?_
    refine OL_sil rfl rfl rfl (Sil.move rfl rfl) ?_
    refine OL_sil rfl rfl rfl (Sil.assign rfl rfl) ?_
    refine OL_sil rfl rfl rfl (Sil.assign rfl rfl) ?_
    refine OL_nil ?_
    refine TC_ret ?_
    exact ret2 rfl rfl rfl ⟨by unfold bel; rw [if_pos ht15]; rfl, rfl⟩
  · obtain ⟨m, rfl⟩ := Int.eq_ofNat_of_zero_le (show 0 ≤ n by omega)
    have hlt := mul_div_lt (stir_lt (nxt s)) (show 0 < m by omega)
    have hb : bel s m = stir (nxt s) * m / 18446744073709551616 := by unfold bel; rw [if_neg ht15, Int.toNat_natCast]
    have hm64 := mul64 (stir_lt (nxt s)) (show m < 18446744073709551616 by omega)
    obtain ⟨x, hx⟩ : ∃ x, x = stir (nxt s) := ⟨_, rfl⟩
    have hxl : x < 18446744073709551616 := by rw [hx]; exact stir_lt _
    rw [← hx] at hlt hb hm64 ⊢
    have hall : ∀ w, Gives Try.prog 38 [.agg (cells4 (dig x)), .agg (cells4 (dig m))] w [] fun v h => v = .agg (cells8 (dig (x * m))) ∧ h = [] := fun w => by
      have := all_gives (dig x) (dig m) (fun t _ => dig_lt _ t) (fun t _ => dig_lt _ t) w
      rwa [S4_dig _ hxl, S4_dig _ (by omega)] at this
    have hhigh := S4_dig_high _ hm64
    have hd := fun t => dig_lt (x * m) t
    generalize dig (x * m) = d at hall hhigh hd
    refine TC_skip ?_
    refine TC_seq ?_
    refine TC_region ?_
    refine OL_sil rfl rfl rfl (Sil.move rfl rfl) ?_
    refine OL_pure rfl rfl rfl (LO.pure rfl ent36 rfl (fun w _ => Of_gives _ hxl w)) ?_
    refine OL_sil rfl rfl rfl (Sil.move rfl rfl) ?_
    refine OL_sil rfl rfl rfl (Sil.conv rfl rfl Try.underlying3 Try.underlying22 (wrap_nat (by omega))) ?_
    refine OL_pure rfl rfl rfl (LO.pure rfl ent36 rfl (fun w _ => Of_gives m (by omega) w)) ?_
    refine OL_pure rfl rfl rfl (LO.pure rfl ent38 rfl (fun w _ => hall w)) ?_
    refine OL_loud rfl rfl rfl (LO.alloc rfl rfl) ?_
    rintro _ _ ⟨bp, hbp, rfl, rfl⟩
    refine OL_loud0 rfl rfl (LO.storeAs 0 (cells8 d) rfl rfl rfl rfl rfl rfl (oneC_cells8 _) (by decide) (put8 (fun _ => 0) _)) ?_
    rintro _ _ ⟨rfl, rfl⟩
    refine OL_nil ?_
    refine TC_seq ?_
    refine TC_region ?_
    refine OL_sil rfl rfl rfl (Sil.move rfl rfl) ?_
    refine OL_sil rfl rfl rfl (Sil.indexLoc1 4 rfl rfl rfl Try.underlying74 rfl rfl (by decide)) ?_
    refine OL_sil rfl rfl rfl (Sil.own 0 rfl rfl rfl Try.underlying22 rfl (cells8_at _ 4 (by decide))) ?_
    refine OL_sil rfl rfl rfl (Sil.indexLoc1 5 rfl rfl rfl Try.underlying74 rfl rfl (by decide)) ?_
    refine OL_sil rfl rfl rfl (Sil.own 0 rfl rfl rfl Try.underlying22 rfl (cells8_at _ 5 (by decide))) ?_
    refine OL_sil rfl rfl rfl (Sil.indexLoc1 6 rfl rfl rfl Try.underlying74 rfl rfl (by decide)) ?_
    refine OL_sil rfl rfl rfl (Sil.own 0 rfl rfl rfl Try.underlying22 rfl (cells8_at _ 6 (by decide))) ?_
    refine OL_sil rfl rfl rfl (Sil.indexLoc1 7 rfl rfl rfl Try.underlying74 rfl rfl (by decide)) ?_
    refine OL_sil rfl rfl rfl (Sil.own 0 rfl rfl rfl Try.underlying22 rfl (cells8_at _ 7 (by decide))) ?_
    refine OL_sil rfl rfl rfl (Sil.build (vs := [(0, .int .u64 (d 4)), (1, .int .u64 (d 5)), (2, .int .u64 (d 6)), (3, .int .u64 (d 7))]) (cs := cells4 fun t => d (4 + t)) rfl rfl (fun _ => rfl)) ?_
    refine OL_pure rfl rfl rfl (LO.pure rfl ent34 rfl (fun w _ => To_gives (fun t => d (4 + t)) (fun t _ => hd _) w)) ?_
    refine OL_sil rfl rfl rfl (Sil.conv rfl rfl Try.underlying22 Try.underlying3 (wrap_natI (by rw [hhigh]; omega))) ?_
    refine OL_sil rfl rfl rfl (Sil.assign rfl rfl) ?_
    refine OL_sil rfl rfl rfl (Sil.assign rfl rfl) ?_
    refine OL_nil ?_
    refine TC_ret ?_
    exact ret2 rfl rfl rfl ⟨by rw [hhigh, hb], rfl⟩
end Go.Proofs.Ytccmgmjfcfacoaa
