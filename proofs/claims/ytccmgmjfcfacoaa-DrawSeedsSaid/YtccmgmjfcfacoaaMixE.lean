/-
  Walks: math/bits.Mul64, the program's source of draws.
-/
import Derived.Test.YtccmgmjfcfacoaaMixD
namespace Go.Proofs.Ytccmgmjfcfacoaa
open Go.Cru

theorem mul32 {a b : Nat} (ha : a < 4294967296) (hb : b < 4294967296) : a * b ≤ 18446744065119617025 :=
  Nat.mul_le_mul (Nat.le_of_lt_succ ha) (Nat.le_of_lt_succ hb)
theorem and32 (x : Nat) : x &&& 4294967295 = x % 4294967296 := Nat.and_two_pow_sub_one_eq_mod x 32
theorem parts32 (x1 x0 y1 y0 : Nat) : (x1 * 4294967296 + x0) * (y1 * 4294967296 + y0) = x1 * y1 * 18446744073709551616 + x1 * y0 * 4294967296 + x0 * y1 * 4294967296 + x0 * y0 := by
  have e1 : x1 * 4294967296 * (y1 * 4294967296) = x1 * y1 * 18446744073709551616 := by rw [Nat.mul_mul_mul_comm]
  have e2 : x1 * 4294967296 * y0 = x1 * y0 * 4294967296 := Nat.mul_right_comm _ _ _
  have e3 : x0 * (y1 * 4294967296) = x0 * y1 * 4294967296 := (Nat.mul_assoc _ _ _).symm
  rw [Nat.add_mul, Nat.mul_add, Nat.mul_add, e1, e2, e3]
  omega
theorem Mul64_gives (x y : Nat) (hx : x < 18446744073709551616) (hy : y < 18446744073709551616) (w0 : World) : Gives Try.prog 39 [.int .u64 x, .int .u64 y] w0 [] fun v h => v = .tuple #[.int .u64 ((x * y / 18446744073709551616 : Nat) : Int), .int .u64 ((x * y % 18446744073709551616 : Nat) : Int)] ∧ h = [] := by
  obtain ⟨x0, hx0⟩ : ∃ a, a = x % 4294967296 := ⟨_, rfl⟩
  obtain ⟨x1, hx1⟩ : ∃ a, a = x / 2 ^ 32 := ⟨_, rfl⟩
  obtain ⟨y0, hy0⟩ : ∃ a, a = y % 4294967296 := ⟨_, rfl⟩
  obtain ⟨y1, hy1⟩ : ∃ a, a = y / 2 ^ 32 := ⟨_, rfl⟩
  have lx0 : x0 < 4294967296 := by omega
  have lx1 : x1 < 4294967296 := by omega
  have ly0 : y0 < 4294967296 := by omega
  have ly1 : y1 < 4294967296 := by omega
  have p00 := mul32 lx0 ly0
  have p01 := mul32 lx0 ly1
  have p10 := mul32 lx1 ly0
  have p11 := mul32 lx1 ly1
  have hxy : x * y = x1 * y1 * 18446744073709551616 + x1 * y0 * 4294967296 + x0 * y1 * 4294967296 + x0 * y0 := by
    rw [← parts32, show x1 * 4294967296 + x0 = x from by omega, show y1 * 4294967296 + y0 = y from by omega]
  refine gives_of Try.func39 rfl rfl rfl (Own.start w0) ?_
  refine TC_seq ?_
  refine TC_region ?_
  refine OL_sil rfl rfl rfl (Sil.assign (v := .int .u64 ((0 : Nat) : Int)) rfl rfl) ?_
  refine OL_sil rfl rfl rfl (Sil.assign (v := .int .u64 ((0 : Nat) : Int)) rfl rfl) ?_
  refine OL_nil ?_
  refine TC_seq ?_
  refine TC_region ?_
  refine OL_sil rfl rfl rfl (Sil.move rfl rfl) ?_
  refine OL_sil rfl rfl rfl (Sil.andu (j := 4294967295) rfl rfl rfl (by omega) (by omega)) ?_
  refine OL_sil rfl rfl rfl (Sil.assign rfl rfl) ?_
  refine OL_nil ?_
  refine TC_seq ?_
  refine TC_region ?_
  refine OL_sil rfl rfl rfl (Sil.move rfl rfl) ?_
  refine OL_sil rfl rfl rfl (Sil.shr (m := 32) rfl rfl rfl (by decide)) ?_
  refine OL_sil rfl rfl rfl (Sil.assign rfl rfl) ?_
  refine OL_nil ?_
  refine TC_seq ?_
  refine TC_region ?_
  refine OL_sil rfl rfl rfl (Sil.move rfl rfl) ?_
  refine OL_sil rfl rfl rfl (Sil.andu (j := 4294967295) rfl rfl rfl (by omega) (by omega)) ?_
  refine OL_sil rfl rfl rfl (Sil.assign rfl rfl) ?_
  refine OL_nil ?_
  refine TC_seq ?_
  refine TC_region ?_
  refine OL_sil rfl rfl rfl (Sil.move rfl rfl) ?_
  refine OL_sil rfl rfl rfl (Sil.shr (m := 32) rfl rfl rfl (by decide)) ?_
  refine OL_sil rfl rfl rfl (Sil.assign rfl rfl) ?_
  refine OL_nil ?_
  refine TC_slot 6 (v := .int .u64 (x0 : Int)) rfl (by rw [and32, hx0]) ?_
  refine TC_slot 7 (v := .int .u64 (x1 : Int)) rfl (by rw [hx1]) ?_
  refine TC_slot 8 (v := .int .u64 (y0 : Int)) rfl (by rw [and32, hy0]) ?_
  refine TC_slot 9 (v := .int .u64 (y1 : Int)) rfl (by rw [hy1]) ?_
  refine TC_seq ?_
  refine TC_region ?_
  refine OL_sil rfl rfl rfl (Sil.move rfl rfl) ?_
  refine OL_sil rfl rfl rfl (Sil.move rfl rfl) ?_
  refine OL_sil rfl rfl rfl (Sil.mulun rfl rfl rfl (by omega)) ?_
  refine OL_sil rfl rfl rfl (Sil.assign rfl rfl) ?_
  refine OL_nil ?_
  refine TC_seq ?_
  refine TC_region ?_
  refine OL_sil rfl rfl rfl (Sil.move rfl rfl) ?_
  refine OL_sil rfl rfl rfl (Sil.move rfl rfl) ?_
  refine OL_sil rfl rfl rfl (Sil.mulun rfl rfl rfl (by omega)) ?_
  refine OL_sil rfl rfl rfl (Sil.move rfl rfl) ?_
  refine OL_sil rfl rfl rfl (Sil.shr (m := 32) rfl rfl rfl (by decide)) ?_
  refine OL_sil rfl rfl rfl (Sil.addun rfl rfl rfl (by omega)) ?_
  refine OL_sil rfl rfl rfl (Sil.assign rfl rfl) ?_
  refine OL_nil ?_
  refine TC_seq ?_
  refine TC_region ?_
  refine OL_sil rfl rfl rfl (Sil.move rfl rfl) ?_
  refine OL_sil rfl rfl rfl (Sil.andu (j := 4294967295) rfl rfl rfl (by omega) (by omega)) ?_
  refine OL_sil rfl rfl rfl (Sil.assign rfl rfl) ?_
  refine OL_nil ?_
  refine TC_seq ?_
  refine TC_region ?_
  refine OL_sil rfl rfl rfl (Sil.move rfl rfl) ?_
  refine OL_sil rfl rfl rfl (Sil.shr (m := 32) rfl rfl rfl (by decide)) ?_
  refine OL_sil rfl rfl rfl (Sil.assign rfl rfl) ?_
  refine OL_nil ?_
  refine TC_slot 12 (v := .int .u64 (((x1 * y0 + x0 * y0 / 4294967296) % 4294967296 : Nat) : Int)) rfl (by rw [and32]) ?_
  refine TC_seq ?_
  refine TC_region ?_
  refine OL_sil rfl rfl rfl (Sil.move rfl rfl) ?_
  refine OL_sil rfl rfl rfl (Sil.move rfl rfl) ?_
  refine OL_sil rfl rfl rfl (Sil.move rfl rfl) ?_
  refine OL_sil rfl rfl rfl (Sil.mulun rfl rfl rfl (by omega)) ?_
  refine OL_sil rfl rfl rfl (Sil.addun rfl rfl rfl (by omega)) ?_
  refine OL_sil rfl rfl rfl (Sil.assign rfl rfl) ?_
  refine OL_nil ?_
  refine TC_seq ?_
  refine TC_region ?_
  refine OL_sil rfl rfl rfl (Sil.move rfl rfl) ?_
  refine OL_sil rfl rfl rfl (Sil.move rfl rfl) ?_
  refine OL_sil rfl rfl rfl (Sil.mulun rfl rfl rfl (by omega)) ?_
  refine OL_sil rfl rfl rfl (Sil.move rfl rfl) ?_
  refine OL_sil rfl rfl rfl (Sil.addun rfl rfl rfl (by omega)) ?_
  refine OL_sil rfl rfl rfl (Sil.move rfl rfl) ?_
  refine OL_sil rfl rfl rfl (Sil.shr (m := 32) rfl rfl rfl (by decide)) ?_
  refine OL_sil rfl rfl rfl (Sil.addun rfl rfl rfl (by omega)) ?_
  refine OL_sil rfl rfl rfl (Sil.assign rfl rfl) ?_
  refine OL_nil ?_
  refine TC_seq ?_
  refine TC_region ?_
  refine OL_sil rfl rfl rfl (Sil.move rfl rfl) ?_
  refine OL_sil rfl rfl rfl (Sil.move rfl rfl) ?_
  refine OL_sil rfl rfl rfl (Sil.mulu rfl rfl rfl) ?_
  refine OL_sil rfl rfl rfl (Sil.assign rfl rfl) ?_
  refine OL_nil ?_
  refine TC_slot 4 (v := .int .u64 ((x * y / 18446744073709551616 : Nat) : Int)) rfl (congrArg (fun z : Nat => Value.int .u64 (z : Int)) (by omega)) ?_
  refine TC_ret ?_
  exact ret2 rfl rfl rfl ⟨rfl, rfl⟩

/-- A source in block b, its state s. -/
def srcR (b s : Nat) : Res := blk b (.cells #[.int .u64 s] 73 (0, 0))
theorem New_gives (s : Nat) (w0 : World) : Gives Try.prog 17 [.int .u64 s] w0 [] fun v h => ∃ b, v = .pointer (some ⟨b, 0, none⟩) ∧ h = [srcR b s] := by
  refine gives_of Try.func17 rfl rfl rfl (Own.start w0) ?_
  refine TC_seq ?_
  refine TC_region ?_
  refine OL_sil rfl rfl rfl (Sil.assign rfl rfl) ?_
  refine OL_nil ?_
  refine TC_seq ?_
  refine TC_region ?_
  refine OL_sil rfl rfl rfl (Sil.move rfl rfl) ?_
  refine OL_sil rfl rfl rfl (Sil.buildS (vs := [(0, .int .u64 s)]) (cs := #[.int .u64 s]) (ss := [1]) rfl rfl Try.underlying73 rfl rfl rfl) ?_
  refine OL_loud rfl rfl rfl (LO.box rfl rfl) ?_
  rintro _ _ ⟨b, hb, rfl, rfl⟩
  refine OL_sil rfl rfl rfl (Sil.assign rfl rfl) ?_
  refine OL_nil ?_
  refine TC_ret ?_
  exact ret1h rfl rfl (List.Sublist.refl _) ⟨b, rfl, rfl⟩

theorem Next_gives (b s : Nat) (w0 : World) (ho : Own w0 [b] [srcR b s] w0) : Gives Try.prog 18 [.pointer (some ⟨b, 0, none⟩)] w0 [b] fun v h => v = .int .u64 (stir (nxt s)) ∧ h = [srcR b (nxt s)] := by
  refine gives_of Try.func18 rfl rfl rfl ho ?_
  refine TC_seq ?_
  refine TC_region ?_
  refine OL_sil rfl rfl rfl (Sil.assign (v := .int .u64 ((0 : Nat) : Int)) rfl rfl) ?_
  refine OL_nil ?_
  refine TC_seq ?_
  refine TC_seq ?_
  refine TC_region ?_
  refine OL_sil rfl rfl rfl (Sil.move rfl rfl) ?_
  refine OL_sil rfl rfl rfl (Sil.eqlNil rfl rfl rfl Try.underlying26) ?_
  refine OL_nil ?_
  refine TC_no rfl ?_
  refine TC_skip ?_
  refine TC_seq ?_
  refine TC_region ?_
  refine OL_sil rfl rfl rfl (Sil.move rfl rfl) ?_
  refine OL_sil rfl rfl rfl (Sil.nilCheck rfl rfl) ?_
  refine OL_sil rfl rfl rfl (Sil.fieldLoc 0 rfl rfl Try.underlying73 rfl rfl) ?_
  refine OL_sil rfl rfl rfl (Sil.ownL 0 rfl rfl rfl Try.underlying22 rfl rfl) ?_
  refine OL_sil rfl rfl rfl (Sil.addu (j := 11400714819323198485) rfl rfl rfl) ?_
  refine OL_sil rfl rfl rfl (Sil.nilCheck rfl rfl) ?_
  refine OL_sil rfl rfl rfl (Sil.fieldLoc 0 rfl rfl Try.underlying73 rfl rfl) ?_
  refine OL_loud0 rfl rfl (LO.storeAs 0 #[.int .u64 (nxt s)] rfl rfl rfl rfl rfl rfl (oneC_int _ _) (Nat.le_refl 1) rfl) ?_
  rintro _ _ ⟨rfl, rfl⟩
  refine OL_nil ?_
  refine TC_seq ?_
  refine TC_region ?_
  refine OL_sil rfl rfl rfl (Sil.move rfl rfl) ?_
  refine OL_sil rfl rfl rfl (Sil.nilCheck rfl rfl) ?_
  refine OL_sil rfl rfl rfl (Sil.fieldLoc 0 rfl rfl Try.underlying73 rfl rfl) ?_
  refine OL_sil rfl rfl rfl (Sil.ownL 0 rfl rfl rfl Try.underlying22 rfl rfl) ?_
  refine OL_pure rfl rfl rfl (LO.pure rfl ent14 rfl (fun w _ => stir_gives _ (nxt_lt s) w)) ?_
  refine OL_sil rfl rfl rfl (Sil.assign rfl rfl) ?_
  refine OL_nil ?_
  refine TC_ret ?_
  exact ret1h rfl rfl (List.Sublist.refl _) ⟨rfl, rfl⟩
theorem bel_wrap (s : Nat) (m : Nat) (hm : m < 9223372036854775808) (h1 : 1 < m) : stir (nxt s) * m / 18446744073709551616 < 9223372036854775808 := Nat.lt_trans (mul_div_lt (stir_lt (nxt s)) (by omega)) hm
theorem Below_gives (b s : Nat) (n : Int) (hn : n ≤ 9223372036854775807) (w0 : World) (ho : Own w0 [b] [srcR b s] w0) : Gives Try.prog 21 [.pointer (some ⟨b, 0, none⟩), .int .i64 n] w0 [b] fun v h => v = .int .i64 (bel s n) ∧ h = [srcR b (nxt s)] := by
  refine gives_of Try.func21 rfl rfl rfl ho ?_
  refine TC_seq ?_
  refine TC_region ?_
  refine OL_sil rfl rfl rfl (Sil.assign rfl rfl) ?_
  refine OL_nil ?_
  refine TC_seq ?_
  refine TC_seq ?_
  refine TC_region ?_
  refine OL_sil rfl rfl rfl (Sil.move rfl rfl) ?_
  refine OL_sil rfl rfl rfl (Sil.leq rfl rfl rfl) ?_
  refine OL_nil ?_
  refine TC_if rfl (fun ht8 => ?_) (fun ht8 => ?_)
  · refine TC_seq ?_
    refine TC_region ?_
    refine OL_sil rfl rfl rfl (Sil.move rfl rfl) ?_
    refine OL_loud rfl rfl rfl (LO.lent (r' := srcR b (nxt s)) 0 rfl ent18 rfl rfl (Eq.refl [b]) (fun w _ ho' => Next_gives b s w ho')) ?_
    rintro _ _ ⟨rfl, rfl⟩
    refine OL_nil ?_
    refine TC_seq ?_
    refine TC_region ?_
    refine OL_sil rfl rfl rfl (Sil.assign rfl rfl) ?_
    refine OL_nil ?_
    refine TC_ret ?_
    exact ret1h rfl rfl (List.Sublist.refl _) ⟨by unfold bel; rw [if_pos ht8]; rfl, rfl⟩
  · obtain ⟨m, rfl⟩ := Int.eq_ofNat_of_zero_le (show 0 ≤ n by omega)
    have hb : bel s m = stir (nxt s) * m / 18446744073709551616 := by unfold bel; rw [if_neg ht8, Int.toNat_natCast]
    have hw := bel_wrap s m (by omega) (by omega)
    have hnx := fun w => Next_gives b s w
    have hxl := stir_lt (nxt s)
    generalize stir (nxt s) = x at hb hw hnx hxl
    refine TC_skip ?_
    refine TC_seq ?_
    refine TC_region ?_
    refine OL_sil rfl rfl rfl (Sil.move rfl rfl) ?_
    refine OL_loud rfl rfl rfl (LO.lent (r' := srcR b (nxt s)) 0 rfl ent18 rfl rfl (Eq.refl [b]) (fun w _ ho' => hnx w ho')) ?_
    rintro _ _ ⟨rfl, rfl⟩
    refine OL_sil rfl rfl rfl (Sil.move rfl rfl) ?_
    refine OL_sil rfl rfl rfl (Sil.conv rfl rfl Try.underlying3 Try.underlying22 (wrap_nat (a := m) (by omega))) ?_
    refine OL_pure rfl rfl rfl (LO.pure rfl ent39 rfl (fun w _ => Mul64_gives x m hxl (by omega) w)) ?_
    refine OL_sil rfl rfl rfl (Sil.move rfl rfl) ?_
    refine OL_sil rfl rfl rfl (Sil.extract rfl rfl rfl) ?_
    refine OL_sil rfl rfl rfl (Sil.extract rfl rfl rfl) ?_
    refine OL_sil rfl rfl rfl (Sil.assign rfl rfl) ?_
    refine OL_sil rfl rfl rfl (Sil.assign rfl rfl) ?_
    refine OL_nil ?_
    refine TC_seq ?_
    refine TC_region ?_
    refine OL_sil rfl rfl rfl (Sil.move rfl rfl) ?_
    refine OL_sil rfl rfl rfl (Sil.conv rfl rfl Try.underlying22 Try.underlying3 (wrap_natI hw)) ?_
    refine OL_sil rfl rfl rfl (Sil.assign rfl rfl) ?_
    refine OL_nil ?_
    refine TC_ret ?_
    exact ret1h rfl rfl (List.Sublist.refl _) ⟨by rw [hb], rfl⟩
theorem head_gives (w0 : World) : Gives Try.prog 16 [] w0 [] fun v h => v = .bool true ∧ h = [] := by
  have h0 : stir (nxt 0) = 16294208416658607535 := by decide +kernel
  refine gives_of Try.func16 rfl rfl rfl (Own.start w0) ?_
  refine TC_seq ?_
  refine TC_region ?_
  refine OL_sil rfl rfl rfl (Sil.assign rfl rfl) ?_
  refine OL_nil ?_
  refine TC_seq ?_
  refine TC_region ?_
  refine OL_loud rfl rfl rfl (LO.calls rfl ent17 rfl (fun w _ => New_gives 0 w)) ?_
  rintro _ _ ⟨_, ⟨b, rfl, rfl⟩, rfl⟩
  refine OL_sil rfl rfl rfl (Sil.assign rfl rfl) ?_
  refine OL_nil ?_
  refine TC_seq ?_
  refine TC_region ?_
  refine OL_sil rfl rfl rfl (Sil.move rfl rfl) ?_
  refine OL_sil rfl rfl rfl (Sil.neqNil rfl rfl rfl Try.underlying26) ?_
  refine OL_sil rfl rfl rfl (Sil.move rfl rfl) ?_
  refine OL_sil rfl rfl rfl (Sil.move rfl rfl) ?_
  refine OL_loud rfl rfl rfl (LO.lent (r' := srcR b (nxt 0)) 0 rfl ent18 rfl rfl (Eq.refl [b]) (fun w _ ho' => Next_gives b 0 w ho')) ?_
  rintro _ _ ⟨rfl, rfl⟩
  refine OL_sil rfl rfl rfl (Sil.eql rfl rfl rfl) ?_
  refine OL_sil rfl rfl rfl (Sil.pick1 rfl rfl rfl) ?_
  refine OL_sil rfl rfl rfl (Sil.assign rfl rfl) ?_
  refine OL_nil ?_
  refine TC_ret ?_
  exact ret1 rfl rfl ⟨congrArg Value.bool (by rw [h0]; rfl), rfl⟩
end Go.Proofs.Ytccmgmjfcfacoaa
