/-
  Walks over crucibleref02: sums, products, the stirring.
-/
import Derived.Test.YtccmgmjfcfacoaaMixB
namespace Go.Proofs.Ytccmgmjfcfacoaa
open Go.Cru

theorem cells4_congr {f g : Nat → Nat} (h : ∀ t, t < 4 → f t = g t) : cells4 f = cells4 g := by
  unfold cells4
  rw [h 0 (by decide), h 1 (by decide), h 2 (by decide), h 3 (by decide)]
theorem cells8_congr {f g : Nat → Nat} (h : ∀ t, t < 8 → f t = g t) : cells8 f = cells8 g := by
  unfold cells8
  rw [h 0 (by decide), h 1 (by decide), h 2 (by decide), h 3 (by decide), h 4 (by decide), h 5 (by decide), h 6 (by decide), h 7 (by decide)]
theorem Add_gives (f g : Nat → Nat) (hf : ∀ t, t < 4 → f t < 65536) (hg : ∀ t, t < 4 → g t < 65536) (w0 : World) : Gives Try.prog 37 [.agg (cells4 f), .agg (cells4 g)] w0 [] fun v h => v = .agg (cells4 (dig (S4 f + S4 g))) ∧ h = [] := by
  have f0 := hf 0 (by decide)
  have f1 := hf 1 (by decide)
  have f2 := hf 2 (by decide)
  have f3 := hf 3 (by decide)
  have g0 := hg 0 (by decide)
  have g1 := hg 1 (by decide)
  have g2 := hg 2 (by decide)
  have g3 := hg 3 (by decide)
  clear hf hg
  refine gives_of Try.func37 rfl rfl rfl (Own.start w0) ?_
  refine TC_seq ?_
  refine TC_region ?_
  refine OL_loud rfl rfl rfl (LO.box rfl rfl) ?_
  rintro _ _ ⟨bf, hbf, rfl, rfl⟩
  refine OL_loud rfl rfl rfl (LO.box rfl rfl) ?_
  rintro _ _ ⟨bg, hbg, rfl, rfl⟩
  refine OL_loud rfl rfl rfl (LO.alloc rfl rfl) ?_
  rintro _ _ ⟨br, hbr, rfl, rfl⟩
  refine OL_nil ?_
  refine TC_seq ?_
  refine TC_region ?_
  refine OL_sil rfl rfl rfl (Sil.build (vs := []) (cs := cells4 (fun _ => 0)) rfl rfl (fun _ => rfl)) ?_
  refine OL_loud rfl rfl rfl (LO.alloc rfl rfl) ?_
  rintro _ _ ⟨bo, hbo, rfl, rfl⟩
  refine OL_loud0 rfl rfl (LO.storeAs 3 (cells4 (fun _ => 0)) rfl rfl rfl rfl rfl rfl (oneC_cells4 _) (by decide) rfl) ?_
  rintro _ _ ⟨rfl, rfl⟩
  refine OL_nil ?_
  refine TC_seq ?_
  refine TC_region ?_
  refine OL_sil rfl rfl rfl (Sil.assign (v := .int .u64 ((0 : Nat) : Int)) rfl rfl) ?_
  refine OL_nil ?_
  refine TC_seq ?_
  refine TC_seq ?_
  refine TC_region ?_
  refine OL_sil rfl rfl rfl (Sil.assign rfl rfl) ?_
  refine OL_nil ?_
  refine TC_block ?_
  refine TC_rounds 5 ?_
  refine TR_succ ?_
  refine TC_seq ?_
  refine TC_seq ?_
  refine TC_region ?_
  refine OL_sil rfl rfl rfl (Sil.move rfl rfl) ?_
  refine OL_sil rfl rfl rfl (Sil.lss rfl rfl rfl) ?_
  refine OL_nil ?_
  refine TC_yes rfl ?_
  refine TC_skip ?_
  refine TC_seq ?_
  refine TC_block ?_
  refine TC_seq ?_
  refine TC_draw rfl (fun j => false) ?_
  refine DL_take 0 rfl (by kernel_rfl) rfl rfl rfl (Sil.move rfl rfl) (fun _ hr => hr) ?_
  refine DL_take 1 rfl (by kernel_rfl) rfl rfl rfl (Sil.move rfl rfl) (fun _ hr => hr) ?_
  refine DL_take 2 rfl (by kernel_rfl) rfl rfl rfl (Sil.indexLoc1 0 rfl rfl rfl Try.underlying69 rfl rfl (by decide)) (fun _ hr => hr) ?_
  refine DL_take 3 rfl (by kernel_rfl) rfl rfl rfl (Sil.own 0 rfl rfl rfl Try.underlying22 rfl (cells4_at f 0 (by decide))) (fun _ hr => hr) ?_
  refine DL_take 4 rfl (by kernel_rfl) rfl rfl rfl (Sil.move rfl rfl) (fun _ hr => hr) ?_
  refine DL_take 5 rfl (by kernel_rfl) rfl rfl rfl (Sil.indexLoc1 0 rfl rfl rfl Try.underlying69 rfl rfl (by decide)) (fun _ hr => hr) ?_
  refine DL_take 6 rfl (by kernel_rfl) rfl rfl rfl (Sil.own 1 rfl rfl rfl Try.underlying22 rfl (cells4_at g 0 (by decide))) (fun _ hr => hr) ?_
  refine DL_take 7 rfl (by kernel_rfl) rfl rfl rfl (Sil.addun rfl rfl rfl (by omega)) (fun _ hr => hr) ?_
  refine DL_take 8 rfl (by kernel_rfl) rfl rfl rfl (Sil.addun rfl rfl rfl (by omega)) (fun _ hr => hr) ?_
  refine DL_take 9 rfl (by kernel_rfl) rfl rfl rfl (Sil.assign rfl rfl) (fun _ hr => hr) ?_
  refine DL_done (by kernel_rfl) ?_
  refine TC_seq ?_
  refine TC_region ?_
  refine OL_sil rfl rfl rfl (Sil.move rfl rfl) ?_
  refine OL_sil rfl rfl rfl (Sil.move rfl rfl) ?_
  refine OL_sil rfl rfl rfl (Sil.remu (j := 65536) rfl rfl rfl (by decide)) ?_
  refine OL_sil rfl rfl rfl (Sil.indexLoc1 0 rfl rfl rfl Try.underlying69 rfl rfl (by decide)) ?_
  refine OL_loud0 rfl rfl (LO.storeAs 3 _ rfl rfl rfl rfl rfl rfl (oneC_int _ _) (by show 0 + 1 ≤ 4; decide) (cells4_put _ _ _ (by decide))) ?_
  rintro _ _ ⟨rfl, rfl⟩
  refine OL_nil ?_
  refine TC_region ?_
  refine OL_sil rfl rfl rfl (Sil.move rfl rfl) ?_
  refine OL_sil rfl rfl rfl (Sil.quou (j := 65536) rfl rfl rfl (by decide) (by omega)) ?_
  refine OL_sil rfl rfl rfl (Sil.assign rfl rfl) ?_
  refine OL_nil ?_
  refine TC_region ?_
  refine OL_sil rfl rfl rfl (Sil.move rfl rfl) ?_
  refine OL_sil rfl rfl rfl (Sil.add rfl rfl rfl (by decide) (by decide)) ?_
  refine OL_sil rfl rfl rfl (Sil.assign rfl rfl) ?_
  refine OL_nil ?_
  refine TR_succ ?_
  refine TC_seq ?_
  refine TC_seq ?_
  refine TC_region ?_
  refine OL_sil rfl rfl rfl (Sil.move rfl rfl) ?_
  refine OL_sil rfl rfl rfl (Sil.lss rfl rfl rfl) ?_
  refine OL_nil ?_
  refine TC_yes rfl ?_
  refine TC_skip ?_
  refine TC_seq ?_
  refine TC_block ?_
  refine TC_seq ?_
  refine TC_draw rfl (fun j => false) ?_
  refine DL_take 0 rfl (by kernel_rfl) rfl rfl rfl (Sil.move rfl rfl) (fun _ hr => hr) ?_
  refine DL_take 1 rfl (by kernel_rfl) rfl rfl rfl (Sil.move rfl rfl) (fun _ hr => hr) ?_
  refine DL_take 2 rfl (by kernel_rfl) rfl rfl rfl (Sil.indexLoc1 1 rfl rfl rfl Try.underlying69 rfl rfl (by decide)) (fun _ hr => hr) ?_
  refine DL_take 3 rfl (by kernel_rfl) rfl rfl rfl (Sil.own 0 rfl rfl rfl Try.underlying22 rfl (cells4_at f 1 (by decide))) (fun _ hr => hr) ?_
  refine DL_take 4 rfl (by kernel_rfl) rfl rfl rfl (Sil.move rfl rfl) (fun _ hr => hr) ?_
  refine DL_take 5 rfl (by kernel_rfl) rfl rfl rfl (Sil.indexLoc1 1 rfl rfl rfl Try.underlying69 rfl rfl (by decide)) (fun _ hr => hr) ?_
  refine DL_take 6 rfl (by kernel_rfl) rfl rfl rfl (Sil.own 1 rfl rfl rfl Try.underlying22 rfl (cells4_at g 1 (by decide))) (fun _ hr => hr) ?_
  refine DL_take 7 rfl (by kernel_rfl) rfl rfl rfl (Sil.addun rfl rfl rfl (by omega)) (fun _ hr => hr) ?_
  refine DL_take 8 rfl (by kernel_rfl) rfl rfl rfl (Sil.addun rfl rfl rfl (by omega)) (fun _ hr => hr) ?_
  refine DL_take 9 rfl (by kernel_rfl) rfl rfl rfl (Sil.assign rfl rfl) (fun _ hr => hr) ?_
  refine DL_done (by kernel_rfl) ?_
  refine TC_seq ?_
  refine TC_region ?_
  refine OL_sil rfl rfl rfl (Sil.move rfl rfl) ?_
  refine OL_sil rfl rfl rfl (Sil.move rfl rfl) ?_
  refine OL_sil rfl rfl rfl (Sil.remu (j := 65536) rfl rfl rfl (by decide)) ?_
  refine OL_sil rfl rfl rfl (Sil.indexLoc1 1 rfl rfl rfl Try.underlying69 rfl rfl (by decide)) ?_
  refine OL_loud0 rfl rfl (LO.storeAs 3 _ rfl rfl rfl rfl rfl rfl (oneC_int _ _) (by show 1 + 1 ≤ 4; decide) (cells4_put _ _ _ (by decide))) ?_
  rintro _ _ ⟨rfl, rfl⟩
  refine OL_nil ?_
  refine TC_region ?_
  refine OL_sil rfl rfl rfl (Sil.move rfl rfl) ?_
  refine OL_sil rfl rfl rfl (Sil.quou (j := 65536) rfl rfl rfl (by decide) (by omega)) ?_
  refine OL_sil rfl rfl rfl (Sil.assign rfl rfl) ?_
  refine OL_nil ?_
  refine TC_region ?_
  refine OL_sil rfl rfl rfl (Sil.move rfl rfl) ?_
  refine OL_sil rfl rfl rfl (Sil.add rfl rfl rfl (by decide) (by decide)) ?_
  refine OL_sil rfl rfl rfl (Sil.assign rfl rfl) ?_
  refine OL_nil ?_
  refine TR_succ ?_
  refine TC_seq ?_
  refine TC_seq ?_
  refine TC_region ?_
  refine OL_sil rfl rfl rfl (Sil.move rfl rfl) ?_
  refine OL_sil rfl rfl rfl (Sil.lss rfl rfl rfl) ?_
  refine OL_nil ?_
  refine TC_yes rfl ?_
  refine TC_skip ?_
  refine TC_seq ?_
  refine TC_block ?_
  refine TC_seq ?_
  refine TC_draw rfl (fun j => false) ?_
  refine DL_take 0 rfl (by kernel_rfl) rfl rfl rfl (Sil.move rfl rfl) (fun _ hr => hr) ?_
  refine DL_take 1 rfl (by kernel_rfl) rfl rfl rfl (Sil.move rfl rfl) (fun _ hr => hr) ?_
  refine DL_take 2 rfl (by kernel_rfl) rfl rfl rfl (Sil.indexLoc1 2 rfl rfl rfl Try.underlying69 rfl rfl (by decide)) (fun _ hr => hr) ?_
  refine DL_take 3 rfl (by kernel_rfl) rfl rfl rfl (Sil.own 0 rfl rfl rfl Try.underlying22 rfl (cells4_at f 2 (by decide))) (fun _ hr => hr) ?_
  refine DL_take 4 rfl (by kernel_rfl) rfl rfl rfl (Sil.move rfl rfl) (fun _ hr => hr) ?_
  refine DL_take 5 rfl (by kernel_rfl) rfl rfl rfl (Sil.indexLoc1 2 rfl rfl rfl Try.underlying69 rfl rfl (by decide)) (fun _ hr => hr) ?_
  refine DL_take 6 rfl (by kernel_rfl) rfl rfl rfl (Sil.own 1 rfl rfl rfl Try.underlying22 rfl (cells4_at g 2 (by decide))) (fun _ hr => hr) ?_
  refine DL_take 7 rfl (by kernel_rfl) rfl rfl rfl (Sil.addun rfl rfl rfl (by omega)) (fun _ hr => hr) ?_
  refine DL_take 8 rfl (by kernel_rfl) rfl rfl rfl (Sil.addun rfl rfl rfl (by omega)) (fun _ hr => hr) ?_
  refine DL_take 9 rfl (by kernel_rfl) rfl rfl rfl (Sil.assign rfl rfl) (fun _ hr => hr) ?_
  refine DL_done (by kernel_rfl) ?_
  refine TC_seq ?_
  refine TC_region ?_
  refine OL_sil rfl rfl rfl (Sil.move rfl rfl) ?_
  refine OL_sil rfl rfl rfl (Sil.move rfl rfl) ?_
  refine OL_sil rfl rfl rfl (Sil.remu (j := 65536) rfl rfl rfl (by decide)) ?_
  refine OL_sil rfl rfl rfl (Sil.indexLoc1 2 rfl rfl rfl Try.underlying69 rfl rfl (by decide)) ?_
  refine OL_loud0 rfl rfl (LO.storeAs 3 _ rfl rfl rfl rfl rfl rfl (oneC_int _ _) (by show 2 + 1 ≤ 4; decide) (cells4_put _ _ _ (by decide))) ?_
  rintro _ _ ⟨rfl, rfl⟩
  refine OL_nil ?_
  refine TC_region ?_
  refine OL_sil rfl rfl rfl (Sil.move rfl rfl) ?_
  refine OL_sil rfl rfl rfl (Sil.quou (j := 65536) rfl rfl rfl (by decide) (by omega)) ?_
  refine OL_sil rfl rfl rfl (Sil.assign rfl rfl) ?_
  refine OL_nil ?_
  refine TC_region ?_
  refine OL_sil rfl rfl rfl (Sil.move rfl rfl) ?_
  refine OL_sil rfl rfl rfl (Sil.add rfl rfl rfl (by decide) (by decide)) ?_
  refine OL_sil rfl rfl rfl (Sil.assign rfl rfl) ?_
  refine OL_nil ?_
  refine TR_succ ?_
  refine TC_seq ?_
  refine TC_seq ?_
  refine TC_region ?_
  refine OL_sil rfl rfl rfl (Sil.move rfl rfl) ?_
  refine OL_sil rfl rfl rfl (Sil.lss rfl rfl rfl) ?_
  refine OL_nil ?_
  refine TC_yes rfl ?_
  refine TC_skip ?_
  refine TC_seq ?_
  refine TC_block ?_
  refine TC_seq ?_
  refine TC_draw rfl (fun j => false) ?_
  refine DL_take 0 rfl (by kernel_rfl) rfl rfl rfl (Sil.move rfl rfl) (fun _ hr => hr) ?_
  refine DL_take 1 rfl (by kernel_rfl) rfl rfl rfl (Sil.move rfl rfl) (fun _ hr => hr) ?_
  refine DL_take 2 rfl (by kernel_rfl) rfl rfl rfl (Sil.indexLoc1 3 rfl rfl rfl Try.underlying69 rfl rfl (by decide)) (fun _ hr => hr) ?_
  refine DL_take 3 rfl (by kernel_rfl) rfl rfl rfl (Sil.own 0 rfl rfl rfl Try.underlying22 rfl (cells4_at f 3 (by decide))) (fun _ hr => hr) ?_
  refine DL_take 4 rfl (by kernel_rfl) rfl rfl rfl (Sil.move rfl rfl) (fun _ hr => hr) ?_
  refine DL_take 5 rfl (by kernel_rfl) rfl rfl rfl (Sil.indexLoc1 3 rfl rfl rfl Try.underlying69 rfl rfl (by decide)) (fun _ hr => hr) ?_
  refine DL_take 6 rfl (by kernel_rfl) rfl rfl rfl (Sil.own 1 rfl rfl rfl Try.underlying22 rfl (cells4_at g 3 (by decide))) (fun _ hr => hr) ?_
  refine DL_take 7 rfl (by kernel_rfl) rfl rfl rfl (Sil.addun rfl rfl rfl (by omega)) (fun _ hr => hr) ?_
  refine DL_take 8 rfl (by kernel_rfl) rfl rfl rfl (Sil.addun rfl rfl rfl (by omega)) (fun _ hr => hr) ?_
  refine DL_take 9 rfl (by kernel_rfl) rfl rfl rfl (Sil.assign rfl rfl) (fun _ hr => hr) ?_
  refine DL_done (by kernel_rfl) ?_
  refine TC_seq ?_
  refine TC_region ?_
  refine OL_sil rfl rfl rfl (Sil.move rfl rfl) ?_
  refine OL_sil rfl rfl rfl (Sil.move rfl rfl) ?_
  refine OL_sil rfl rfl rfl (Sil.remu (j := 65536) rfl rfl rfl (by decide)) ?_
  refine OL_sil rfl rfl rfl (Sil.indexLoc1 3 rfl rfl rfl Try.underlying69 rfl rfl (by decide)) ?_
  refine OL_loud0 rfl rfl (LO.storeAs 3 _ rfl rfl rfl rfl rfl rfl (oneC_int _ _) (by show 3 + 1 ≤ 4; decide) (cells4_put _ _ _ (by decide))) ?_
  rintro _ _ ⟨rfl, rfl⟩
  refine OL_nil ?_
  refine TC_region ?_
  refine OL_sil rfl rfl rfl (Sil.move rfl rfl) ?_
  refine OL_sil rfl rfl rfl (Sil.quou (j := 65536) rfl rfl rfl (by decide) (by omega)) ?_
  refine OL_sil rfl rfl rfl (Sil.assign rfl rfl) ?_
  refine OL_nil ?_
  refine TC_region ?_
  refine OL_sil rfl rfl rfl (Sil.move rfl rfl) ?_
  refine OL_sil rfl rfl rfl (Sil.add rfl rfl rfl (by decide) (by decide)) ?_
  refine OL_sil rfl rfl rfl (Sil.assign rfl rfl) ?_
  refine OL_nil ?_
  refine TR_succ ?_
  refine TC_seq ?_
  refine TC_seq ?_
  refine TC_region ?_
  refine OL_sil rfl rfl rfl (Sil.move rfl rfl) ?_
  refine OL_sil rfl rfl rfl (Sil.lss rfl rfl rfl) ?_
  refine OL_nil ?_
  refine TC_no rfl ?_
  refine TC_exit ?_
  refine TC_seq ?_
  refine TC_region ?_
  refine OL_sil rfl rfl rfl (Sil.whole 3 rfl rfl rfl ⟨Try.underlying69, rfl⟩ rfl rfl) ?_
  refine OL_loud0 rfl rfl (LO.storeAs 2 (cells4 (dig (S4 f + S4 g))) rfl rfl rfl rfl rfl rfl (oneC_cells4 _) (by decide) (by
    refine cells4_congr fun t ht => ?_
    match t, ht with
    | 0, _ | 1, _ | 2, _ | 3, _ => simp (decide := true) only [upd, if_true, if_false, dig, S4, Nat.reducePow]; omega)) ?_
  rintro _ _ ⟨rfl, rfl⟩
  refine OL_nil ?_
  refine TC_ret ?_
  exact retC 2 rfl rfl rfl ⟨Try.underlying69, rfl⟩ rfl rfl (List.nil_sublist _) ⟨rfl, rfl⟩

theorem all_gives (f g : Nat → Nat) (hf : ∀ t, t < 4 → f t < 65536) (hg : ∀ t, t < 4 → g t < 65536) (w0 : World) : Gives Try.prog 38 [.agg (cells4 f), .agg (cells4 g)] w0 [] fun v h => v = .agg (cells8 (dig (S4 f * S4 g))) ∧ h = [] := by
  refine gives_of Try.func38 rfl rfl rfl (Own.start w0) ?_
  refine TC_seq ?_
  refine TC_region ?_
  refine OL_loud rfl rfl rfl (LO.box rfl rfl) ?_
  rintro _ _ ⟨bf, hbf, rfl, rfl⟩
  refine OL_loud rfl rfl rfl (LO.box rfl rfl) ?_
  rintro _ _ ⟨bg, hbg, rfl, rfl⟩
  refine OL_loud rfl rfl rfl (LO.alloc rfl rfl) ?_
  rintro _ _ ⟨br, hbr, rfl, rfl⟩
  refine OL_nil ?_
  refine TC_seq ?_
  refine TC_region ?_
  refine OL_sil rfl rfl rfl (Sil.build (vs := []) (cs := cells8 (fun _ => 0)) rfl rfl (fun _ => rfl)) ?_
  refine OL_loud rfl rfl rfl (LO.alloc rfl rfl) ?_
  rintro _ _ ⟨bo, hbo, rfl, rfl⟩
  refine OL_loud0 rfl rfl (LO.storeAs 3 (cells8 (fun _ => 0)) rfl rfl rfl rfl rfl rfl (oneC_cells8 _) (by decide) rfl) ?_
  rintro _ _ ⟨rfl, rfl⟩
  refine OL_nil ?_
  refine TC_seq ?_
  refine TC_seq ?_
  refine TC_region ?_
  refine OL_sil rfl rfl rfl (Sil.assign rfl rfl) ?_
  refine OL_nil ?_
  refine TC_block ?_
  refine TC_loop (fun ((i, _) : Nat × (Nat → Nat)) => [(2, .pointer (some ⟨bf, 0, none⟩)), (3, .pointer (some ⟨bg, 0, none⟩)), (4, .pointer (some ⟨br, 0, none⟩)), (5, .pointer (some ⟨bo, 0, none⟩)), (6, .int .i64 i)]) (fun (_, out) => [blk bf (.cells (cells4 f) 69 (0, 0)), blk bg (.cells (cells4 g) 69 (0, 0)), blk br (.cells (cells8 fun _ => 0) 74 (0, 0)), blk bo (.cells (cells8 out) 74 (0, 0))]) (fun (i, out) => i ≤ 4 ∧ S8 out = ps f i * S4 g ∧ ∀ t, out t ≤ 4 * i * 65535) (fun (i, _) => 4 - i) (0, fun _ => 0) ?_ ?_
  · exact ⟨⟨Nat.zero_le _, by simp [S8, ps], fun t => Nat.zero_le _⟩, ⟨rfl, rfl, rfl, rfl, rfl, trivial⟩, List.Sublist.refl _⟩
  · rintro ⟨i, out⟩ ⟨hi, hinv, hb⟩
    refine TC_seq ?_
    refine TC_seq ?_
    refine TC_region ?_
    refine OL_sil rfl rfl rfl (Sil.move rfl rfl) ?_
    refine OL_sil rfl rfl rfl (Sil.lss rfl rfl rfl) ?_
    refine OL_nil ?_
    refine TC_if rfl (fun ht11 => ?_) (fun ht11 => ?_)
    · refine TC_skip ?_
      refine TC_seq ?_
      refine TC_block ?_
      refine TC_seq ?_
      refine TC_region ?_
      refine OL_sil rfl rfl rfl (Sil.assign rfl rfl) ?_
      refine OL_nil ?_
      refine TC_block ?_
      refine TC_loop (fun ((k, _) : Nat × (Nat → Nat)) => [(2, .pointer (some ⟨bf, 0, none⟩)), (3, .pointer (some ⟨bg, 0, none⟩)), (4, .pointer (some ⟨br, 0, none⟩)), (5, .pointer (some ⟨bo, 0, none⟩)), (6, .int .i64 i), (7, .int .i64 k)]) (fun (_, out) => [blk bf (.cells (cells4 f) 69 (0, 0)), blk bg (.cells (cells4 g) 69 (0, 0)), blk br (.cells (cells8 fun _ => 0) 74 (0, 0)), blk bo (.cells (cells8 out) 74 (0, 0))]) (fun (k, out) => k ≤ 4 ∧ S8 out = ps f i * S4 g + f i * 65536 ^ i * ps g k ∧ ∀ t, out t ≤ (4 * i + k) * 65535) (fun (k, _) => 4 - k) (0, out) ?_ ?_
      · exact ⟨⟨Nat.zero_le _, hinv.trans (mul_start _ _ _), fun t => Nat.le_trans (hb t) (by omega)⟩, ⟨rfl, rfl, rfl, rfl, rfl, rfl, trivial⟩, List.Sublist.refl _⟩
      · rintro ⟨k, o1⟩ ⟨hk, hinv1, hb1⟩
        refine TC_seq ?_
        refine TC_seq ?_
        refine TC_region ?_
        refine OL_sil rfl rfl rfl (Sil.move rfl rfl) ?_
        refine OL_sil rfl rfl rfl (Sil.lss rfl rfl rfl) ?_
        refine OL_nil ?_
        refine TC_if rfl (fun ht15 => ?_) (fun ht15 => ?_)
        · have hfi := hf i (by omega)
          have hgk := hg k (by omega)
          have hp := mul16 hfi hgk
          have hb2 := hb1 (i + k)
          have hb3 := hb1 (i + k + 1)
          have hlay := lay_S8 o1 (i + k) (f i * g k) (by omega)
          refine TC_skip ?_
          refine TC_seq ?_
          refine TC_block ?_
          refine TC_seq ?_
          refine TC_draw rfl (fun j => Nat.beq j 15) ?_
          refine DL_take 0 rfl (by kernel_rfl) rfl rfl rfl (Sil.move rfl rfl) (fun _ hr => hr) ?_
          refine DL_take 1 rfl (by kernel_rfl) rfl rfl rfl (Sil.move rfl rfl) (fun _ hr => hr) ?_
          refine DL_take 2 rfl (by kernel_rfl) rfl rfl rfl (Sil.add rfl rfl rfl (by omega) (by omega)) (fun _ hr => hr) ?_
          refine DL_take 3 rfl (by kernel_rfl) rfl rfl rfl (Sil.indexLoc1 (i + k) rfl rfl rfl Try.underlying74 rfl rfl (by omega)) (fun _ hr => hr) ?_
          refine DL_take 4 rfl (by kernel_rfl) rfl rfl rfl (Sil.own 3 rfl rfl rfl Try.underlying22 rfl (cells8_at o1 (i + k) (by omega))) (fun _ hr => hr) ?_
          refine DL_take 5 rfl (by kernel_rfl) rfl rfl rfl (Sil.move rfl rfl) (fun _ hr => hr) ?_
          refine DL_take 6 rfl (by kernel_rfl) rfl rfl rfl (Sil.indexLoc1 i rfl rfl rfl Try.underlying69 rfl rfl (by omega)) (fun _ hr => hr) ?_
          refine DL_take 7 rfl (by kernel_rfl) rfl rfl rfl (Sil.own 0 rfl rfl rfl Try.underlying22 rfl (cells4_at f i (by omega))) (fun _ hr => hr) ?_
          refine DL_take 8 rfl (by kernel_rfl) rfl rfl rfl (Sil.move rfl rfl) (fun _ hr => hr) ?_
          refine DL_take 9 rfl (by kernel_rfl) rfl rfl rfl (Sil.indexLoc1 k rfl rfl rfl Try.underlying69 rfl rfl (by omega)) (fun _ hr => hr) ?_
          refine DL_take 10 rfl (by kernel_rfl) rfl rfl rfl (Sil.own 1 rfl rfl rfl Try.underlying22 rfl (cells4_at g k (by omega))) (fun _ hr => hr) ?_
          refine DL_take 11 rfl (by kernel_rfl) rfl rfl rfl (Sil.mulun rfl rfl rfl (by omega)) (fun _ hr => hr) ?_
          refine DL_take 12 rfl (by kernel_rfl) rfl rfl rfl (Sil.remu (j := 65536) rfl rfl rfl (by decide)) (fun _ hr => hr) ?_
          refine DL_take 13 rfl (by kernel_rfl) rfl rfl rfl (Sil.addun rfl rfl rfl (by omega)) (fun _ hr => hr) ?_
          refine DL_take 14 rfl (by kernel_rfl) rfl rfl rfl (Sil.indexLoc1 (i + k) rfl rfl rfl Try.underlying74 rfl rfl (by omega)) (fun _ hr => hr) ?_
          refine DL_one 15 (by kernel_rfl) ?_
          refine DS_loud0 rfl rfl rfl (LO.storeAs 3 (cells8 (upd o1 (i + k) (o1 (i + k) + f i * g k % 65536))) rfl rfl rfl rfl rfl rfl (oneC_int _ _) (by show i + k + 1 ≤ 8; omega) (cells8_put _ _ _ (by omega))) ?_
          rintro _ _ ⟨rfl, rfl⟩
          refine ⟨.inl rfl, ?_⟩
          refine DL_done (by kernel_rfl) ?_
          have hu : upd o1 (i + k) (o1 (i + k) + f i * g k % 65536) (i + k + 1) = o1 (i + k + 1) := by unfold upd; rw [if_neg (by omega)]
          refine TC_draw rfl (fun j => Nat.beq j 16) ?_
          refine DL_take 0 rfl (by kernel_rfl) rfl rfl rfl (Sil.move rfl rfl) (fun _ hr => hr) ?_
          refine DL_take 1 rfl (by kernel_rfl) rfl rfl rfl (Sil.move rfl rfl) (fun _ hr => hr) ?_
          refine DL_take 2 rfl (by kernel_rfl) rfl rfl rfl (Sil.add rfl rfl rfl (by omega) (by omega)) (fun _ hr => hr) ?_
          refine DL_take 3 rfl (by kernel_rfl) rfl rfl rfl (Sil.add rfl rfl rfl (by omega) (by omega)) (fun _ hr => hr) ?_
          refine DL_take 4 rfl (by kernel_rfl) rfl rfl rfl (Sil.indexLoc1 (i + k + 1) rfl rfl rfl Try.underlying74 rfl rfl (by omega)) (fun _ hr => hr) ?_
          refine DL_take 5 rfl (by kernel_rfl) rfl rfl rfl (Sil.own 3 rfl rfl rfl Try.underlying22 rfl (cells8_at _ (i + k + 1) (by omega))) (fun _ hr => hr) ?_
          refine DL_take 6 rfl (by kernel_rfl) rfl rfl rfl (Sil.move rfl rfl) (fun _ hr => hr) ?_
          refine DL_take 7 rfl (by kernel_rfl) rfl rfl rfl (Sil.indexLoc1 i rfl rfl rfl Try.underlying69 rfl rfl (by omega)) (fun _ hr => hr) ?_
          refine DL_take 8 rfl (by kernel_rfl) rfl rfl rfl (Sil.own 0 rfl rfl rfl Try.underlying22 rfl (cells4_at f i (by omega))) (fun _ hr => hr) ?_
          refine DL_take 9 rfl (by kernel_rfl) rfl rfl rfl (Sil.move rfl rfl) (fun _ hr => hr) ?_
          refine DL_take 10 rfl (by kernel_rfl) rfl rfl rfl (Sil.indexLoc1 k rfl rfl rfl Try.underlying69 rfl rfl (by omega)) (fun _ hr => hr) ?_
          refine DL_take 11 rfl (by kernel_rfl) rfl rfl rfl (Sil.own 1 rfl rfl rfl Try.underlying22 rfl (cells4_at g k (by omega))) (fun _ hr => hr) ?_
          refine DL_take 12 rfl (by kernel_rfl) rfl rfl rfl (Sil.mulun rfl rfl rfl (by omega)) (fun _ hr => hr) ?_
          refine DL_take 13 rfl (by kernel_rfl) rfl rfl rfl (Sil.quou (j := 65536) rfl rfl rfl (by decide) (by omega)) (fun _ hr => hr) ?_
          refine DL_take 14 rfl (by kernel_rfl) rfl rfl rfl (Sil.addun rfl rfl rfl (by omega)) (fun _ hr => hr) ?_
          refine DL_take 15 rfl (by kernel_rfl) rfl rfl rfl (Sil.indexLoc1 (i + k + 1) rfl rfl rfl Try.underlying74 rfl rfl (by omega)) (fun _ hr => hr) ?_
          refine DL_one 16 (by kernel_rfl) ?_
          refine DS_loud0 rfl rfl rfl (LO.storeAs 3 (cells8 (lay o1 (i + k) (f i * g k))) rfl rfl rfl rfl rfl rfl (oneC_int _ _) (by show i + k + 1 + 1 ≤ 8; omega) (cells8_put _ _ _ (by omega))) ?_
          rintro _ _ ⟨rfl, rfl⟩
          refine ⟨.inl rfl, ?_⟩
          refine DL_done (by kernel_rfl) ?_
          refine TC_region ?_
          refine OL_sil rfl rfl rfl (Sil.move rfl rfl) ?_
          refine OL_sil rfl rfl rfl (Sil.add rfl rfl rfl (by omega) (by omega)) ?_
          refine OL_sil rfl rfl rfl (Sil.assign rfl rfl) ?_
          refine OL_nil ?_
          exact ⟨(k + 1, lay o1 (i + k) (f i * g k)), ⟨⟨by omega, by rw [hlay, hinv1, mul_step], fun t => Nat.le_trans (lay_le o1 (i + k) (f i * g k) _ hp hb1 t) (by omega)⟩, ⟨rfl, rfl, rfl, rfl, rfl, rfl, trivial⟩, List.Sublist.refl _⟩, by show 4 - (k + 1) < 4 - k; omega⟩
        · obtain rfl : k = 4 := by omega
          rw [mul_row] at hinv1
          refine TC_exit ?_
          refine TC_region ?_
          refine OL_sil rfl rfl rfl (Sil.move rfl rfl) ?_
          refine OL_sil rfl rfl rfl (Sil.add rfl rfl rfl (by omega) (by omega)) ?_
          refine OL_sil rfl rfl rfl (Sil.assign rfl rfl) ?_
          refine OL_nil ?_
          exact ⟨(i + 1, o1), ⟨⟨by omega, hinv1, fun t => Nat.le_trans (hb1 t) (by omega)⟩, ⟨rfl, rfl, rfl, rfl, rfl, trivial⟩, List.Sublist.refl _⟩, by show 4 - (i + 1) < 4 - i; omega⟩
    · obtain rfl : i = 4 := by omega
      rw [ps_S4] at hinv
      refine TC_exit ?_
      refine TC_seq ?_
      refine TC_seq ?_
      refine TC_region ?_
      refine OL_sil rfl rfl rfl (Sil.assign rfl rfl) ?_
      refine OL_nil ?_
      refine TC_block ?_
      refine TC_loop (fun ((i, _) : Nat × (Nat → Nat)) => [(4, .pointer (some ⟨br, 0, none⟩)), (5, .pointer (some ⟨bo, 0, none⟩)), (8, .int .i64 i)]) (fun (_, out) => [blk br (.cells (cells8 fun _ => 0) 74 (0, 0)), blk bo (.cells (cells8 out) 74 (0, 0))]) (fun (i, out) => i ≤ 7 ∧ S8 out = S4 f * S4 g ∧ (∀ t, t < i → out t < 65536) ∧ out i ≤ 2097152 ∧ ∀ t, i < t → out t ≤ 1048560) (fun (i, _) => 7 - i) (0, out) ?_ ?_
      · exact ⟨⟨Nat.zero_le _, hinv, fun t h => absurd h (by omega), Nat.le_trans (hb 0) (by decide), fun t _ => hb t⟩, ⟨rfl, rfl, rfl, trivial⟩, by simp⟩
      · rintro ⟨i, o1⟩ ⟨hi, hinv1, hlow, hmid, hhigh⟩
        refine TC_seq ?_
        refine TC_seq ?_
        refine TC_region ?_
        refine OL_sil rfl rfl rfl (Sil.move rfl rfl) ?_
        refine OL_sil rfl rfl rfl (Sil.lss rfl rfl rfl) ?_
        refine OL_nil ?_
        refine TC_if rfl (fun ht50 => ?_) (fun ht50 => ?_)
        · have hh := hhigh (i + 1) (by omega)
          have hu1 : upd o1 (i + 1) (o1 (i + 1) + o1 i / 65536) i = o1 i := by unfold upd; rw [if_neg (by omega)]
          refine TC_skip ?_
          refine TC_seq ?_
          refine TC_block ?_
          refine TC_seq ?_
          refine TC_draw rfl (fun j => Nat.beq j 10) ?_
          refine DL_take 0 rfl (by kernel_rfl) rfl rfl rfl (Sil.move rfl rfl) (fun _ hr => hr) ?_
          refine DL_take 1 rfl (by kernel_rfl) rfl rfl rfl (Sil.add rfl rfl rfl (by omega) (by omega)) (fun _ hr => hr) ?_
          refine DL_take 2 rfl (by kernel_rfl) rfl rfl rfl (Sil.indexLoc1 (i + 1) rfl rfl rfl Try.underlying74 rfl rfl (by omega)) (fun _ hr => hr) ?_
          refine DL_take 3 rfl (by kernel_rfl) rfl rfl rfl (Sil.own 1 rfl rfl rfl Try.underlying22 rfl (cells8_at o1 (i + 1) (by omega))) (fun _ hr => hr) ?_
          refine DL_take 4 rfl (by kernel_rfl) rfl rfl rfl (Sil.move rfl rfl) (fun _ hr => hr) ?_
          refine DL_take 5 rfl (by kernel_rfl) rfl rfl rfl (Sil.indexLoc1 i rfl rfl rfl Try.underlying74 rfl rfl (by omega)) (fun _ hr => hr) ?_
          refine DL_take 6 rfl (by kernel_rfl) rfl rfl rfl (Sil.own 1 rfl rfl rfl Try.underlying22 rfl (cells8_at o1 i (by omega))) (fun _ hr => hr) ?_
          refine DL_take 7 rfl (by kernel_rfl) rfl rfl rfl (Sil.quou (j := 65536) rfl rfl rfl (by decide) (by omega)) (fun _ hr => hr) ?_
          refine DL_take 8 rfl (by kernel_rfl) rfl rfl rfl (Sil.addun rfl rfl rfl (by omega)) (fun _ hr => hr) ?_
          refine DL_take 9 rfl (by kernel_rfl) rfl rfl rfl (Sil.indexLoc1 (i + 1) rfl rfl rfl Try.underlying74 rfl rfl (by omega)) (fun _ hr => hr) ?_
          refine DL_one 10 (by kernel_rfl) ?_
          refine DS_loud0 rfl rfl rfl (LO.storeAs 1 (cells8 (upd o1 (i + 1) (o1 (i + 1) + o1 i / 65536))) rfl rfl rfl rfl rfl rfl (oneC_int _ _) (by show i + 1 + 1 ≤ 8; omega) (cells8_put _ _ _ (by omega))) ?_
          rintro _ _ ⟨rfl, rfl⟩
          refine ⟨.inl rfl, ?_⟩
          refine DL_done (by kernel_rfl) ?_
          refine TC_region ?_
          refine OL_sil rfl rfl rfl (Sil.move rfl rfl) ?_
          refine OL_sil rfl rfl rfl (Sil.move rfl rfl) ?_
          refine OL_sil rfl rfl rfl (Sil.indexLoc1 i rfl rfl rfl Try.underlying74 rfl rfl (by omega)) ?_
          refine OL_sil rfl rfl rfl (Sil.own 1 rfl rfl rfl Try.underlying22 rfl (cells8_at _ i (by omega))) ?_
          refine OL_sil rfl rfl rfl (Sil.remu (j := 65536) rfl rfl rfl (by decide)) ?_
          refine OL_sil rfl rfl rfl (Sil.indexLoc1 i rfl rfl rfl Try.underlying74 rfl rfl (by omega)) ?_
          refine OL_loud0 rfl rfl (LO.storeAs 1 (cells8 (carry o1 i)) rfl rfl rfl rfl rfl rfl (oneC_int _ _) (by show i + 1 ≤ 8; omega) (cells8_put _ _ _ (by omega))) ?_
          rintro _ _ ⟨rfl, rfl⟩
          refine OL_nil ?_
          refine TC_region ?_
          refine OL_sil rfl rfl rfl (Sil.move rfl rfl) ?_
          refine OL_sil rfl rfl rfl (Sil.add rfl rfl rfl (by omega) (by omega)) ?_
          refine OL_sil rfl rfl rfl (Sil.assign rfl rfl) ?_
          refine OL_nil ?_
          refine ⟨(i + 1, carry o1 i), ⟨⟨by omega, by rw [carry_S8 o1 i (by omega), hinv1], fun t ht => ?_, ?_, fun t ht => ?_⟩, ⟨rfl, rfl, rfl, trivial⟩, List.Sublist.refl _⟩, by show 7 - (i + 1) < 7 - i; omega⟩
          · rw [carry_at]
            split
            · omega
            · rw [if_neg (by omega)]; exact hlow t (by omega)
          · rw [carry_at, if_neg (by omega), if_pos rfl]; omega
          · rw [carry_at, if_neg (by omega), if_neg (by omega)]; exact hhigh t (by omega)
        · obtain rfl : i = 7 := by omega
          have htop := S8_top o1 (by rw [hinv1]; exact mul64 (S4_lt f hf) (S4_lt g hg))
          have hall : ∀ t, t < 8 → o1 t < 65536 := fun t ht => by
            by_cases e : t = 7
            · subst e; exact htop
            · exact hlow t (by omega)
          have hres : (Value.agg (cells8 o1)).cells = cells8 (dig (S4 f * S4 g)) := cells8_congr fun t ht => by rw [← hinv1, dig_S8 o1 hall t ht]
          have hput : putCells (cells8 fun _ => 0) 0 (Value.agg (cells8 o1)).cells.toList = cells8 (dig (S4 f * S4 g)) := (putCells_all (cells8 fun _ => 0) (cells8 o1) rfl).trans hres
          refine TC_exit ?_
          refine TC_seq ?_
          refine TC_region ?_
          refine OL_sil rfl rfl rfl (Sil.whole 1 rfl rfl rfl ⟨Try.underlying74, rfl⟩ rfl rfl) ?_
          refine OL_loud0 rfl rfl (LO.storeAs 0 (cells8 (dig (S4 f * S4 g))) rfl rfl rfl rfl rfl rfl (oneC_cells8 _) (by decide) hput) ?_
          rintro _ _ ⟨rfl, rfl⟩
          refine OL_nil ?_
          refine TC_ret ?_
          exact retC 0 rfl rfl rfl ⟨Try.underlying74, rfl⟩ rfl rfl (List.nil_sublist _) ⟨rfl, rfl⟩
end Go.Proofs.Ytccmgmjfcfacoaa
