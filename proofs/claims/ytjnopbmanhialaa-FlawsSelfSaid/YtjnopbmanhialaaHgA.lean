/-
  Walk: FlawsSelf.
-/
import Derived.Test.YtjnopbmanhialaaHfY
namespace Go.Proofs.Ytjnopbmanhialaa
open Go.Cru

theorem self_fl (k m : Nat) : flN (kindA [⟨1, 1, [⟨2, k, 1 + m⟩, ⟨1, k, 1 + m⟩]⟩]) [⟨1, 1, [⟨2, k, 1 + m⟩, ⟨1, k, 1 + m⟩]⟩] ([⟨1, 1, [⟨2, k, 1 + m⟩, ⟨1, k, 1 + m⟩]⟩] : List RcD).length = [] := by
  have hr : rdF ⟨1, 1, [⟨2, k, 1 + m⟩, ⟨1, k, 1 + m⟩]⟩ = [] := by simp [rdF, rdN, wroB]
  rw [show ([⟨1, 1, [⟨2, k, 1 + m⟩, ⟨1, k, 1 + m⟩]⟩] : List RcD).length = 0 + 1 from rfl, flN_succ (t := ⟨1, 1, [⟨2, k, 1 + m⟩, ⟨1, k, 1 + m⟩]⟩) rfl, hr]
  rfl
theorem ahead_fl (k m : Nat) : flN (kindA [⟨1, 1, [⟨1, k, 1 + m⟩, ⟨2, k, 1 + m⟩]⟩]) [⟨1, 1, [⟨1, k, 1 + m⟩, ⟨2, k, 1 + m⟩]⟩] ([⟨1, 1, [⟨1, k, 1 + m⟩, ⟨2, k, 1 + m⟩]⟩] : List RcD).length = [⟨0, 0, 1⟩] := by
  have hr : rdF ⟨1, 1, [⟨1, k, 1 + m⟩, ⟨2, k, 1 + m⟩]⟩ = [⟨1, k, 1 + m⟩] := by simp [rdF, rdN, wroB]
  have hw : byI [⟨1, 1, [⟨1, k, 1 + m⟩, ⟨2, k, 1 + m⟩]⟩] ((k : Int), 1 + (m : Int)) = 0 := by simp [byI, byN, wrHas]
  have hk : kindA [⟨1, 1, [⟨1, k, 1 + m⟩, ⟨2, k, 1 + m⟩]⟩] 0 ⟨1, k, 1 + m⟩ = 1 := by
    unfold kindA
    rw [hw]
    exact kindG_1 (show ¬ (1 + (m : Int)) = 0 by omega) (.inr rfl)
  rw [show ([⟨1, 1, [⟨1, k, 1 + m⟩, ⟨2, k, 1 + m⟩]⟩] : List RcD).length = 0 + 1 from rfl, flN_succ (t := ⟨1, 1, [⟨1, k, 1 + m⟩, ⟨2, k, 1 + m⟩]⟩) rfl, hr]
  exact congrArg _ (flR_put (k := 0) (rs := [⟨1, k, 1 + m⟩]) rfl hk (by decide))

theorem FlawsSelf_no (key val : Int) (w0 : World) :
    Gives Try.prog 6 [.int .i64 key, .int .i64 val, .bool false] w0 [] fun v h => v = .bool true ∧ h = [] := by
  obtain ⟨k, hk⟩ : ∃ k : Nat, k = (key % 18446744073709551616).toNat &&& 15 := ⟨_, rfl⟩
  obtain ⟨m, hm⟩ : ∃ m : Nat, m = (val % 18446744073709551616).toNat &&& 65535 := ⟨_, rfl⟩
  have hm1 : m ≤ 65535 := by rw [hm]; exact Nat.and_le_right
  refine gives_of Try.func6 rfl rfl rfl (Own.start w0) ?_
  refine TC_seq ?_
  refine TC_region ?_
  refine OL_sil rfl rfl rfl (Sil.assign rfl rfl) ?_
  refine OL_nil ?_
  refine TC_seq ?_
  refine TC_seq ?_
  refine TC_region ?_
  refine OL_pure rfl rfl rfl (LO.pure rfl ent15 rfl (fun w _ => head8_gives w)) ?_
  refine OL_sil rfl rfl rfl (Sil.not rfl rfl) ?_
  refine OL_nil ?_
  refine TC_no rfl ?_
  refine TC_skip ?_
  refine TC_seq ?_
  refine TC_region ?_
  refine OL_sil rfl rfl rfl (Sil.move rfl rfl) ?_
  refine OL_sil rfl rfl rfl (Sil.andw (j := 15) rfl rfl rfl (by decide)) ?_
  refine OL_slot 15 (v := .int .i64 (k : Int)) rfl (by rw [hk]) ?_
  refine OL_sil rfl rfl rfl (Sil.assign rfl rfl) ?_
  refine OL_nil ?_
  refine TC_seq ?_
  refine TC_region ?_
  refine OL_sil rfl rfl rfl (Sil.move rfl rfl) ?_
  refine OL_sil rfl rfl rfl (Sil.andw (j := 65535) rfl rfl rfl (by decide)) ?_
  refine OL_slot 17 (v := .int .i64 (m : Int)) rfl (by rw [hm]) ?_
  refine OL_sil rfl rfl rfl (Sil.add rfl rfl rfl (by omega) (by omega)) ?_
  refine OL_sil rfl rfl rfl (Sil.assign rfl rfl) ?_
  refine OL_nil ?_
  refine TC_seq ?_
  refine TC_region ?_
  refine OL_sil rfl rfl rfl (Sil.move rfl rfl) ?_
  refine OL_sil rfl rfl rfl (Sil.move rfl rfl) ?_
  refine OL_sil rfl rfl rfl (Sil.buildS (vs := [(0, .int .i64 1), (1, .int .i64 k), (2, .int .i64 (1 + (m : Int)))]) (cs := (iv [1, (k : Int), 1 + (m : Int)]).toArray) (ss := [1, 1, 1]) rfl rfl Try.underlying40 rfl rfl rfl) ?_
  refine OL_loud rfl rfl rfl (LO.alloc rfl rfl) ?_
  rintro _ _ ⟨b7, _, rfl, rfl⟩
  refine OL_loud0 rfl rfl (by first | exact LO.storeAllV rfl rfl rfl (by first | exact at0 | exact at1 | exact at2 | exact at3 | exact at4 | exact at5 | exact at6 | exact at7 | exact at8 | exact at9 | exact at10 | exact at11 | exact at12 | exact at13 | exact at14 | exact at15) (by rfl) (by rfl) (by rfl) (by rfl) | exact LO.store1V rfl rfl rfl (by first | exact at0 | exact at1 | exact at2 | exact at3 | exact at4 | exact at5 | exact at6 | exact at7 | exact at8 | exact at9 | exact at10 | exact at11 | exact at12 | exact at13 | exact at14 | exact at15) (by rfl) (by rfl) (by rfl)) ?_
  rintro _ _ ⟨rfl, rfl⟩
  refine OL_nil ?_
  refine TC_seq ?_
  refine TC_region ?_
  refine OL_sil rfl rfl rfl (Sil.move rfl rfl) ?_
  refine OL_sil rfl rfl rfl (Sil.move rfl rfl) ?_
  refine OL_sil rfl rfl rfl (Sil.buildS (vs := [(0, .int .i64 2), (1, .int .i64 k), (2, .int .i64 (1 + (m : Int)))]) (cs := (iv [2, (k : Int), 1 + (m : Int)]).toArray) (ss := [1, 1, 1]) rfl rfl Try.underlying40 rfl rfl rfl) ?_
  refine OL_loud rfl rfl rfl (LO.alloc rfl rfl) ?_
  rintro _ _ ⟨b8, _, rfl, rfl⟩
  refine OL_loud0 rfl rfl (by first | exact LO.storeAllV rfl rfl rfl (by first | exact at0 | exact at1 | exact at2 | exact at3 | exact at4 | exact at5 | exact at6 | exact at7 | exact at8 | exact at9 | exact at10 | exact at11 | exact at12 | exact at13 | exact at14 | exact at15) (by rfl) (by rfl) (by rfl) (by rfl) | exact LO.store1V rfl rfl rfl (by first | exact at0 | exact at1 | exact at2 | exact at3 | exact at4 | exact at5 | exact at6 | exact at7 | exact at8 | exact at9 | exact at10 | exact at11 | exact at12 | exact at13 | exact at14 | exact at15) (by rfl) (by rfl) (by rfl)) ?_
  rintro _ _ ⟨rfl, rfl⟩
  refine OL_nil ?_
  refine TC_seq ?_
  refine TC_region ?_
  refine OL_sil rfl rfl rfl (by first | exact Sil.ownV rfl rfl (by first | exact at0 | exact at1 | exact at2 | exact at3 | exact at4 | exact at5 | exact at6 | exact at7 | exact at8 | exact at9 | exact at10 | exact at11 | exact at12 | exact at13 | exact at14 | exact at15) Try.underlying40 rfl (by rfl) | exact Sil.wholeV rfl rfl (by first | exact at0 | exact at1 | exact at2 | exact at3 | exact at4 | exact at5 | exact at6 | exact at7 | exact at8 | exact at9 | exact at10 | exact at11 | exact at12 | exact at13 | exact at14 | exact at15) ⟨Try.underlying40, rfl⟩ rfl (by rfl)) ?_
  refine OL_sil rfl rfl rfl (by first | exact Sil.ownV rfl rfl (by first | exact at0 | exact at1 | exact at2 | exact at3 | exact at4 | exact at5 | exact at6 | exact at7 | exact at8 | exact at9 | exact at10 | exact at11 | exact at12 | exact at13 | exact at14 | exact at15) Try.underlying40 rfl (by rfl) | exact Sil.wholeV rfl rfl (by first | exact at0 | exact at1 | exact at2 | exact at3 | exact at4 | exact at5 | exact at6 | exact at7 | exact at8 | exact at9 | exact at10 | exact at11 | exact at12 | exact at13 | exact at14 | exact at15) ⟨Try.underlying40, rfl⟩ rfl (by rfl)) ?_
  refine OL_loud rfl rfl rfl (LO.buildSlice (vs := [(0, agI [2, (k : Int), 1 + (m : Int)]), (1, agI [1, (k : Int), 1 + (m : Int)])]) (cs := (opsC [⟨2, k, 1 + m⟩, ⟨1, k, 1 + m⟩]).toArray) (e := 40) rfl rfl (fun w => by kernel_rfl)) ?_
  rintro _ _ ⟨q1, rfl, rfl⟩
  refine OL_sil rfl rfl rfl (Sil.assign rfl rfl) ?_
  refine OL_nil ?_
  refine TC_seq ?_
  refine TC_seq ?_
  refine TC_region ?_
  refine OL_sil rfl rfl rfl (Sil.move rfl rfl) ?_
  refine OL_nil ?_
  refine TC_cond rfl (fun ht28 => ?_) (fun ht28 => ?_)
  · cases ht28
  · refine TC_skip ?_
    refine TC_seq ?_
    refine TC_region ?_
    refine OL_sil rfl rfl rfl (Sil.move rfl rfl) ?_
    refine OL_sil rfl rfl rfl (Sil.buildAll [(0, _), (1, _), (2, _)] rfl rfl Try.underlying43 rfl rfl rfl) ?_
    refine OL_loud rfl rfl rfl (LO.buildSlice (vs := [(0, .agg #[.int .i64 1, .int .i64 1, .slice (some ⟨q1, 0, none⟩) 2 2])]) (cs := (rvsC [(⟨1, 1, [⟨2, k, 1 + m⟩, ⟨1, k, 1 + m⟩]⟩, .slice (some ⟨q1, 0, none⟩) 2 2)]).toArray) (e := 43) rfl rfl (fun w => by kernel_rfl)) ?_
    rintro _ _ ⟨q3, rfl, rfl⟩
    refine OL_sil rfl rfl rfl (Sil.assign rfl rfl) ?_
    refine OL_nil ?_
    refine TC_seq ?_
    refine TC_region ?_
    refine OL_sil rfl rfl rfl (Sil.move rfl rfl) ?_
    refine OL_loud rfl rfl rfl (LO.calls rfl ent18 rfl (fun w hw => (All_gives [⟨1, 1, [⟨2, k, 1 + m⟩, ⟨1, k, 1 + m⟩]⟩] (some ⟨q3, 0, none⟩) 1 w (RcsAt.of_blk (xs := [(⟨1, 1, [⟨2, k, 1 + m⟩, ⟨1, k, 1 + m⟩]⟩, .slice (some ⟨q1, 0, none⟩) 2 2)]) (hw.mine _ (List.mem_of_getElem? (i := 3) rfl)) (show 1 ≤ maxLen by decide) (fun x hx => by rw [List.mem_singleton.1 hx]; exact ⟨_, _, rfl, OpsAt.of_blk (hw.mine _ (List.mem_of_getElem? (i := 2) rfl)) (show 2 ≤ maxLen by decide)⟩)) (show 1 ≤ 1000 by decide) (fun t ht => by rw [List.mem_singleton.1 ht]; show 2 ≤ 1000; decide)).mono (fun v h hR => by rw [self_fl] at hR; exact hR))) ?_
    rintro _ _ ⟨_, ⟨af, cf, rfl, rfl⟩, rfl⟩
    refine OL_sil rfl rfl rfl (Sil.assign rfl rfl) ?_
    refine OL_nil ?_
    refine TC_seq ?_
    refine TC_seq ?_
    refine TC_region ?_
    refine OL_sil rfl rfl rfl (Sil.move rfl rfl) ?_
    refine OL_sil rfl rfl rfl (Sil.not rfl rfl) ?_
    refine OL_nil ?_
    refine TC_cond rfl (fun ht38 => ?_) (fun ht38 => ?_)
    · refine TC_seq ?_
      refine TC_region ?_
      refine OL_sil rfl rfl rfl (Sil.move rfl rfl) ?_
      refine OL_sil rfl rfl rfl (Sil.lenSl rfl rfl Try.underlying28) ?_
      refine OL_sil rfl rfl rfl (Sil.eql rfl rfl rfl) ?_
      refine OL_sil rfl rfl rfl (Sil.assign rfl rfl) ?_
      refine OL_nil ?_
      refine TC_ret ?_
      exact ret1 rfl rfl ⟨congrArg Value.bool (decide_eq_true rfl), rfl⟩
    · cases ht38
theorem FlawsSelf_ahead (key val : Int) (w0 : World) :
    Gives Try.prog 6 [.int .i64 key, .int .i64 val, .bool true] w0 [] fun v h => v = .bool true ∧ h = [] := by
  obtain ⟨k, hk⟩ : ∃ k : Nat, k = (key % 18446744073709551616).toNat &&& 15 := ⟨_, rfl⟩
  obtain ⟨m, hm⟩ : ∃ m : Nat, m = (val % 18446744073709551616).toNat &&& 65535 := ⟨_, rfl⟩
  have hm1 : m ≤ 65535 := by rw [hm]; exact Nat.and_le_right
  refine gives_of Try.func6 rfl rfl rfl (Own.start w0) ?_
  refine TC_seq ?_
  refine TC_region ?_
  refine OL_sil rfl rfl rfl (Sil.assign rfl rfl) ?_
  refine OL_nil ?_
  refine TC_seq ?_
  refine TC_seq ?_
  refine TC_region ?_
  refine OL_pure rfl rfl rfl (LO.pure rfl ent15 rfl (fun w _ => head8_gives w)) ?_
  refine OL_sil rfl rfl rfl (Sil.not rfl rfl) ?_
  refine OL_nil ?_
  refine TC_no rfl ?_
  refine TC_skip ?_
  refine TC_seq ?_
  refine TC_region ?_
  refine OL_sil rfl rfl rfl (Sil.move rfl rfl) ?_
  refine OL_sil rfl rfl rfl (Sil.andw (j := 15) rfl rfl rfl (by decide)) ?_
  refine OL_slot 15 (v := .int .i64 (k : Int)) rfl (by rw [hk]) ?_
  refine OL_sil rfl rfl rfl (Sil.assign rfl rfl) ?_
  refine OL_nil ?_
  refine TC_seq ?_
  refine TC_region ?_
  refine OL_sil rfl rfl rfl (Sil.move rfl rfl) ?_
  refine OL_sil rfl rfl rfl (Sil.andw (j := 65535) rfl rfl rfl (by decide)) ?_
  refine OL_slot 17 (v := .int .i64 (m : Int)) rfl (by rw [hm]) ?_
  refine OL_sil rfl rfl rfl (Sil.add rfl rfl rfl (by omega) (by omega)) ?_
  refine OL_sil rfl rfl rfl (Sil.assign rfl rfl) ?_
  refine OL_nil ?_
  refine TC_seq ?_
  refine TC_region ?_
  refine OL_sil rfl rfl rfl (Sil.move rfl rfl) ?_
  refine OL_sil rfl rfl rfl (Sil.move rfl rfl) ?_
  refine OL_sil rfl rfl rfl (Sil.buildS (vs := [(0, .int .i64 1), (1, .int .i64 k), (2, .int .i64 (1 + (m : Int)))]) (cs := (iv [1, (k : Int), 1 + (m : Int)]).toArray) (ss := [1, 1, 1]) rfl rfl Try.underlying40 rfl rfl rfl) ?_
  refine OL_loud rfl rfl rfl (LO.alloc rfl rfl) ?_
  rintro _ _ ⟨b7, _, rfl, rfl⟩
  refine OL_loud0 rfl rfl (by first | exact LO.storeAllV rfl rfl rfl (by first | exact at0 | exact at1 | exact at2 | exact at3 | exact at4 | exact at5 | exact at6 | exact at7 | exact at8 | exact at9 | exact at10 | exact at11 | exact at12 | exact at13 | exact at14 | exact at15) (by rfl) (by rfl) (by rfl) (by rfl) | exact LO.store1V rfl rfl rfl (by first | exact at0 | exact at1 | exact at2 | exact at3 | exact at4 | exact at5 | exact at6 | exact at7 | exact at8 | exact at9 | exact at10 | exact at11 | exact at12 | exact at13 | exact at14 | exact at15) (by rfl) (by rfl) (by rfl)) ?_
  rintro _ _ ⟨rfl, rfl⟩
  refine OL_nil ?_
  refine TC_seq ?_
  refine TC_region ?_
  refine OL_sil rfl rfl rfl (Sil.move rfl rfl) ?_
  refine OL_sil rfl rfl rfl (Sil.move rfl rfl) ?_
  refine OL_sil rfl rfl rfl (Sil.buildS (vs := [(0, .int .i64 2), (1, .int .i64 k), (2, .int .i64 (1 + (m : Int)))]) (cs := (iv [2, (k : Int), 1 + (m : Int)]).toArray) (ss := [1, 1, 1]) rfl rfl Try.underlying40 rfl rfl rfl) ?_
  refine OL_loud rfl rfl rfl (LO.alloc rfl rfl) ?_
  rintro _ _ ⟨b8, _, rfl, rfl⟩
  refine OL_loud0 rfl rfl (by first | exact LO.storeAllV rfl rfl rfl (by first | exact at0 | exact at1 | exact at2 | exact at3 | exact at4 | exact at5 | exact at6 | exact at7 | exact at8 | exact at9 | exact at10 | exact at11 | exact at12 | exact at13 | exact at14 | exact at15) (by rfl) (by rfl) (by rfl) (by rfl) | exact LO.store1V rfl rfl rfl (by first | exact at0 | exact at1 | exact at2 | exact at3 | exact at4 | exact at5 | exact at6 | exact at7 | exact at8 | exact at9 | exact at10 | exact at11 | exact at12 | exact at13 | exact at14 | exact at15) (by rfl) (by rfl) (by rfl)) ?_
  rintro _ _ ⟨rfl, rfl⟩
  refine OL_nil ?_
  refine TC_seq ?_
  refine TC_region ?_
  refine OL_sil rfl rfl rfl (by first | exact Sil.ownV rfl rfl (by first | exact at0 | exact at1 | exact at2 | exact at3 | exact at4 | exact at5 | exact at6 | exact at7 | exact at8 | exact at9 | exact at10 | exact at11 | exact at12 | exact at13 | exact at14 | exact at15) Try.underlying40 rfl (by rfl) | exact Sil.wholeV rfl rfl (by first | exact at0 | exact at1 | exact at2 | exact at3 | exact at4 | exact at5 | exact at6 | exact at7 | exact at8 | exact at9 | exact at10 | exact at11 | exact at12 | exact at13 | exact at14 | exact at15) ⟨Try.underlying40, rfl⟩ rfl (by rfl)) ?_
  refine OL_sil rfl rfl rfl (by first | exact Sil.ownV rfl rfl (by first | exact at0 | exact at1 | exact at2 | exact at3 | exact at4 | exact at5 | exact at6 | exact at7 | exact at8 | exact at9 | exact at10 | exact at11 | exact at12 | exact at13 | exact at14 | exact at15) Try.underlying40 rfl (by rfl) | exact Sil.wholeV rfl rfl (by first | exact at0 | exact at1 | exact at2 | exact at3 | exact at4 | exact at5 | exact at6 | exact at7 | exact at8 | exact at9 | exact at10 | exact at11 | exact at12 | exact at13 | exact at14 | exact at15) ⟨Try.underlying40, rfl⟩ rfl (by rfl)) ?_
  refine OL_loud rfl rfl rfl (LO.buildSlice (vs := [(0, agI [2, (k : Int), 1 + (m : Int)]), (1, agI [1, (k : Int), 1 + (m : Int)])]) (cs := (opsC [⟨2, k, 1 + m⟩, ⟨1, k, 1 + m⟩]).toArray) (e := 40) rfl rfl (fun w => by kernel_rfl)) ?_
  rintro _ _ ⟨q1, rfl, rfl⟩
  refine OL_sil rfl rfl rfl (Sil.assign rfl rfl) ?_
  refine OL_nil ?_
  refine TC_seq ?_
  refine TC_seq ?_
  refine TC_region ?_
  refine OL_sil rfl rfl rfl (Sil.move rfl rfl) ?_
  refine OL_nil ?_
  refine TC_cond rfl (fun ht28 => ?_) (fun ht28 => ?_)
  · refine TC_region ?_
    refine OL_sil rfl rfl rfl (by first | exact Sil.ownV rfl rfl (by first | exact at0 | exact at1 | exact at2 | exact at3 | exact at4 | exact at5 | exact at6 | exact at7 | exact at8 | exact at9 | exact at10 | exact at11 | exact at12 | exact at13 | exact at14 | exact at15) Try.underlying40 rfl (by rfl) | exact Sil.wholeV rfl rfl (by first | exact at0 | exact at1 | exact at2 | exact at3 | exact at4 | exact at5 | exact at6 | exact at7 | exact at8 | exact at9 | exact at10 | exact at11 | exact at12 | exact at13 | exact at14 | exact at15) ⟨Try.underlying40, rfl⟩ rfl (by rfl)) ?_
    refine OL_sil rfl rfl rfl (by first | exact Sil.ownV rfl rfl (by first | exact at0 | exact at1 | exact at2 | exact at3 | exact at4 | exact at5 | exact at6 | exact at7 | exact at8 | exact at9 | exact at10 | exact at11 | exact at12 | exact at13 | exact at14 | exact at15) Try.underlying40 rfl (by rfl) | exact Sil.wholeV rfl rfl (by first | exact at0 | exact at1 | exact at2 | exact at3 | exact at4 | exact at5 | exact at6 | exact at7 | exact at8 | exact at9 | exact at10 | exact at11 | exact at12 | exact at13 | exact at14 | exact at15) ⟨Try.underlying40, rfl⟩ rfl (by rfl)) ?_
    refine OL_loud rfl rfl rfl (LO.buildSlice (vs := [(0, agI [1, (k : Int), 1 + (m : Int)]), (1, agI [2, (k : Int), 1 + (m : Int)])]) (cs := (opsC [⟨1, k, 1 + m⟩, ⟨2, k, 1 + m⟩]).toArray) (e := 40) rfl rfl (fun w => by kernel_rfl)) ?_
    rintro _ _ ⟨q2, rfl, rfl⟩
    refine OL_sil rfl rfl rfl (Sil.assign rfl rfl) ?_
    refine OL_nil ?_
    refine TC_seq ?_
    refine TC_region ?_
    refine OL_sil rfl rfl rfl (Sil.move rfl rfl) ?_
    refine OL_sil rfl rfl rfl (Sil.buildAll [(0, _), (1, _), (2, _)] rfl rfl Try.underlying43 rfl rfl rfl) ?_
    refine OL_loud rfl rfl rfl (LO.buildSlice (vs := [(0, .agg #[.int .i64 1, .int .i64 1, .slice (some ⟨q2, 0, none⟩) 2 2])]) (cs := (rvsC [(⟨1, 1, [⟨1, k, 1 + m⟩, ⟨2, k, 1 + m⟩]⟩, .slice (some ⟨q2, 0, none⟩) 2 2)]).toArray) (e := 43) rfl rfl (fun w => by kernel_rfl)) ?_
    rintro _ _ ⟨q3, rfl, rfl⟩
    refine OL_sil rfl rfl rfl (Sil.assign rfl rfl) ?_
    refine OL_nil ?_
    refine TC_seq ?_
    refine TC_region ?_
    refine OL_sil rfl rfl rfl (Sil.move rfl rfl) ?_
    refine OL_loud rfl rfl rfl (LO.calls rfl ent18 rfl (fun w hw => (All_gives [⟨1, 1, [⟨1, k, 1 + m⟩, ⟨2, k, 1 + m⟩]⟩] (some ⟨q3, 0, none⟩) 1 w (RcsAt.of_blk (xs := [(⟨1, 1, [⟨1, k, 1 + m⟩, ⟨2, k, 1 + m⟩]⟩, .slice (some ⟨q2, 0, none⟩) 2 2)]) (hw.mine _ (List.mem_of_getElem? (i := 4) rfl)) (show 1 ≤ maxLen by decide) (fun x hx => by rw [List.mem_singleton.1 hx]; exact ⟨_, _, rfl, OpsAt.of_blk (hw.mine _ (List.mem_of_getElem? (i := 3) rfl)) (show 2 ≤ maxLen by decide)⟩)) (show 1 ≤ 1000 by decide) (fun t ht => by rw [List.mem_singleton.1 ht]; show 2 ≤ 1000; decide)).mono (fun v h hR => by rw [ahead_fl] at hR; exact hR))) ?_
    rintro _ _ ⟨_, ⟨af, cf, rfl, rfl⟩, rfl⟩
    refine OL_sil rfl rfl rfl (Sil.assign rfl rfl) ?_
    refine OL_nil ?_
    refine TC_know (fun w hw => hw.sqSome (i := 5) rfl (show 0 < 1 by decide)) (fun hsome => ?_)
    obtain ⟨g5, rfl⟩ := hsome
    refine TC_seq ?_
    refine TC_seq ?_
    refine TC_region ?_
    refine OL_sil rfl rfl rfl (Sil.move rfl rfl) ?_
    refine OL_sil rfl rfl rfl (Sil.not rfl rfl) ?_
    refine OL_nil ?_
    refine TC_cond rfl (fun ht38 => ?_) (fun ht38 => ?_)
    · cases ht38
    · refine TC_skip ?_
      refine TC_seq ?_
      refine TC_region ?_
      refine OL_sil rfl rfl rfl (Sil.move rfl rfl) ?_
      refine OL_sil rfl rfl rfl (Sil.lenSl rfl rfl Try.underlying28) ?_
      refine OL_sil rfl rfl rfl (Sil.eql rfl rfl rfl) ?_
      refine OL_sil rfl rfl rfl (Sil.move rfl rfl) ?_
      refine OL_dec 45 rfl (fun ht45 => ?_) (fun ht45 => ?_)
      · refine OL_sil rfl rfl rfl (Sil.move rfl rfl) ?_
        refine OL_sil rfl rfl rfl (Sil.indexOwn 0 rfl rfl rfl Try.underlying28 rfl rfl (show 0 < 1 by decide)) ?_
        refine OL_sil rfl rfl rfl (Sil.sqLoadN 5 rfl rfl rfl Try.underlying33 rfl rfl rfl (opsC_at (xs := [⟨0, 0, 1⟩]) (j := 0) rfl)) ?_
        refine OL_sil rfl rfl rfl (Sil.buildS (vs := [(2, .int .i64 1)]) (cs := #[.int .i64 0, .int .i64 0, .int .i64 1]) (ss := [1, 1, 1]) rfl rfl Try.underlying33 rfl rfl rfl) ?_
        refine OL_sil rfl rfl rfl (Sil.eqlS (xs := [0, 0, 1]) (ys := [0, 0, 1]) srFl eqFl rfl rfl rfl rfl rfl) ?_
        refine OL_sil rfl rfl rfl (Sil.pick1 rfl rfl rfl) ?_
        refine OL_sil rfl rfl rfl (Sil.assign rfl rfl) ?_
        refine OL_nil ?_
        refine TC_ret ?_
        exact ret1 rfl rfl ⟨congrArg Value.bool (decide_eq_true rfl), rfl⟩
      · exact absurd rfl ht45
  · cases ht28
theorem FlawsSelf_gives (key val : Int) (b : Bool) (w0 : World) :
    Gives Try.prog 6 [.int .i64 key, .int .i64 val, .bool b] w0 [] fun v h => v = .bool true ∧ h = [] := by
  cases b
  · exact FlawsSelf_no key val w0
  · exact FlawsSelf_ahead key val w0
end Go.Proofs.Ytjnopbmanhialaa
