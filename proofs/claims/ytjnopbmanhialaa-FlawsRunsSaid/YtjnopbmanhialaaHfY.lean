/-
  Walks: the example of law 08; FlawsSources; FlawsSelf.
-/
import Derived.Test.YtjnopbmanhialaaHfX
import Derived.Test.YtjnopbmanhialaaHfI
namespace Go.Proofs.Ytjnopbmanhialaa
open Go.Cru

theorem srFl : SR Try.prog 33 3 := ⟨by unfold Program.fieldsOf; rw [Try.underlying33], by kernel_rfl, by kernel_rfl, by kernel_rfl⟩
theorem eqFl : Try.prog.eqGuardType Try.prog.depth 33 = false := by kernel_rfl
def exW : List OpD := [⟨2, 0, 5⟩]
def exR : List OpD := [⟨1, 0, 5⟩]
def exP (st : Int) : List RcD := [⟨1, st, exW⟩, ⟨2, 1, exR⟩]
def exV (st : Int) (q1 q2 : Nat) : List RcV := [(⟨1, st, exW⟩, .slice (some ⟨q1, 0, none⟩) 1 1), (⟨2, 1, exR⟩, .slice (some ⟨q2, 0, none⟩) 1 1)]
theorem pair_gives (st : Int) (w0 : World) : Gives Try.prog 35 [.int .i64 st] w0 [] fun v h => ∃ q1 q2 g, v = .slice (some ⟨g, 0, none⟩) 2 2 ∧ h = [blk q1 (.cells (opsC exW).toArray 40 (0, 0)), blk q2 (.cells (opsC exR).toArray 40 (0, 0)), blk g (.cells (rvsC (exV st q1 q2)).toArray 43 (0, 0))] := by
  refine gives_of Try.func35 rfl rfl rfl (Own.start w0) ?_
  refine TC_seq ?_
  refine TC_region ?_
  refine OL_sil rfl rfl rfl (Sil.assign rfl rfl) ?_
  refine OL_nil ?_
  refine TC_seq ?_
  refine TC_region ?_
  refine OL_sil rfl rfl rfl (Sil.move rfl rfl) ?_
  refine OL_sil rfl rfl rfl (Sil.buildS (vs := [(0, .int .i64 2), (2, .int .i64 5)]) (cs := #[.int .i64 2, .int .i64 0, .int .i64 5]) (ss := [1, 1, 1]) rfl rfl Try.underlying40 rfl rfl rfl) ?_
  refine OL_loud rfl rfl rfl (LO.buildSlice (vs := [(0, .agg #[.int .i64 2, .int .i64 0, .int .i64 5])]) (cs := (opsC exW).toArray) (e := 40) rfl rfl (fun w => by kernel_rfl)) ?_
  rintro _ _ ⟨q1, rfl, rfl⟩
  refine OL_sil rfl rfl rfl (Sil.buildAll [(0, _), (1, _), (2, _)] rfl rfl Try.underlying43 rfl rfl rfl) ?_
  refine OL_sil rfl rfl rfl (Sil.buildS (vs := [(0, .int .i64 1), (2, .int .i64 5)]) (cs := #[.int .i64 1, .int .i64 0, .int .i64 5]) (ss := [1, 1, 1]) rfl rfl Try.underlying40 rfl rfl rfl) ?_
  refine OL_loud rfl rfl rfl (LO.buildSlice (vs := [(0, .agg #[.int .i64 1, .int .i64 0, .int .i64 5])]) (cs := (opsC exR).toArray) (e := 40) rfl rfl (fun w => by kernel_rfl)) ?_
  rintro _ _ ⟨q2, rfl, rfl⟩
  refine OL_sil rfl rfl rfl (Sil.buildAll [(0, _), (1, _), (2, _)] rfl rfl Try.underlying43 rfl rfl rfl) ?_
  refine OL_loud rfl rfl rfl (LO.buildSlice (vs := [(0, .agg #[.int .i64 1, .int .i64 st, .slice (some ⟨q1, 0, none⟩) 1 1]), (1, .agg #[.int .i64 2, .int .i64 1, .slice (some ⟨q2, 0, none⟩) 1 1])]) (cs := (rvsC (exV st q1 q2)).toArray) (e := 43) rfl rfl (fun w => by kernel_rfl)) ?_
  rintro _ _ ⟨q3, rfl, rfl⟩
  refine OL_sil rfl rfl rfl (Sil.assign rfl rfl) ?_
  refine OL_nil ?_
  refine TC_ret ?_
  exact ret1h rfl rfl (List.Sublist.refl _) ⟨q1, q2, q3, rfl, rfl⟩
theorem exV_rcs {w : World} {st : Int} {q1 q2 g : Nat} (h1 : (blk q1 (.cells (opsC exW).toArray 40 (0, 0))).P (hf w)) (h2 : (blk q2 (.cells (opsC exR).toArray 40 (0, 0))).P (hf w)) (h3 : (blk g (.cells (rvsC (exV st q1 q2)).toArray 43 (0, 0))).P (hf w)) : RcsAt w (some ⟨g, 0, none⟩) (exP st) :=
  RcsAt.of_blk (xs := exV st q1 q2) h3 (show 2 ≤ maxLen by decide) (fun x hx => by
    rcases List.mem_cons.1 hx with rfl | hx
    · exact ⟨_, _, rfl, OpsAt.of_blk h1 (show 1 ≤ maxLen by decide)⟩
    · rw [List.mem_singleton.1 hx]; exact ⟨_, _, rfl, OpsAt.of_blk h2 (show 1 ≤ maxLen by decide)⟩)
theorem exP_ops (st : Int) : ∀ t ∈ exP st, t.ops.length ≤ 1000 := fun t ht => by
  rcases List.mem_cons.1 ht with rfl | ht
  · show 1 ≤ 1000; decide
  · rw [List.mem_singleton.1 ht]; show 1 ≤ 1000; decide
theorem ex8_fl : flN (kindA (exP 2)) (exP 2) (exP 2).length = [⟨1, 0, 2⟩] := by decide +kernel
theorem ex8_s0 : gN (wfA (exP 0)) (exP 0) (exP 0).length 0 = true := by decide +kernel
theorem ex8_s1 : gN (wfA (exP 0)) (exP 0) (exP 0).length 1 = true := by decide +kernel
theorem head8_gives (w0 : World) : Gives Try.prog 15 [] w0 [] fun v h => v = .bool true ∧ h = [] := by
  refine gives_of Try.func15 rfl rfl rfl (Own.start w0) ?_
  refine TC_seq ?_
  refine TC_region ?_
  refine OL_sil rfl rfl rfl (Sil.assign rfl rfl) ?_
  refine OL_nil ?_
  refine TC_seq ?_
  refine TC_region ?_
  refine OL_loud rfl rfl rfl (LO.calls rfl ent35 rfl (fun w hw => pair_gives 2 w)) ?_
  rintro _ _ ⟨_, ⟨q1, q2, q3, rfl, rfl⟩, rfl⟩
  refine OL_loud rfl rfl rfl (LO.calls rfl ent18 rfl (fun w hw => (All_gives (exP 2) (some ⟨q3, 0, none⟩) 2 w (exV_rcs (hw.mine _ (List.mem_of_getElem? (i := 0) rfl)) (hw.mine _ (List.mem_of_getElem? (i := 1) rfl)) (hw.mine _ (List.mem_of_getElem? (i := 2) rfl))) (show 2 ≤ 1000 by decide) (exP_ops 2)).mono (fun v h hR => by rw [ex8_fl] at hR; exact hR))) ?_
  rintro _ _ ⟨_, ⟨af, cf, rfl, rfl⟩, rfl⟩
  refine OL_sil rfl rfl rfl (Sil.assign rfl rfl) ?_
  refine OL_nil ?_
  refine TC_seq ?_
  refine TC_region ?_
  refine OL_loud rfl rfl rfl (LO.calls rfl ent35 rfl (fun w hw => pair_gives 0 w)) ?_
  rintro _ _ ⟨_, ⟨p1, p2, p3, rfl, rfl⟩, rfl⟩
  refine OL_loud rfl rfl rfl (LO.calls rfl ent20 rfl (fun w hw => Sure_gives (exP 0) (some ⟨p3, 0, none⟩) 2 w (exV_rcs (hw.mine _ (List.mem_of_getElem? (i := 4) rfl)) (hw.mine _ (List.mem_of_getElem? (i := 5) rfl)) (hw.mine _ (List.mem_of_getElem? (i := 6) rfl))) (show 2 ≤ 1000 by decide) (exP_ops 0))) ?_
  rintro _ _ ⟨_, ⟨sb, rfl, rfl⟩, rfl⟩
  refine OL_sil rfl rfl rfl (Sil.assign rfl rfl) ?_
  refine OL_nil ?_
  refine TC_know (fun w hw => hw.sqSome (i := 3) rfl (show 0 < 1 by decide)) (fun hsome => ?_)
  obtain ⟨g5, rfl⟩ := hsome
  refine TC_seq ?_
  refine TC_region ?_
  refine OL_sil rfl rfl rfl (Sil.move rfl rfl) ?_
  refine OL_sil rfl rfl rfl (Sil.lenSl rfl rfl Try.underlying28) ?_
  refine OL_sil rfl rfl rfl (Sil.eql rfl rfl rfl) ?_
  refine OL_sil rfl rfl rfl (Sil.move rfl rfl) ?_
  refine OL_dec 10 rfl (fun ht10 => ?_) (fun ht10 => ?_)
  · refine OL_sil rfl rfl rfl (Sil.move rfl rfl) ?_
    refine OL_sil rfl rfl rfl (Sil.indexOwn 0 rfl rfl rfl Try.underlying28 rfl rfl (show 0 < 1 by decide)) ?_
    refine OL_sil rfl rfl rfl (Sil.sqLoadN 3 rfl rfl rfl Try.underlying33 rfl rfl rfl (opsC_at (xs := [⟨1, 0, 2⟩]) (j := 0) rfl)) ?_
    refine OL_sil rfl rfl rfl (Sil.buildS (vs := [(0, .int .i64 1), (2, .int .i64 2)]) (cs := #[.int .i64 1, .int .i64 0, .int .i64 2]) (ss := [1, 1, 1]) rfl rfl Try.underlying33 rfl rfl rfl) ?_
    refine OL_sil rfl rfl rfl (Sil.eqlS (xs := [1, 0, 2]) (ys := [1, 0, 2]) srFl eqFl rfl rfl rfl rfl rfl) ?_
    refine OL_sil rfl rfl rfl (Sil.pick1 rfl rfl rfl) ?_
    refine OL_sil rfl rfl rfl (Sil.move rfl rfl) ?_
    refine OL_dec 17 rfl (fun ht17 => ?_) (fun ht17 => ?_)
    · refine OL_sil rfl rfl rfl (Sil.move rfl rfl) ?_
      refine OL_sil rfl rfl rfl (Sil.lenSl rfl rfl Try.underlying35) ?_
      refine OL_sil rfl rfl rfl (Sil.eql rfl rfl rfl) ?_
      refine OL_sil rfl rfl rfl (Sil.pick1 rfl rfl rfl) ?_
      refine OL_sil rfl rfl rfl (Sil.move rfl rfl) ?_
      refine OL_dec 22 rfl (fun ht22 => ?_) (fun ht22 => ?_)
      · refine OL_sil rfl rfl rfl (Sil.move rfl rfl) ?_
        refine OL_sil rfl rfl rfl (Sil.indexOwn1 0 rfl rfl rfl Try.underlying35 rfl rfl (show 0 < 2 by decide)) ?_
        refine OL_sil rfl rfl rfl (Sil.own 7 rfl rfl rfl Try.underlying4 rfl (arrB_at _ _ 0 (show 0 < 2 by decide))) ?_
        refine OL_slot 25 (v := .bool true) rfl (congrArg Value.bool ex8_s0) ?_
        refine OL_sil rfl rfl rfl (Sil.pick1 rfl rfl rfl) ?_
        refine OL_sil rfl rfl rfl (Sil.move rfl rfl) ?_
        refine OL_sil rfl rfl rfl (Sil.move rfl rfl) ?_
        refine OL_sil rfl rfl rfl (Sil.indexOwn1 1 rfl rfl rfl Try.underlying35 rfl rfl (show 1 < 2 by decide)) ?_
        refine OL_sil rfl rfl rfl (Sil.own 7 rfl rfl rfl Try.underlying4 rfl (arrB_at _ _ 1 (show 1 < 2 by decide))) ?_
        refine OL_slot 30 (v := .bool true) rfl (congrArg Value.bool ex8_s1) ?_
        refine OL_sil rfl rfl rfl (Sil.pick1 rfl rfl rfl) ?_
        refine OL_sil rfl rfl rfl (Sil.assign rfl rfl) ?_
        refine OL_nil ?_
        refine TC_ret ?_
        exact ret1 rfl rfl ⟨rfl, rfl⟩
      · exact absurd rfl ht22
    · exact absurd rfl ht17
  · exact absurd rfl ht10
end Go.Proofs.Ytjnopbmanhialaa
