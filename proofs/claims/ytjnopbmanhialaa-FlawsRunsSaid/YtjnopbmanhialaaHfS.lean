/-
  Walks: HistParts, HistEnds.
-/
import Derived.Test.YtjnopbmanhialaaHfM
import Derived.Test.YtjnopbmanhialaaHfR
namespace Go.Proofs.Ytjnopbmanhialaa
open Go.Cru

theorem HistParts_gives (t : RcD) (u : Value) (w0 : World) (hu : OpsV w0 u t.ops) :
    Gives Try.prog 13 [.agg (rcC t u).toArray] w0 [] fun v h => v = .bool true ∧ h = [] := by
  obtain ⟨a, c, rfl, hx⟩ := hu
  have hmx := hx.1
  unfold maxLen at hmx
  refine gives_of Try.func13 rfl rfl rfl (Own.start w0) ?_
  refine TC_seq ?_
  refine TC_region ?_
  refine OL_loud rfl rfl rfl (LO.box rfl rfl) ?_
  rintro _ _ ⟨b1, _, rfl, rfl⟩
  refine OL_sil rfl rfl rfl (Sil.assign rfl rfl) ?_
  refine OL_nil ?_
  refine TC_seq ?_
  refine TC_seq ?_
  refine TC_region ?_
  refine OL_pure rfl rfl rfl (LO.pure rfl ent24 rfl (fun w _ => head5_gives w)) ?_
  refine OL_sil rfl rfl rfl (Sil.not rfl rfl) ?_
  refine OL_nil ?_
  refine TC_no rfl ?_
  refine TC_skip ?_
  refine TC_seq ?_
  refine TC_seq ?_
  refine TC_region ?_
  refine OL_sil rfl rfl rfl (Sil.fieldLoc 2 rfl rfl Try.underlying43 rfl rfl) ?_
  refine OL_sil rfl rfl rfl (by exact Sil.ownV rfl rfl (by first | exact at0 | exact at1 | exact at2 | exact at3 | exact at4 | exact at5 | exact at6 | exact at7 | exact at8 | exact at9 | exact at10 | exact at11 | exact at12 | exact at13 | exact at14 | exact at15) Try.underlying41 rfl (by rfl)) ?_
  refine OL_sil rfl rfl rfl (Sil.lenSl rfl rfl Try.underlying41) ?_
  refine OL_sil rfl rfl rfl (Sil.gtr rfl rfl rfl) ?_
  refine OL_nil ?_
  refine TC_if rfl (fun ht10 => ?_) (fun ht10 => ?_)
  · refine TC_seq ?_
    refine TC_region ?_
    refine OL_sil rfl rfl rfl (Sil.assign rfl rfl) ?_
    refine OL_nil ?_
    refine TC_ret ?_
    exact ret1 rfl rfl ⟨rfl, rfl⟩
  · refine TC_skip ?_
    refine TC_seq ?_
    refine TC_seq ?_
    refine TC_region ?_
    refine OL_sil rfl rfl rfl (Sil.fieldLoc 2 rfl rfl Try.underlying43 rfl rfl) ?_
    refine OL_sil rfl rfl rfl (by exact Sil.ownV rfl rfl (by first | exact at0 | exact at1 | exact at2 | exact at3 | exact at4 | exact at5 | exact at6 | exact at7 | exact at8 | exact at9 | exact at10 | exact at11 | exact at12 | exact at13 | exact at14 | exact at15) Try.underlying41 rfl (by rfl)) ?_
    refine OL_sil rfl rfl rfl (Sil.lenSl rfl rfl Try.underlying41) ?_
    refine OL_sil rfl rfl rfl (Sil.move rfl rfl) ?_
    refine OL_nil ?_
    refine TC_block ?_
    refine TC_loop (fun i : Nat => [(1, .pointer (some ⟨b1, 0, none⟩)), (12, .slice a t.ops.length c), (13, .int .i64 t.ops.length), (14, .int .i64 i)]) (fun _ => [blk b1 (.cells (rcC t (.slice a t.ops.length c)).toArray 43 (0, 0))]) (fun i => i ≤ t.ops.length) (fun i => t.ops.length - i) 0 ?_ ?_
    · exact ⟨Nat.zero_le _, ⟨rfl, rfl, rfl, rfl, trivial⟩, List.Sublist.refl _⟩
    · intro i hi
      refine TC_seq ?_
      refine TC_region ?_
      refine OL_sil rfl rfl rfl (Sil.lss rfl rfl rfl) ?_
      refine OL_nil ?_
      refine TC_seq ?_
      refine TC_if rfl (fun ht15 => ?_) (fun ht15 => ?_)
      · obtain ⟨o, ho⟩ := nthSome ht15
        obtain ⟨x, rfl, hct⟩ := hx.2 i o ho
        refine TC_skip ?_
        refine TC_seq ?_
        refine TC_block ?_
        refine TC_seq ?_
        refine TC_region ?_
        refine OL_sil rfl rfl rfl (Sil.indexSl i rfl rfl rfl Try.underlying41 rfl rfl (by omega)) ?_
        refine OL_sil rfl rfl rfl (Sil.oldS rfl rfl hct Try.underlying40 rfl rfl rfl) ?_
        refine OL_loud rfl rfl rfl (LO.alloc rfl rfl) ?_
        rintro _ _ ⟨b4, _, rfl, rfl⟩
        refine OL_loud0 rfl rfl (by first | exact LO.storeAllV rfl rfl rfl (by first | exact at0 | exact at1 | exact at2 | exact at3 | exact at4 | exact at5 | exact at6 | exact at7 | exact at8 | exact at9 | exact at10 | exact at11 | exact at12 | exact at13 | exact at14 | exact at15) (by rfl) (by rfl) (by rfl) (by rfl) | exact LO.store1V rfl rfl rfl (by first | exact at0 | exact at1 | exact at2 | exact at3 | exact at4 | exact at5 | exact at6 | exact at7 | exact at8 | exact at9 | exact at10 | exact at11 | exact at12 | exact at13 | exact at14 | exact at15) (by rfl) (by rfl) (by rfl)) ?_
        rintro _ _ ⟨rfl, rfl⟩
        refine OL_nil ?_
        refine TC_seq ?_
        refine TC_bool 35 ((o.k ≠ 1 ∧ o.k ≠ 2) ∨ o.key < 0 ∨ o.key > 15) ?_ ?_
        · refine TC_region ?_
          refine OL_sil rfl rfl rfl (Sil.fieldLoc 0 rfl rfl Try.underlying40 rfl rfl) ?_
          refine OL_sil rfl rfl rfl (by exact Sil.ownV rfl rfl (by first | exact at0 | exact at1 | exact at2 | exact at3 | exact at4 | exact at5 | exact at6 | exact at7 | exact at8 | exact at9 | exact at10 | exact at11 | exact at12 | exact at13 | exact at14 | exact at15) Try.underlying3 rfl (by rfl)) ?_
          refine OL_sil rfl rfl rfl (Sil.neq rfl rfl rfl) ?_
          refine OL_sil rfl rfl rfl (Sil.move rfl rfl) ?_
          refine OL_decn 21 rfl (fun ht21 => ?_) (fun ht21 => ?_)
          · refine OL_sil rfl rfl rfl (Sil.fieldLoc 0 rfl rfl Try.underlying40 rfl rfl) ?_
            refine OL_sil rfl rfl rfl (by exact Sil.ownV rfl rfl (by first | exact at0 | exact at1 | exact at2 | exact at3 | exact at4 | exact at5 | exact at6 | exact at7 | exact at8 | exact at9 | exact at10 | exact at11 | exact at12 | exact at13 | exact at14 | exact at15) Try.underlying3 rfl (by rfl)) ?_
            refine OL_sil rfl rfl rfl (Sil.neq rfl rfl rfl) ?_
            refine OL_sil rfl rfl rfl (Sil.pick1 rfl rfl rfl) ?_
            refine OL_sil rfl rfl rfl (Sil.move rfl rfl) ?_
            refine OL_decn 26 rfl (fun ht26 => ?_) (fun ht26 => ?_)
            · refine OL_skip rfl rfl rfl ?_
              refine OL_skip rfl rfl rfl ?_
              refine OL_skip rfl rfl rfl ?_
              refine OL_sil rfl rfl rfl (Sil.pick1 rfl rfl rfl) ?_
              refine OL_sil rfl rfl rfl (Sil.move rfl rfl) ?_
              refine OL_skip rfl rfl rfl ?_
              refine OL_skip rfl rfl rfl ?_
              refine OL_skip rfl rfl rfl ?_
              refine OL_sil rfl rfl rfl (Sil.pick1 rfl rfl rfl) ?_
              refine OL_nil ?_
              (refine Cont.then_intro (And.intro (by (repeat' (first | exact trivial | refine ⟨rfl, ?_⟩))) (And.intro ?_ rfl)); first | exact slotV rfl (congrArg Value.bool (decide_eq_true (by omega)).symm) | exact slotV rfl (congrArg Value.bool (decide_eq_false (by omega)).symm) | exact slotV rfl (congrArg Value.bool (decide_eq_decide.2 (by omega))) | exact slotV rfl (congrArg Value.bool (decide_not.symm.trans (decide_eq_decide.2 (by omega)))))
            · refine OL_sil rfl rfl rfl (Sil.fieldLoc 1 rfl rfl Try.underlying40 rfl rfl) ?_
              refine OL_sil rfl rfl rfl (by exact Sil.ownV rfl rfl (by first | exact at0 | exact at1 | exact at2 | exact at3 | exact at4 | exact at5 | exact at6 | exact at7 | exact at8 | exact at9 | exact at10 | exact at11 | exact at12 | exact at13 | exact at14 | exact at15) Try.underlying3 rfl (by rfl)) ?_
              refine OL_sil rfl rfl rfl (Sil.lss rfl rfl rfl) ?_
              refine OL_sil rfl rfl rfl (Sil.pick0 rfl rfl rfl) ?_
              refine OL_sil rfl rfl rfl (Sil.move rfl rfl) ?_
              refine OL_dec 31 rfl (fun ht31 => ?_) (fun ht31 => ?_)
              · refine OL_skip rfl rfl rfl ?_
                refine OL_skip rfl rfl rfl ?_
                refine OL_skip rfl rfl rfl ?_
                refine OL_sil rfl rfl rfl (Sil.pick1 rfl rfl rfl) ?_
                refine OL_nil ?_
                (refine Cont.then_intro (And.intro (by (repeat' (first | exact trivial | refine ⟨rfl, ?_⟩))) (And.intro ?_ rfl)); first | exact slotV rfl (congrArg Value.bool (decide_eq_true (by omega)).symm) | exact slotV rfl (congrArg Value.bool (decide_eq_false (by omega)).symm) | exact slotV rfl (congrArg Value.bool (decide_eq_decide.2 (by omega))) | exact slotV rfl (congrArg Value.bool (decide_not.symm.trans (decide_eq_decide.2 (by omega)))))
              · refine OL_sil rfl rfl rfl (Sil.fieldLoc 1 rfl rfl Try.underlying40 rfl rfl) ?_
                refine OL_sil rfl rfl rfl (by exact Sil.ownV rfl rfl (by first | exact at0 | exact at1 | exact at2 | exact at3 | exact at4 | exact at5 | exact at6 | exact at7 | exact at8 | exact at9 | exact at10 | exact at11 | exact at12 | exact at13 | exact at14 | exact at15) Try.underlying3 rfl (by rfl)) ?_
                refine OL_sil rfl rfl rfl (Sil.gtr rfl rfl rfl) ?_
                refine OL_sil rfl rfl rfl (Sil.pick0 rfl rfl rfl) ?_
                refine OL_nil ?_
                (refine Cont.then_intro (And.intro (by (repeat' (first | exact trivial | refine ⟨rfl, ?_⟩))) (And.intro ?_ rfl)); first | exact slotV rfl (congrArg Value.bool (decide_eq_true (by omega)).symm) | exact slotV rfl (congrArg Value.bool (decide_eq_false (by omega)).symm) | exact slotV rfl (congrArg Value.bool (decide_eq_decide.2 (by omega))) | exact slotV rfl (congrArg Value.bool (decide_not.symm.trans (decide_eq_decide.2 (by omega)))))
          · refine OL_skip rfl rfl rfl ?_
            refine OL_skip rfl rfl rfl ?_
            refine OL_skip rfl rfl rfl ?_
            refine OL_sil rfl rfl rfl (Sil.pick0 rfl rfl rfl) ?_
            refine OL_sil rfl rfl rfl (Sil.move rfl rfl) ?_
            refine OL_sil rfl rfl rfl (Sil.fieldLoc 1 rfl rfl Try.underlying40 rfl rfl) ?_
            refine OL_sil rfl rfl rfl (by exact Sil.ownV rfl rfl (by first | exact at0 | exact at1 | exact at2 | exact at3 | exact at4 | exact at5 | exact at6 | exact at7 | exact at8 | exact at9 | exact at10 | exact at11 | exact at12 | exact at13 | exact at14 | exact at15) Try.underlying3 rfl (by rfl)) ?_
            refine OL_sil rfl rfl rfl (Sil.lss rfl rfl rfl) ?_
            refine OL_sil rfl rfl rfl (Sil.pick0 rfl rfl rfl) ?_
            refine OL_sil rfl rfl rfl (Sil.move rfl rfl) ?_
            refine OL_dec 31 rfl (fun ht31 => ?_) (fun ht31 => ?_)
            · refine OL_skip rfl rfl rfl ?_
              refine OL_skip rfl rfl rfl ?_
              refine OL_skip rfl rfl rfl ?_
              refine OL_sil rfl rfl rfl (Sil.pick1 rfl rfl rfl) ?_
              refine OL_nil ?_
              (refine Cont.then_intro (And.intro (by (repeat' (first | exact trivial | refine ⟨rfl, ?_⟩))) (And.intro ?_ rfl)); first | exact slotV rfl (congrArg Value.bool (decide_eq_true (by omega)).symm) | exact slotV rfl (congrArg Value.bool (decide_eq_false (by omega)).symm) | exact slotV rfl (congrArg Value.bool (decide_eq_decide.2 (by omega))) | exact slotV rfl (congrArg Value.bool (decide_not.symm.trans (decide_eq_decide.2 (by omega)))))
            · refine OL_sil rfl rfl rfl (Sil.fieldLoc 1 rfl rfl Try.underlying40 rfl rfl) ?_
              refine OL_sil rfl rfl rfl (by exact Sil.ownV rfl rfl (by first | exact at0 | exact at1 | exact at2 | exact at3 | exact at4 | exact at5 | exact at6 | exact at7 | exact at8 | exact at9 | exact at10 | exact at11 | exact at12 | exact at13 | exact at14 | exact at15) Try.underlying3 rfl (by rfl)) ?_
              refine OL_sil rfl rfl rfl (Sil.gtr rfl rfl rfl) ?_
              refine OL_sil rfl rfl rfl (Sil.pick0 rfl rfl rfl) ?_
              refine OL_nil ?_
              (refine Cont.then_intro (And.intro (by (repeat' (first | exact trivial | refine ⟨rfl, ?_⟩))) (And.intro ?_ rfl)); first | exact slotV rfl (congrArg Value.bool (decide_eq_true (by omega)).symm) | exact slotV rfl (congrArg Value.bool (decide_eq_false (by omega)).symm) | exact slotV rfl (congrArg Value.bool (decide_eq_decide.2 (by omega))) | exact slotV rfl (congrArg Value.bool (decide_not.symm.trans (decide_eq_decide.2 (by omega)))))
        refine TC_if rfl (fun ht35 => ?_) (fun ht35 => ?_)
        · refine TC_seq ?_
          refine TC_region ?_
          refine OL_sil rfl rfl rfl (Sil.assign rfl rfl) ?_
          refine OL_nil ?_
          refine TC_ret ?_
          exact ret1 rfl rfl ⟨rfl, rfl⟩
        · refine TC_skip ?_
          refine TC_region ?_
          refine OL_sil rfl rfl rfl (Sil.add rfl rfl rfl (by omega) (by omega)) ?_
          refine OL_sil rfl rfl rfl (Sil.move rfl rfl) ?_
          refine OL_nil ?_
          exact ⟨i + 1, ⟨by omega, ⟨rfl, rfl, rfl, slotI rfl (by push_cast; rfl), trivial⟩, List.Sublist.cons_cons _ (List.nil_sublist _)⟩, by omega⟩
      · refine TC_exit ?_
        refine TC_seq ?_
        refine TC_draw rfl (fun j => false) ?_
        refine DL_take 0 rfl (by kernel_rfl) rfl rfl rfl (by first | exact Sil.ownV rfl rfl (by first | exact at0 | exact at1 | exact at2 | exact at3 | exact at4 | exact at5 | exact at6 | exact at7 | exact at8 | exact at9 | exact at10 | exact at11 | exact at12 | exact at13 | exact at14 | exact at15) Try.underlying43 rfl (by rfl) | exact Sil.wholeV rfl rfl (by first | exact at0 | exact at1 | exact at2 | exact at3 | exact at4 | exact at5 | exact at6 | exact at7 | exact at8 | exact at9 | exact at10 | exact at11 | exact at12 | exact at13 | exact at14 | exact at15) ⟨Try.underlying43, rfl⟩ rfl (by rfl)) (fun _ hr => hr) ?_
        refine DL_take 2 rfl (by kernel_rfl) rfl rfl rfl (by first | exact Sil.ownV rfl rfl (by first | exact at0 | exact at1 | exact at2 | exact at3 | exact at4 | exact at5 | exact at6 | exact at7 | exact at8 | exact at9 | exact at10 | exact at11 | exact at12 | exact at13 | exact at14 | exact at15) Try.underlying43 rfl (by rfl) | exact Sil.wholeV rfl rfl (by first | exact at0 | exact at1 | exact at2 | exact at3 | exact at4 | exact at5 | exact at6 | exact at7 | exact at8 | exact at9 | exact at10 | exact at11 | exact at12 | exact at13 | exact at14 | exact at15) ⟨Try.underlying43, rfl⟩ rfl (by rfl)) (fun _ hr => hr) ?_
        refine DL_one 1 (by kernel_rfl) ?_
        refine DS_loud rfl rfl rfl rfl (LO.calls rfl ent31 rfl (fun w hw => Reads_gives t (.slice a t.ops.length c) w ⟨a, c, rfl, hx.keep hw.keep⟩ (by omega))) ?_
        rintro _ _ ⟨_, ⟨a1, c1, rfl, rfl⟩, rfl⟩
        refine ⟨.inr (fun r hr => List.mem_append_left _ ((fun _ hr => hr) r hr)), ?_⟩
        refine DL_one 3 (by kernel_rfl) ?_
        refine DS_loud rfl rfl rfl rfl (LO.calls rfl ent32 rfl (fun w hw => refReads_gives t (.slice a t.ops.length c) w ⟨a, c, rfl, hx.keep hw.keep⟩ (by omega))) ?_
        rintro _ _ ⟨_, ⟨a2, c2, rfl, rfl⟩, rfl⟩
        refine ⟨.inr (fun r hr => List.mem_append_left _ ((fun r hr => List.mem_append_left _ ((fun _ hr => hr) r hr)) r hr)), ?_⟩
        refine DL_one 4 (by kernel_rfl) ?_
        refine DS_loud rfl rfl rfl rfl (LO.pure rfl ent30 rfl (fun w hw => Same_true (rdF t) (rdF t) a1 a2 c1 c2 w (OpsAt.of_sq (hw.mine _ (List.mem_of_getElem? (i := 1) rfl))) (OpsAt.of_sq (hw.mine _ (List.mem_of_getElem? (i := 2) rfl))) rfl)) ?_
        rintro _ _ ⟨rfl, rfl⟩
        refine ⟨.inr (fun r hr => List.mem_append_left _ ((fun r hr => List.mem_append_left _ ((fun _ hr => hr) r hr)) r hr)), ?_⟩
        refine DL_take 5 rfl (by kernel_rfl) rfl rfl rfl (Sil.move rfl rfl) (fun r hr => List.mem_append_left _ ((fun r hr => List.mem_append_left _ ((fun _ hr => hr) r hr)) r hr)) ?_
        refine DL_take 6 rfl (by kernel_rfl) rfl rfl rfl (by first | exact Sil.ownV rfl rfl (by first | exact at0 | exact at1 | exact at2 | exact at3 | exact at4 | exact at5 | exact at6 | exact at7 | exact at8 | exact at9 | exact at10 | exact at11 | exact at12 | exact at13 | exact at14 | exact at15) Try.underlying43 rfl (by rfl) | exact Sil.wholeV rfl rfl (by first | exact at0 | exact at1 | exact at2 | exact at3 | exact at4 | exact at5 | exact at6 | exact at7 | exact at8 | exact at9 | exact at10 | exact at11 | exact at12 | exact at13 | exact at14 | exact at15) ⟨Try.underlying43, rfl⟩ rfl (by rfl)) (fun r hr => List.mem_append_left _ ((fun r hr => List.mem_append_left _ ((fun _ hr => hr) r hr)) r hr)) ?_
        refine DL_take 8 rfl (by kernel_rfl) rfl rfl rfl (by first | exact Sil.ownV rfl rfl (by first | exact at0 | exact at1 | exact at2 | exact at3 | exact at4 | exact at5 | exact at6 | exact at7 | exact at8 | exact at9 | exact at10 | exact at11 | exact at12 | exact at13 | exact at14 | exact at15) Try.underlying43 rfl (by rfl) | exact Sil.wholeV rfl rfl (by first | exact at0 | exact at1 | exact at2 | exact at3 | exact at4 | exact at5 | exact at6 | exact at7 | exact at8 | exact at9 | exact at10 | exact at11 | exact at12 | exact at13 | exact at14 | exact at15) ⟨Try.underlying43, rfl⟩ rfl (by rfl)) (fun r hr => List.mem_append_left _ ((fun r hr => List.mem_append_left _ ((fun _ hr => hr) r hr)) r hr)) ?_
        refine DL_one 7 (by kernel_rfl) ?_
        refine DS_loud rfl rfl rfl rfl (LO.calls rfl ent33 rfl (fun w hw => Writes_gives t (.slice a t.ops.length c) w ⟨a, c, rfl, hx.keep hw.keep⟩ (by omega))) ?_
        rintro _ _ ⟨_, ⟨a3, c3, rfl, rfl⟩, rfl⟩
        refine ⟨.inr (fun r hr => List.mem_append_left _ ((fun r hr => List.mem_append_left _ ((fun r hr => List.mem_append_left _ ((fun _ hr => hr) r hr)) r hr)) r hr)), ?_⟩
        refine DL_one 9 (by kernel_rfl) ?_
        refine DS_loud rfl rfl rfl rfl (LO.calls rfl ent34 rfl (fun w hw => refWrites_gives t (.slice a t.ops.length c) w ⟨a, c, rfl, hx.keep hw.keep⟩ (by omega))) ?_
        rintro _ _ ⟨_, ⟨a4, c4, rfl, rfl⟩, rfl⟩
        refine ⟨.inr (fun r hr => List.mem_append_left _ ((fun r hr => List.mem_append_left _ ((fun r hr => List.mem_append_left _ ((fun r hr => List.mem_append_left _ ((fun _ hr => hr) r hr)) r hr)) r hr)) r hr)), ?_⟩
        refine DL_one 10 (by kernel_rfl) ?_
        refine DS_loud rfl rfl rfl rfl (LO.pure rfl ent30 rfl (fun w hw => Same_true (wrN t.ops 16) (wrN t.ops 16) a3 a4 c3 c4 w (OpsAt.of_sq (hw.mine _ (List.mem_of_getElem? (i := 3) rfl))) (OpsAt.of_sq (hw.mine _ (List.mem_of_getElem? (i := 4) rfl))) rfl)) ?_
        rintro _ _ ⟨rfl, rfl⟩
        refine ⟨.inr (fun r hr => List.mem_append_left _ ((fun r hr => List.mem_append_left _ ((fun r hr => List.mem_append_left _ ((fun r hr => List.mem_append_left _ ((fun _ hr => hr) r hr)) r hr)) r hr)) r hr)), ?_⟩
        refine DL_take 11 rfl (by kernel_rfl) rfl rfl rfl (Sil.pick1 rfl rfl rfl) (fun r hr => List.mem_append_left _ ((fun r hr => List.mem_append_left _ ((fun r hr => List.mem_append_left _ ((fun r hr => List.mem_append_left _ ((fun _ hr => hr) r hr)) r hr)) r hr)) r hr)) ?_
        refine DL_take 12 rfl (by kernel_rfl) rfl rfl rfl (Sil.assign rfl rfl) (fun r hr => List.mem_append_left _ ((fun r hr => List.mem_append_left _ ((fun r hr => List.mem_append_left _ ((fun r hr => List.mem_append_left _ ((fun _ hr => hr) r hr)) r hr)) r hr)) r hr)) ?_
        refine DL_done (by kernel_rfl) ?_
        refine TC_ret ?_
        exact ret1 rfl rfl ⟨rfl, rfl⟩
end Go.Proofs.Ytjnopbmanhialaa
