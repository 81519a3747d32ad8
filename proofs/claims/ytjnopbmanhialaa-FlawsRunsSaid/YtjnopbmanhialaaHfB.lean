/-
  Walks: may an event be; is a value written twice; what is wrong with an answer.
-/
import Derived.Test.YtjnopbmanhialaaHfA
import Derived.Test.YtjnopbmanhialaaKitG
namespace Go.Proofs.Ytjnopbmanhialaa
open Go.Cru

/-- An operation of an event of kind c is none. -/
def badO (c : Int) (o : OpD) : Prop := (o.k ≠ 1 ∧ o.k ≠ 2 ∨ o.key < 0 ∨ o.key > 15 ∨ o.val < 0 ∨ o.val ≥ 1099511627776) ∨ (o.k = 2 ∧ o.val = 0 ∨ o.k = 1 ∧ o.val ≠ 0 ∧ c = 1)
instance (c : Int) (o : OpD) : Decidable (badO c o) := by unfold badO; infer_instance
def badH (e : RcD) : Prop := (e.p < 1 ∨ e.p > 4 ∨ e.q < 1 ∨ e.q > 16 ∨ (e.ops.length : Int) > 12) ∨ ((e.ops.length : Int) = 0 ∧ (e.p = 1 ∨ e.p = 2))
instance (e : RcD) : Decidable (badH e) := by unfold badH; infer_instance
def right (e : RcD) : Prop := ¬ badH e ∧ ∀ o ∈ e.ops, ¬ badO e.p o
instance (e : RcD) : Decidable (right e) := by unfold right; infer_instance

theorem right_gives (e : RcD) (u : Value) (w0 : World) (hu : OpsV w0 u e.ops) :
    Gives Try.prog 36 [.agg (rcC e u).toArray] w0 [] fun v h => v = .bool (decide (right e)) ∧ h = [] := by
  obtain ⟨a, cap, rfl, hx⟩ := hu
  have hm := hx.1
  unfold maxLen at hm
  refine gives_of Try.func36 rfl rfl rfl (Own.start w0) ?_
  refine TC_seq ?_
  refine TC_region ?_
  refine OL_loud rfl rfl rfl (LO.box rfl rfl) ?_
  rintro _ _ ⟨b1, _, rfl, rfl⟩
  refine OL_sil rfl rfl rfl (Sil.assign rfl rfl) ?_
  refine OL_nil ?_
  refine TC_seq ?_
  refine TC_seq ?_
  refine TC_bool 28 (e.p < 1 ∨ e.p > 4 ∨ e.q < 1 ∨ e.q > 16 ∨ (e.ops.length : Int) > 12) ?_ ?_
  · refine TC_region ?_
    refine OL_sil rfl rfl rfl (Sil.fieldLoc 0 rfl rfl Try.underlying58 rfl rfl) ?_
    refine OL_sil rfl rfl rfl (by exact Sil.ownV rfl rfl (by first | exact at0 | exact at1 | exact at2 | exact at3 | exact at4 | exact at5 | exact at6 | exact at7 | exact at8 | exact at9 | exact at10 | exact at11 | exact at12 | exact at13 | exact at14 | exact at15) Try.underlying3 rfl (by rfl)) ?_
    refine OL_sil rfl rfl rfl (Sil.lss rfl rfl rfl) ?_
    refine OL_sil rfl rfl rfl (Sil.move rfl rfl) ?_
    refine OL_dec 8 rfl (fun ht8 => ?_) (fun ht8 => ?_)
    · refine OL_skip rfl rfl rfl ?_
      refine OL_skip rfl rfl rfl ?_
      refine OL_skip rfl rfl rfl ?_
      refine OL_sil rfl rfl rfl (Sil.pick1 rfl rfl rfl) ?_
      refine OL_sil rfl rfl rfl (Sil.move rfl rfl) ?_
      refine OL_skip rfl rfl rfl ?_
      refine OL_skip rfl rfl rfl ?_
      refine OL_skip rfl rfl rfl ?_
      refine OL_sil rfl rfl rfl (Sil.pick1 rfl rfl rfl) ?_
      refine OL_sil rfl rfl rfl (Sil.move rfl rfl) ?_
      refine OL_skip rfl rfl rfl ?_
      refine OL_skip rfl rfl rfl ?_
      refine OL_skip rfl rfl rfl ?_
      refine OL_sil rfl rfl rfl (Sil.pick1 rfl rfl rfl) ?_
      refine OL_sil rfl rfl rfl (Sil.move rfl rfl) ?_
      refine OL_skip rfl rfl rfl ?_
      refine OL_skip rfl rfl rfl ?_
      refine OL_skip rfl rfl rfl ?_
      refine OL_skip rfl rfl rfl ?_
      refine OL_sil rfl rfl rfl (Sil.pick1 rfl rfl rfl) ?_
      refine OL_nil ?_
      (refine Cont.then_intro (And.intro (by (repeat' (first | exact trivial | refine ⟨rfl, ?_⟩))) (And.intro ?_ rfl)); first | exact slotV rfl (congrArg Value.bool (decide_eq_true (by omega)).symm) | exact slotV rfl (congrArg Value.bool (decide_eq_false (by omega)).symm) | exact slotV rfl (congrArg Value.bool (decide_eq_decide.2 (by omega))) | exact slotV rfl (congrArg Value.bool (decide_not.symm.trans (decide_eq_decide.2 (by omega)))))
    · refine OL_sil rfl rfl rfl (Sil.fieldLoc 0 rfl rfl Try.underlying58 rfl rfl) ?_
      refine OL_sil rfl rfl rfl (by exact Sil.ownV rfl rfl (by first | exact at0 | exact at1 | exact at2 | exact at3 | exact at4 | exact at5 | exact at6 | exact at7 | exact at8 | exact at9 | exact at10 | exact at11 | exact at12 | exact at13 | exact at14 | exact at15) Try.underlying3 rfl (by rfl)) ?_
      refine OL_sil rfl rfl rfl (Sil.gtr rfl rfl rfl) ?_
      refine OL_sil rfl rfl rfl (Sil.pick0 rfl rfl rfl) ?_
      refine OL_sil rfl rfl rfl (Sil.move rfl rfl) ?_
      refine OL_dec 13 rfl (fun ht13 => ?_) (fun ht13 => ?_)
      · refine OL_skip rfl rfl rfl ?_
        refine OL_skip rfl rfl rfl ?_
        refine OL_skip rfl rfl rfl ?_
        refine OL_sil rfl rfl rfl (Sil.pick1 rfl rfl rfl) ?_
        refine OL_sil rfl rfl rfl (Sil.move rfl rfl) ?_
        refine OL_skip rfl rfl rfl ?_
        refine OL_skip rfl rfl rfl ?_
        refine OL_skip rfl rfl rfl ?_
        refine OL_sil rfl rfl rfl (Sil.pick1 rfl rfl rfl) ?_
        refine OL_sil rfl rfl rfl (Sil.move rfl rfl) ?_
        refine OL_skip rfl rfl rfl ?_
        refine OL_skip rfl rfl rfl ?_
        refine OL_skip rfl rfl rfl ?_
        refine OL_skip rfl rfl rfl ?_
        refine OL_sil rfl rfl rfl (Sil.pick1 rfl rfl rfl) ?_
        refine OL_nil ?_
        (refine Cont.then_intro (And.intro (by (repeat' (first | exact trivial | refine ⟨rfl, ?_⟩))) (And.intro ?_ rfl)); first | exact slotV rfl (congrArg Value.bool (decide_eq_true (by omega)).symm) | exact slotV rfl (congrArg Value.bool (decide_eq_false (by omega)).symm) | exact slotV rfl (congrArg Value.bool (decide_eq_decide.2 (by omega))) | exact slotV rfl (congrArg Value.bool (decide_not.symm.trans (decide_eq_decide.2 (by omega)))))
      · refine OL_sil rfl rfl rfl (Sil.fieldLoc 1 rfl rfl Try.underlying58 rfl rfl) ?_
        refine OL_sil rfl rfl rfl (by exact Sil.ownV rfl rfl (by first | exact at0 | exact at1 | exact at2 | exact at3 | exact at4 | exact at5 | exact at6 | exact at7 | exact at8 | exact at9 | exact at10 | exact at11 | exact at12 | exact at13 | exact at14 | exact at15) Try.underlying3 rfl (by rfl)) ?_
        refine OL_sil rfl rfl rfl (Sil.lss rfl rfl rfl) ?_
        refine OL_sil rfl rfl rfl (Sil.pick0 rfl rfl rfl) ?_
        refine OL_sil rfl rfl rfl (Sil.move rfl rfl) ?_
        refine OL_dec 18 rfl (fun ht18 => ?_) (fun ht18 => ?_)
        · refine OL_skip rfl rfl rfl ?_
          refine OL_skip rfl rfl rfl ?_
          refine OL_skip rfl rfl rfl ?_
          refine OL_sil rfl rfl rfl (Sil.pick1 rfl rfl rfl) ?_
          refine OL_sil rfl rfl rfl (Sil.move rfl rfl) ?_
          refine OL_skip rfl rfl rfl ?_
          refine OL_skip rfl rfl rfl ?_
          refine OL_skip rfl rfl rfl ?_
          refine OL_skip rfl rfl rfl ?_
          refine OL_sil rfl rfl rfl (Sil.pick1 rfl rfl rfl) ?_
          refine OL_nil ?_
          (refine Cont.then_intro (And.intro (by (repeat' (first | exact trivial | refine ⟨rfl, ?_⟩))) (And.intro ?_ rfl)); first | exact slotV rfl (congrArg Value.bool (decide_eq_true (by omega)).symm) | exact slotV rfl (congrArg Value.bool (decide_eq_false (by omega)).symm) | exact slotV rfl (congrArg Value.bool (decide_eq_decide.2 (by omega))) | exact slotV rfl (congrArg Value.bool (decide_not.symm.trans (decide_eq_decide.2 (by omega)))))
        · refine OL_sil rfl rfl rfl (Sil.fieldLoc 1 rfl rfl Try.underlying58 rfl rfl) ?_
          refine OL_sil rfl rfl rfl (by exact Sil.ownV rfl rfl (by first | exact at0 | exact at1 | exact at2 | exact at3 | exact at4 | exact at5 | exact at6 | exact at7 | exact at8 | exact at9 | exact at10 | exact at11 | exact at12 | exact at13 | exact at14 | exact at15) Try.underlying3 rfl (by rfl)) ?_
          refine OL_sil rfl rfl rfl (Sil.gtr rfl rfl rfl) ?_
          refine OL_sil rfl rfl rfl (Sil.pick0 rfl rfl rfl) ?_
          refine OL_sil rfl rfl rfl (Sil.move rfl rfl) ?_
          refine OL_dec 23 rfl (fun ht23 => ?_) (fun ht23 => ?_)
          · refine OL_skip rfl rfl rfl ?_
            refine OL_skip rfl rfl rfl ?_
            refine OL_skip rfl rfl rfl ?_
            refine OL_skip rfl rfl rfl ?_
            refine OL_sil rfl rfl rfl (Sil.pick1 rfl rfl rfl) ?_
            refine OL_nil ?_
            (refine Cont.then_intro (And.intro (by (repeat' (first | exact trivial | refine ⟨rfl, ?_⟩))) (And.intro ?_ rfl)); first | exact slotV rfl (congrArg Value.bool (decide_eq_true (by omega)).symm) | exact slotV rfl (congrArg Value.bool (decide_eq_false (by omega)).symm) | exact slotV rfl (congrArg Value.bool (decide_eq_decide.2 (by omega))) | exact slotV rfl (congrArg Value.bool (decide_not.symm.trans (decide_eq_decide.2 (by omega)))))
          · refine OL_sil rfl rfl rfl (Sil.fieldLoc 2 rfl rfl Try.underlying58 rfl rfl) ?_
            refine OL_sil rfl rfl rfl (by exact Sil.ownV rfl rfl (by first | exact at0 | exact at1 | exact at2 | exact at3 | exact at4 | exact at5 | exact at6 | exact at7 | exact at8 | exact at9 | exact at10 | exact at11 | exact at12 | exact at13 | exact at14 | exact at15) Try.underlying41 rfl (by rfl)) ?_
            refine OL_sil rfl rfl rfl (Sil.lenSl rfl rfl Try.underlying41) ?_
            refine OL_sil rfl rfl rfl (Sil.gtr rfl rfl rfl) ?_
            refine OL_sil rfl rfl rfl (Sil.pick0 rfl rfl rfl) ?_
            refine OL_nil ?_
            (refine Cont.then_intro (And.intro (by (repeat' (first | exact trivial | refine ⟨rfl, ?_⟩))) (And.intro ?_ rfl)); first | exact slotV rfl (congrArg Value.bool (decide_eq_true (by omega)).symm) | exact slotV rfl (congrArg Value.bool (decide_eq_false (by omega)).symm) | exact slotV rfl (congrArg Value.bool (decide_eq_decide.2 (by omega))) | exact slotV rfl (congrArg Value.bool (decide_not.symm.trans (decide_eq_decide.2 (by omega)))))
  refine TC_if rfl (fun ht28 => ?_) (fun ht28 => ?_)
  · refine TC_seq ?_
    refine TC_region ?_
    refine OL_sil rfl rfl rfl (Sil.assign rfl rfl) ?_
    refine OL_nil ?_
    refine TC_ret ?_
    exact ret1 rfl rfl ⟨congrArg Value.bool (decide_eq_false (fun h => h.1 (.inl ht28))).symm, rfl⟩
  · refine TC_skip ?_
    refine TC_seq ?_
    refine TC_seq ?_
    refine TC_bool 42 ((e.ops.length : Int) = 0 ∧ (e.p = 1 ∨ e.p = 2)) ?_ ?_
    · refine TC_region ?_
      refine OL_sil rfl rfl rfl (Sil.fieldLoc 2 rfl rfl Try.underlying58 rfl rfl) ?_
      refine OL_sil rfl rfl rfl (by exact Sil.ownV rfl rfl (by first | exact at0 | exact at1 | exact at2 | exact at3 | exact at4 | exact at5 | exact at6 | exact at7 | exact at8 | exact at9 | exact at10 | exact at11 | exact at12 | exact at13 | exact at14 | exact at15) Try.underlying41 rfl (by rfl)) ?_
      refine OL_sil rfl rfl rfl (Sil.lenSl rfl rfl Try.underlying41) ?_
      refine OL_sil rfl rfl rfl (Sil.eql rfl rfl rfl) ?_
      refine OL_sil rfl rfl rfl (Sil.move rfl rfl) ?_
      refine OL_dec 33 rfl (fun ht33 => ?_) (fun ht33 => ?_)
      · refine OL_sil rfl rfl rfl (Sil.fieldLoc 0 rfl rfl Try.underlying58 rfl rfl) ?_
        refine OL_sil rfl rfl rfl (by exact Sil.ownV rfl rfl (by first | exact at0 | exact at1 | exact at2 | exact at3 | exact at4 | exact at5 | exact at6 | exact at7 | exact at8 | exact at9 | exact at10 | exact at11 | exact at12 | exact at13 | exact at14 | exact at15) Try.underlying3 rfl (by rfl)) ?_
        refine OL_sil rfl rfl rfl (Sil.eql rfl rfl rfl) ?_
        refine OL_sil rfl rfl rfl (Sil.move rfl rfl) ?_
        refine OL_dec 37 rfl (fun ht37 => ?_) (fun ht37 => ?_)
        · refine OL_skip rfl rfl rfl ?_
          refine OL_skip rfl rfl rfl ?_
          refine OL_skip rfl rfl rfl ?_
          refine OL_sil rfl rfl rfl (Sil.pick1 rfl rfl rfl) ?_
          refine OL_sil rfl rfl rfl (Sil.pick1 rfl rfl rfl) ?_
          refine OL_nil ?_
          (refine Cont.then_intro (And.intro (by (repeat' (first | exact trivial | refine ⟨rfl, ?_⟩))) (And.intro ?_ rfl)); first | exact slotV rfl (congrArg Value.bool (decide_eq_true (by omega)).symm) | exact slotV rfl (congrArg Value.bool (decide_eq_false (by omega)).symm) | exact slotV rfl (congrArg Value.bool (decide_eq_decide.2 (by omega))) | exact slotV rfl (congrArg Value.bool (decide_not.symm.trans (decide_eq_decide.2 (by omega)))))
        · refine OL_sil rfl rfl rfl (Sil.fieldLoc 0 rfl rfl Try.underlying58 rfl rfl) ?_
          refine OL_sil rfl rfl rfl (by exact Sil.ownV rfl rfl (by first | exact at0 | exact at1 | exact at2 | exact at3 | exact at4 | exact at5 | exact at6 | exact at7 | exact at8 | exact at9 | exact at10 | exact at11 | exact at12 | exact at13 | exact at14 | exact at15) Try.underlying3 rfl (by rfl)) ?_
          refine OL_sil rfl rfl rfl (Sil.eql rfl rfl rfl) ?_
          refine OL_sil rfl rfl rfl (Sil.pick0 rfl rfl rfl) ?_
          refine OL_sil rfl rfl rfl (Sil.pick1 rfl rfl rfl) ?_
          refine OL_nil ?_
          (refine Cont.then_intro (And.intro (by (repeat' (first | exact trivial | refine ⟨rfl, ?_⟩))) (And.intro ?_ rfl)); first | exact slotV rfl (congrArg Value.bool (decide_eq_true (by omega)).symm) | exact slotV rfl (congrArg Value.bool (decide_eq_false (by omega)).symm) | exact slotV rfl (congrArg Value.bool (decide_eq_decide.2 (by omega))) | exact slotV rfl (congrArg Value.bool (decide_not.symm.trans (decide_eq_decide.2 (by omega)))))
      · refine OL_skip rfl rfl rfl ?_
        refine OL_skip rfl rfl rfl ?_
        refine OL_skip rfl rfl rfl ?_
        refine OL_skip rfl rfl rfl ?_
        refine OL_skip rfl rfl rfl ?_
        refine OL_skip rfl rfl rfl ?_
        refine OL_skip rfl rfl rfl ?_
        refine OL_skip rfl rfl rfl ?_
        refine OL_sil rfl rfl rfl (Sil.pick0 rfl rfl rfl) ?_
        refine OL_nil ?_
        (refine Cont.then_intro (And.intro (by (repeat' (first | exact trivial | refine ⟨rfl, ?_⟩))) (And.intro ?_ rfl)); first | exact slotV rfl (congrArg Value.bool (decide_eq_true (by omega)).symm) | exact slotV rfl (congrArg Value.bool (decide_eq_false (by omega)).symm) | exact slotV rfl (congrArg Value.bool (decide_eq_decide.2 (by omega))) | exact slotV rfl (congrArg Value.bool (decide_not.symm.trans (decide_eq_decide.2 (by omega)))))
    refine TC_if rfl (fun ht42 => ?_) (fun ht42 => ?_)
    · refine TC_seq ?_
      refine TC_region ?_
      refine OL_sil rfl rfl rfl (Sil.assign rfl rfl) ?_
      refine OL_nil ?_
      refine TC_ret ?_
      exact ret1 rfl rfl ⟨congrArg Value.bool (decide_eq_false (fun h => h.1 (.inr ht42))).symm, rfl⟩
    · refine TC_skip ?_
      refine TC_seq ?_
      refine TC_seq ?_
      refine TC_region ?_
      refine OL_sil rfl rfl rfl (Sil.fieldLoc 2 rfl rfl Try.underlying58 rfl rfl) ?_
      refine OL_sil rfl rfl rfl (by exact Sil.ownV rfl rfl (by first | exact at0 | exact at1 | exact at2 | exact at3 | exact at4 | exact at5 | exact at6 | exact at7 | exact at8 | exact at9 | exact at10 | exact at11 | exact at12 | exact at13 | exact at14 | exact at15) Try.underlying41 rfl (by rfl)) ?_
      refine OL_sil rfl rfl rfl (Sil.lenSl rfl rfl Try.underlying41) ?_
      refine OL_sil rfl rfl rfl (Sil.move rfl rfl) ?_
      refine OL_nil ?_
      refine TC_block ?_
      refine TC_loop (fun i : Nat => [(1, .pointer (some ⟨b1, 0, none⟩)), (44, .slice a e.ops.length cap), (45, .int .i64 e.ops.length), (46, .int .i64 i)]) (fun _ => [blk b1 (.cells (rcC e (.slice a e.ops.length cap)).toArray 58 (0, 0))]) (fun i => i ≤ e.ops.length ∧ ∀ j o, j < i → e.ops[j]? = some o → ¬ badO e.p o) (fun i => e.ops.length - i) 0 ?_ ?_
      · exact ⟨⟨Nat.zero_le _, fun j o h => absurd h (by omega)⟩, ⟨rfl, rfl, rfl, rfl, trivial⟩, List.Sublist.refl _⟩
      · intro i hi
        refine TC_seq ?_
        refine TC_region ?_
        refine OL_sil rfl rfl rfl (Sil.lss rfl rfl rfl) ?_
        refine OL_nil ?_
        refine TC_seq ?_
        refine TC_if rfl (fun ht47 => ?_) (fun ht47 => ?_)
        · obtain ⟨o, ho⟩ := nthSome ht47
          obtain ⟨x, rfl, hcx⟩ := hx.2 i o ho
          refine TC_skip ?_
          refine TC_seq ?_
          refine TC_block ?_
          refine TC_seq ?_
          refine TC_region ?_
          refine OL_sil rfl rfl rfl (Sil.indexSl i rfl rfl rfl Try.underlying41 rfl rfl (by omega)) ?_
          refine OL_sil rfl rfl rfl (Sil.oldS rfl rfl hcx Try.underlying40 rfl rfl rfl) ?_
          refine OL_loud rfl rfl rfl (LO.alloc rfl rfl) ?_
          rintro _ _ ⟨b4, _, rfl, rfl⟩
          refine OL_loud0 rfl rfl (by first | exact LO.storeAllV rfl rfl rfl (by first | exact at0 | exact at1 | exact at2 | exact at3 | exact at4 | exact at5 | exact at6 | exact at7 | exact at8 | exact at9 | exact at10 | exact at11 | exact at12 | exact at13 | exact at14 | exact at15) (by rfl) (by rfl) (by rfl) (by rfl) | exact LO.store1V rfl rfl rfl (by first | exact at0 | exact at1 | exact at2 | exact at3 | exact at4 | exact at5 | exact at6 | exact at7 | exact at8 | exact at9 | exact at10 | exact at11 | exact at12 | exact at13 | exact at14 | exact at15) (by rfl) (by rfl) (by rfl)) ?_
          rintro _ _ ⟨rfl, rfl⟩
          refine OL_nil ?_
          refine TC_seq ?_
          refine TC_seq ?_
          refine TC_bool 77 (o.k ≠ 1 ∧ o.k ≠ 2 ∨ o.key < 0 ∨ o.key > 15 ∨ o.val < 0 ∨ o.val ≥ 1099511627776) ?_ ?_
          · refine TC_region ?_
            refine OL_sil rfl rfl rfl (Sil.fieldLoc 0 rfl rfl Try.underlying40 rfl rfl) ?_
            refine OL_sil rfl rfl rfl (by exact Sil.ownV rfl rfl (by first | exact at0 | exact at1 | exact at2 | exact at3 | exact at4 | exact at5 | exact at6 | exact at7 | exact at8 | exact at9 | exact at10 | exact at11 | exact at12 | exact at13 | exact at14 | exact at15) Try.underlying3 rfl (by rfl)) ?_
            refine OL_sil rfl rfl rfl (Sil.neq rfl rfl rfl) ?_
            refine OL_sil rfl rfl rfl (Sil.move rfl rfl) ?_
            refine OL_decn 53 rfl (fun ht53 => ?_) (fun ht53 => ?_)
            · refine OL_sil rfl rfl rfl (Sil.fieldLoc 0 rfl rfl Try.underlying40 rfl rfl) ?_
              refine OL_sil rfl rfl rfl (by exact Sil.ownV rfl rfl (by first | exact at0 | exact at1 | exact at2 | exact at3 | exact at4 | exact at5 | exact at6 | exact at7 | exact at8 | exact at9 | exact at10 | exact at11 | exact at12 | exact at13 | exact at14 | exact at15) Try.underlying3 rfl (by rfl)) ?_
              refine OL_sil rfl rfl rfl (Sil.neq rfl rfl rfl) ?_
              refine OL_sil rfl rfl rfl (Sil.pick1 rfl rfl rfl) ?_
              refine OL_sil rfl rfl rfl (Sil.move rfl rfl) ?_
              refine OL_decn 58 rfl (fun ht58 => ?_) (fun ht58 => ?_)
              · refine OL_skip rfl rfl rfl ?_
                refine OL_skip rfl rfl rfl ?_
                refine OL_skip rfl rfl rfl ?_
                refine OL_sil rfl rfl rfl (Sil.pick1 rfl rfl rfl) ?_
                refine OL_sil rfl rfl rfl (Sil.move rfl rfl) ?_
                refine OL_skip rfl rfl rfl ?_
                refine OL_skip rfl rfl rfl ?_
                refine OL_skip rfl rfl rfl ?_
                refine OL_sil rfl rfl rfl (Sil.pick1 rfl rfl rfl) ?_
                refine OL_sil rfl rfl rfl (Sil.move rfl rfl) ?_
                refine OL_skip rfl rfl rfl ?_
                refine OL_skip rfl rfl rfl ?_
                refine OL_skip rfl rfl rfl ?_
                refine OL_sil rfl rfl rfl (Sil.pick1 rfl rfl rfl) ?_
                refine OL_sil rfl rfl rfl (Sil.move rfl rfl) ?_
                refine OL_skip rfl rfl rfl ?_
                refine OL_skip rfl rfl rfl ?_
                refine OL_skip rfl rfl rfl ?_
                refine OL_sil rfl rfl rfl (Sil.pick1 rfl rfl rfl) ?_
                refine OL_nil ?_
                (refine Cont.then_intro (And.intro (by (repeat' (first | exact trivial | refine ⟨rfl, ?_⟩))) (And.intro ?_ rfl)); first | exact slotV rfl (congrArg Value.bool (decide_eq_true (by omega)).symm) | exact slotV rfl (congrArg Value.bool (decide_eq_false (by omega)).symm) | exact slotV rfl (congrArg Value.bool (decide_eq_decide.2 (by omega))) | exact slotV rfl (congrArg Value.bool (decide_not.symm.trans (decide_eq_decide.2 (by omega)))))
              · refine OL_sil rfl rfl rfl (Sil.fieldLoc 1 rfl rfl Try.underlying40 rfl rfl) ?_
                refine OL_sil rfl rfl rfl (by exact Sil.ownV rfl rfl (by first | exact at0 | exact at1 | exact at2 | exact at3 | exact at4 | exact at5 | exact at6 | exact at7 | exact at8 | exact at9 | exact at10 | exact at11 | exact at12 | exact at13 | exact at14 | exact at15) Try.underlying3 rfl (by rfl)) ?_
                refine OL_sil rfl rfl rfl (Sil.lss rfl rfl rfl) ?_
                refine OL_sil rfl rfl rfl (Sil.pick0 rfl rfl rfl) ?_
                refine OL_sil rfl rfl rfl (Sil.move rfl rfl) ?_
                refine OL_dec 63 rfl (fun ht63 => ?_) (fun ht63 => ?_)
                · refine OL_skip rfl rfl rfl ?_
                  refine OL_skip rfl rfl rfl ?_
                  refine OL_skip rfl rfl rfl ?_
                  refine OL_sil rfl rfl rfl (Sil.pick1 rfl rfl rfl) ?_
                  refine OL_sil rfl rfl rfl (Sil.move rfl rfl) ?_
                  refine OL_skip rfl rfl rfl ?_
                  refine OL_skip rfl rfl rfl ?_
                  refine OL_skip rfl rfl rfl ?_
                  refine OL_sil rfl rfl rfl (Sil.pick1 rfl rfl rfl) ?_
                  refine OL_sil rfl rfl rfl (Sil.move rfl rfl) ?_
                  refine OL_skip rfl rfl rfl ?_
                  refine OL_skip rfl rfl rfl ?_
                  refine OL_skip rfl rfl rfl ?_
                  refine OL_sil rfl rfl rfl (Sil.pick1 rfl rfl rfl) ?_
                  refine OL_nil ?_
                  (refine Cont.then_intro (And.intro (by (repeat' (first | exact trivial | refine ⟨rfl, ?_⟩))) (And.intro ?_ rfl)); first | exact slotV rfl (congrArg Value.bool (decide_eq_true (by omega)).symm) | exact slotV rfl (congrArg Value.bool (decide_eq_false (by omega)).symm) | exact slotV rfl (congrArg Value.bool (decide_eq_decide.2 (by omega))) | exact slotV rfl (congrArg Value.bool (decide_not.symm.trans (decide_eq_decide.2 (by omega)))))
                · refine OL_sil rfl rfl rfl (Sil.fieldLoc 1 rfl rfl Try.underlying40 rfl rfl) ?_
                  refine OL_sil rfl rfl rfl (by exact Sil.ownV rfl rfl (by first | exact at0 | exact at1 | exact at2 | exact at3 | exact at4 | exact at5 | exact at6 | exact at7 | exact at8 | exact at9 | exact at10 | exact at11 | exact at12 | exact at13 | exact at14 | exact at15) Try.underlying3 rfl (by rfl)) ?_
                  refine OL_sil rfl rfl rfl (Sil.gtr rfl rfl rfl) ?_
                  refine OL_sil rfl rfl rfl (Sil.pick0 rfl rfl rfl) ?_
                  refine OL_sil rfl rfl rfl (Sil.move rfl rfl) ?_
                  refine OL_dec 68 rfl (fun ht68 => ?_) (fun ht68 => ?_)
                  · refine OL_skip rfl rfl rfl ?_
                    refine OL_skip rfl rfl rfl ?_
                    refine OL_skip rfl rfl rfl ?_
                    refine OL_sil rfl rfl rfl (Sil.pick1 rfl rfl rfl) ?_
                    refine OL_sil rfl rfl rfl (Sil.move rfl rfl) ?_
                    refine OL_skip rfl rfl rfl ?_
                    refine OL_skip rfl rfl rfl ?_
                    refine OL_skip rfl rfl rfl ?_
                    refine OL_sil rfl rfl rfl (Sil.pick1 rfl rfl rfl) ?_
                    refine OL_nil ?_
                    (refine Cont.then_intro (And.intro (by (repeat' (first | exact trivial | refine ⟨rfl, ?_⟩))) (And.intro ?_ rfl)); first | exact slotV rfl (congrArg Value.bool (decide_eq_true (by omega)).symm) | exact slotV rfl (congrArg Value.bool (decide_eq_false (by omega)).symm) | exact slotV rfl (congrArg Value.bool (decide_eq_decide.2 (by omega))) | exact slotV rfl (congrArg Value.bool (decide_not.symm.trans (decide_eq_decide.2 (by omega)))))
                  · refine OL_sil rfl rfl rfl (Sil.fieldLoc 2 rfl rfl Try.underlying40 rfl rfl) ?_
                    refine OL_sil rfl rfl rfl (by exact Sil.ownV rfl rfl (by first | exact at0 | exact at1 | exact at2 | exact at3 | exact at4 | exact at5 | exact at6 | exact at7 | exact at8 | exact at9 | exact at10 | exact at11 | exact at12 | exact at13 | exact at14 | exact at15) Try.underlying3 rfl (by rfl)) ?_
                    refine OL_sil rfl rfl rfl (Sil.lss rfl rfl rfl) ?_
                    refine OL_sil rfl rfl rfl (Sil.pick0 rfl rfl rfl) ?_
                    refine OL_sil rfl rfl rfl (Sil.move rfl rfl) ?_
                    refine OL_dec 73 rfl (fun ht73 => ?_) (fun ht73 => ?_)
                    · refine OL_skip rfl rfl rfl ?_
                      refine OL_skip rfl rfl rfl ?_
                      refine OL_skip rfl rfl rfl ?_
                      refine OL_sil rfl rfl rfl (Sil.pick1 rfl rfl rfl) ?_
                      refine OL_nil ?_
                      (refine Cont.then_intro (And.intro (by (repeat' (first | exact trivial | refine ⟨rfl, ?_⟩))) (And.intro ?_ rfl)); first | exact slotV rfl (congrArg Value.bool (decide_eq_true (by omega)).symm) | exact slotV rfl (congrArg Value.bool (decide_eq_false (by omega)).symm) | exact slotV rfl (congrArg Value.bool (decide_eq_decide.2 (by omega))) | exact slotV rfl (congrArg Value.bool (decide_not.symm.trans (decide_eq_decide.2 (by omega)))))
                    · refine OL_sil rfl rfl rfl (Sil.fieldLoc 2 rfl rfl Try.underlying40 rfl rfl) ?_
                      refine OL_sil rfl rfl rfl (by exact Sil.ownV rfl rfl (by first | exact at0 | exact at1 | exact at2 | exact at3 | exact at4 | exact at5 | exact at6 | exact at7 | exact at8 | exact at9 | exact at10 | exact at11 | exact at12 | exact at13 | exact at14 | exact at15) Try.underlying3 rfl (by rfl)) ?_
                      refine OL_sil rfl rfl rfl (Sil.geq rfl rfl rfl) ?_
                      refine OL_sil rfl rfl rfl (Sil.pick0 rfl rfl rfl) ?_
                      refine OL_nil ?_
                      (refine Cont.then_intro (And.intro (by (repeat' (first | exact trivial | refine ⟨rfl, ?_⟩))) (And.intro ?_ rfl)); first | exact slotV rfl (congrArg Value.bool (decide_eq_true (by omega)).symm) | exact slotV rfl (congrArg Value.bool (decide_eq_false (by omega)).symm) | exact slotV rfl (congrArg Value.bool (decide_eq_decide.2 (by omega))) | exact slotV rfl (congrArg Value.bool (decide_not.symm.trans (decide_eq_decide.2 (by omega)))))
            · refine OL_skip rfl rfl rfl ?_
              refine OL_skip rfl rfl rfl ?_
              refine OL_skip rfl rfl rfl ?_
              refine OL_sil rfl rfl rfl (Sil.pick0 rfl rfl rfl) ?_
              refine OL_sil rfl rfl rfl (Sil.move rfl rfl) ?_
              refine OL_sil rfl rfl rfl (Sil.fieldLoc 1 rfl rfl Try.underlying40 rfl rfl) ?_
              refine OL_sil rfl rfl rfl (by exact Sil.ownV rfl rfl (by first | exact at0 | exact at1 | exact at2 | exact at3 | exact at4 | exact at5 | exact at6 | exact at7 | exact at8 | exact at9 | exact at10 | exact at11 | exact at12 | exact at13 | exact at14 | exact at15) Try.underlying3 rfl (by rfl)) ?_
              refine OL_sil rfl rfl rfl (Sil.lss rfl rfl rfl) ?_
              refine OL_sil rfl rfl rfl (Sil.pick0 rfl rfl rfl) ?_
              refine OL_sil rfl rfl rfl (Sil.move rfl rfl) ?_
              refine OL_dec 63 rfl (fun ht63 => ?_) (fun ht63 => ?_)
              · refine OL_skip rfl rfl rfl ?_
                refine OL_skip rfl rfl rfl ?_
                refine OL_skip rfl rfl rfl ?_
                refine OL_sil rfl rfl rfl (Sil.pick1 rfl rfl rfl) ?_
                refine OL_sil rfl rfl rfl (Sil.move rfl rfl) ?_
                refine OL_skip rfl rfl rfl ?_
                refine OL_skip rfl rfl rfl ?_
                refine OL_skip rfl rfl rfl ?_
                refine OL_sil rfl rfl rfl (Sil.pick1 rfl rfl rfl) ?_
                refine OL_sil rfl rfl rfl (Sil.move rfl rfl) ?_
                refine OL_skip rfl rfl rfl ?_
                refine OL_skip rfl rfl rfl ?_
                refine OL_skip rfl rfl rfl ?_
                refine OL_sil rfl rfl rfl (Sil.pick1 rfl rfl rfl) ?_
                refine OL_nil ?_
                (refine Cont.then_intro (And.intro (by (repeat' (first | exact trivial | refine ⟨rfl, ?_⟩))) (And.intro ?_ rfl)); first | exact slotV rfl (congrArg Value.bool (decide_eq_true (by omega)).symm) | exact slotV rfl (congrArg Value.bool (decide_eq_false (by omega)).symm) | exact slotV rfl (congrArg Value.bool (decide_eq_decide.2 (by omega))) | exact slotV rfl (congrArg Value.bool (decide_not.symm.trans (decide_eq_decide.2 (by omega)))))
              · refine OL_sil rfl rfl rfl (Sil.fieldLoc 1 rfl rfl Try.underlying40 rfl rfl) ?_
                refine OL_sil rfl rfl rfl (by exact Sil.ownV rfl rfl (by first | exact at0 | exact at1 | exact at2 | exact at3 | exact at4 | exact at5 | exact at6 | exact at7 | exact at8 | exact at9 | exact at10 | exact at11 | exact at12 | exact at13 | exact at14 | exact at15) Try.underlying3 rfl (by rfl)) ?_
                refine OL_sil rfl rfl rfl (Sil.gtr rfl rfl rfl) ?_
                refine OL_sil rfl rfl rfl (Sil.pick0 rfl rfl rfl) ?_
                refine OL_sil rfl rfl rfl (Sil.move rfl rfl) ?_
                refine OL_dec 68 rfl (fun ht68 => ?_) (fun ht68 => ?_)
                · refine OL_skip rfl rfl rfl ?_
                  refine OL_skip rfl rfl rfl ?_
                  refine OL_skip rfl rfl rfl ?_
                  refine OL_sil rfl rfl rfl (Sil.pick1 rfl rfl rfl) ?_
                  refine OL_sil rfl rfl rfl (Sil.move rfl rfl) ?_
                  refine OL_skip rfl rfl rfl ?_
                  refine OL_skip rfl rfl rfl ?_
                  refine OL_skip rfl rfl rfl ?_
                  refine OL_sil rfl rfl rfl (Sil.pick1 rfl rfl rfl) ?_
                  refine OL_nil ?_
                  (refine Cont.then_intro (And.intro (by (repeat' (first | exact trivial | refine ⟨rfl, ?_⟩))) (And.intro ?_ rfl)); first | exact slotV rfl (congrArg Value.bool (decide_eq_true (by omega)).symm) | exact slotV rfl (congrArg Value.bool (decide_eq_false (by omega)).symm) | exact slotV rfl (congrArg Value.bool (decide_eq_decide.2 (by omega))) | exact slotV rfl (congrArg Value.bool (decide_not.symm.trans (decide_eq_decide.2 (by omega)))))
                · refine OL_sil rfl rfl rfl (Sil.fieldLoc 2 rfl rfl Try.underlying40 rfl rfl) ?_
                  refine OL_sil rfl rfl rfl (by exact Sil.ownV rfl rfl (by first | exact at0 | exact at1 | exact at2 | exact at3 | exact at4 | exact at5 | exact at6 | exact at7 | exact at8 | exact at9 | exact at10 | exact at11 | exact at12 | exact at13 | exact at14 | exact at15) Try.underlying3 rfl (by rfl)) ?_
                  refine OL_sil rfl rfl rfl (Sil.lss rfl rfl rfl) ?_
                  refine OL_sil rfl rfl rfl (Sil.pick0 rfl rfl rfl) ?_
                  refine OL_sil rfl rfl rfl (Sil.move rfl rfl) ?_
                  refine OL_dec 73 rfl (fun ht73 => ?_) (fun ht73 => ?_)
                  · refine OL_skip rfl rfl rfl ?_
                    refine OL_skip rfl rfl rfl ?_
                    refine OL_skip rfl rfl rfl ?_
                    refine OL_sil rfl rfl rfl (Sil.pick1 rfl rfl rfl) ?_
                    refine OL_nil ?_
                    (refine Cont.then_intro (And.intro (by (repeat' (first | exact trivial | refine ⟨rfl, ?_⟩))) (And.intro ?_ rfl)); first | exact slotV rfl (congrArg Value.bool (decide_eq_true (by omega)).symm) | exact slotV rfl (congrArg Value.bool (decide_eq_false (by omega)).symm) | exact slotV rfl (congrArg Value.bool (decide_eq_decide.2 (by omega))) | exact slotV rfl (congrArg Value.bool (decide_not.symm.trans (decide_eq_decide.2 (by omega)))))
                  · refine OL_sil rfl rfl rfl (Sil.fieldLoc 2 rfl rfl Try.underlying40 rfl rfl) ?_
                    refine OL_sil rfl rfl rfl (by exact Sil.ownV rfl rfl (by first | exact at0 | exact at1 | exact at2 | exact at3 | exact at4 | exact at5 | exact at6 | exact at7 | exact at8 | exact at9 | exact at10 | exact at11 | exact at12 | exact at13 | exact at14 | exact at15) Try.underlying3 rfl (by rfl)) ?_
                    refine OL_sil rfl rfl rfl (Sil.geq rfl rfl rfl) ?_
                    refine OL_sil rfl rfl rfl (Sil.pick0 rfl rfl rfl) ?_
                    refine OL_nil ?_
                    (refine Cont.then_intro (And.intro (by (repeat' (first | exact trivial | refine ⟨rfl, ?_⟩))) (And.intro ?_ rfl)); first | exact slotV rfl (congrArg Value.bool (decide_eq_true (by omega)).symm) | exact slotV rfl (congrArg Value.bool (decide_eq_false (by omega)).symm) | exact slotV rfl (congrArg Value.bool (decide_eq_decide.2 (by omega))) | exact slotV rfl (congrArg Value.bool (decide_not.symm.trans (decide_eq_decide.2 (by omega)))))
          refine TC_if rfl (fun ht77 => ?_) (fun ht77 => ?_)
          · refine TC_seq ?_
            refine TC_region ?_
            refine OL_sil rfl rfl rfl (Sil.assign rfl rfl) ?_
            refine OL_nil ?_
            refine TC_ret ?_
            exact ret1 rfl rfl ⟨congrArg Value.bool (decide_eq_false (fun h => h.2 o (List.mem_of_getElem? ho) (.inl ht77))).symm, rfl⟩
          · refine TC_skip ?_
            refine TC_seq ?_
            refine TC_bool 100 (o.k = 2 ∧ o.val = 0 ∨ o.k = 1 ∧ o.val ≠ 0 ∧ e.p = 1) ?_ ?_
            · refine TC_region ?_
              refine OL_sil rfl rfl rfl (Sil.fieldLoc 0 rfl rfl Try.underlying40 rfl rfl) ?_
              refine OL_sil rfl rfl rfl (by exact Sil.ownV rfl rfl (by first | exact at0 | exact at1 | exact at2 | exact at3 | exact at4 | exact at5 | exact at6 | exact at7 | exact at8 | exact at9 | exact at10 | exact at11 | exact at12 | exact at13 | exact at14 | exact at15) Try.underlying3 rfl (by rfl)) ?_
              refine OL_sil rfl rfl rfl (Sil.eql rfl rfl rfl) ?_
              refine OL_sil rfl rfl rfl (Sil.move rfl rfl) ?_
              refine OL_dec 81 rfl (fun ht81 => ?_) (fun ht81 => ?_)
              · refine OL_sil rfl rfl rfl (Sil.fieldLoc 2 rfl rfl Try.underlying40 rfl rfl) ?_
                refine OL_sil rfl rfl rfl (by exact Sil.ownV rfl rfl (by first | exact at0 | exact at1 | exact at2 | exact at3 | exact at4 | exact at5 | exact at6 | exact at7 | exact at8 | exact at9 | exact at10 | exact at11 | exact at12 | exact at13 | exact at14 | exact at15) Try.underlying3 rfl (by rfl)) ?_
                refine OL_sil rfl rfl rfl (Sil.eql rfl rfl rfl) ?_
                refine OL_sil rfl rfl rfl (Sil.pick1 rfl rfl rfl) ?_
                refine OL_sil rfl rfl rfl (Sil.move rfl rfl) ?_
                refine OL_dec 86 rfl (fun ht86 => ?_) (fun ht86 => ?_)
                · refine OL_skip rfl rfl rfl ?_
                  refine OL_skip rfl rfl rfl ?_
                  refine OL_skip rfl rfl rfl ?_
                  refine OL_skip rfl rfl rfl ?_
                  refine OL_skip rfl rfl rfl ?_
                  refine OL_skip rfl rfl rfl ?_
                  refine OL_skip rfl rfl rfl ?_
                  refine OL_skip rfl rfl rfl ?_
                  refine OL_skip rfl rfl rfl ?_
                  refine OL_skip rfl rfl rfl ?_
                  refine OL_skip rfl rfl rfl ?_
                  refine OL_skip rfl rfl rfl ?_
                  refine OL_skip rfl rfl rfl ?_
                  refine OL_sil rfl rfl rfl (Sil.pick1 rfl rfl rfl) ?_
                  refine OL_nil ?_
                  (refine Cont.then_intro (And.intro (by (repeat' (first | exact trivial | refine ⟨rfl, ?_⟩))) (And.intro ?_ rfl)); first | exact slotV rfl (congrArg Value.bool (decide_eq_true (by omega)).symm) | exact slotV rfl (congrArg Value.bool (decide_eq_false (by omega)).symm) | exact slotV rfl (congrArg Value.bool (decide_eq_decide.2 (by omega))) | exact slotV rfl (congrArg Value.bool (decide_not.symm.trans (decide_eq_decide.2 (by omega)))))
                · refine OL_sil rfl rfl rfl (Sil.fieldLoc 0 rfl rfl Try.underlying40 rfl rfl) ?_
                  refine OL_sil rfl rfl rfl (by exact Sil.ownV rfl rfl (by first | exact at0 | exact at1 | exact at2 | exact at3 | exact at4 | exact at5 | exact at6 | exact at7 | exact at8 | exact at9 | exact at10 | exact at11 | exact at12 | exact at13 | exact at14 | exact at15) Try.underlying3 rfl (by rfl)) ?_
                  refine OL_sil rfl rfl rfl (Sil.eql rfl rfl rfl) ?_
                  refine OL_sil rfl rfl rfl (Sil.move rfl rfl) ?_
                  refine OL_dec 90 rfl (fun ht90 => ?_) (fun ht90 => ?_)
                  · refine OL_sil rfl rfl rfl (Sil.fieldLoc 2 rfl rfl Try.underlying40 rfl rfl) ?_
                    refine OL_sil rfl rfl rfl (by exact Sil.ownV rfl rfl (by first | exact at0 | exact at1 | exact at2 | exact at3 | exact at4 | exact at5 | exact at6 | exact at7 | exact at8 | exact at9 | exact at10 | exact at11 | exact at12 | exact at13 | exact at14 | exact at15) Try.underlying3 rfl (by rfl)) ?_
                    refine OL_sil rfl rfl rfl (Sil.neq rfl rfl rfl) ?_
                    refine OL_sil rfl rfl rfl (Sil.pick1 rfl rfl rfl) ?_
                    refine OL_sil rfl rfl rfl (Sil.move rfl rfl) ?_
                    refine OL_decn 95 rfl (fun ht95 => ?_) (fun ht95 => ?_)
                    · refine OL_sil rfl rfl rfl (Sil.fieldLoc 0 rfl rfl Try.underlying58 rfl rfl) ?_
                      refine OL_sil rfl rfl rfl (by exact Sil.ownV rfl rfl (by first | exact at0 | exact at1 | exact at2 | exact at3 | exact at4 | exact at5 | exact at6 | exact at7 | exact at8 | exact at9 | exact at10 | exact at11 | exact at12 | exact at13 | exact at14 | exact at15) Try.underlying3 rfl (by rfl)) ?_
                      refine OL_sil rfl rfl rfl (Sil.eql rfl rfl rfl) ?_
                      refine OL_sil rfl rfl rfl (Sil.pick1 rfl rfl rfl) ?_
                      refine OL_sil rfl rfl rfl (Sil.pick0 rfl rfl rfl) ?_
                      refine OL_nil ?_
                      (refine Cont.then_intro (And.intro (by (repeat' (first | exact trivial | refine ⟨rfl, ?_⟩))) (And.intro ?_ rfl)); first | exact slotV rfl (congrArg Value.bool (decide_eq_true (by omega)).symm) | exact slotV rfl (congrArg Value.bool (decide_eq_false (by omega)).symm) | exact slotV rfl (congrArg Value.bool (decide_eq_decide.2 (by omega))) | exact slotV rfl (congrArg Value.bool (decide_not.symm.trans (decide_eq_decide.2 (by omega)))))
                    · refine OL_skip rfl rfl rfl ?_
                      refine OL_skip rfl rfl rfl ?_
                      refine OL_skip rfl rfl rfl ?_
                      refine OL_sil rfl rfl rfl (Sil.pick0 rfl rfl rfl) ?_
                      refine OL_sil rfl rfl rfl (Sil.pick0 rfl rfl rfl) ?_
                      refine OL_nil ?_
                      (refine Cont.then_intro (And.intro (by (repeat' (first | exact trivial | refine ⟨rfl, ?_⟩))) (And.intro ?_ rfl)); first | exact slotV rfl (congrArg Value.bool (decide_eq_true (by omega)).symm) | exact slotV rfl (congrArg Value.bool (decide_eq_false (by omega)).symm) | exact slotV rfl (congrArg Value.bool (decide_eq_decide.2 (by omega))) | exact slotV rfl (congrArg Value.bool (decide_not.symm.trans (decide_eq_decide.2 (by omega)))))
                  · refine OL_skip rfl rfl rfl ?_
                    refine OL_skip rfl rfl rfl ?_
                    refine OL_skip rfl rfl rfl ?_
                    refine OL_sil rfl rfl rfl (Sil.pick0 rfl rfl rfl) ?_
                    refine OL_sil rfl rfl rfl (Sil.move rfl rfl) ?_
                    refine OL_skip rfl rfl rfl ?_
                    refine OL_skip rfl rfl rfl ?_
                    refine OL_skip rfl rfl rfl ?_
                    refine OL_sil rfl rfl rfl (Sil.pick0 rfl rfl rfl) ?_
                    refine OL_sil rfl rfl rfl (Sil.pick0 rfl rfl rfl) ?_
                    refine OL_nil ?_
                    (refine Cont.then_intro (And.intro (by (repeat' (first | exact trivial | refine ⟨rfl, ?_⟩))) (And.intro ?_ rfl)); first | exact slotV rfl (congrArg Value.bool (decide_eq_true (by omega)).symm) | exact slotV rfl (congrArg Value.bool (decide_eq_false (by omega)).symm) | exact slotV rfl (congrArg Value.bool (decide_eq_decide.2 (by omega))) | exact slotV rfl (congrArg Value.bool (decide_not.symm.trans (decide_eq_decide.2 (by omega)))))
              · refine OL_skip rfl rfl rfl ?_
                refine OL_skip rfl rfl rfl ?_
                refine OL_skip rfl rfl rfl ?_
                refine OL_sil rfl rfl rfl (Sil.pick0 rfl rfl rfl) ?_
                refine OL_sil rfl rfl rfl (Sil.move rfl rfl) ?_
                refine OL_sil rfl rfl rfl (Sil.fieldLoc 0 rfl rfl Try.underlying40 rfl rfl) ?_
                refine OL_sil rfl rfl rfl (by exact Sil.ownV rfl rfl (by first | exact at0 | exact at1 | exact at2 | exact at3 | exact at4 | exact at5 | exact at6 | exact at7 | exact at8 | exact at9 | exact at10 | exact at11 | exact at12 | exact at13 | exact at14 | exact at15) Try.underlying3 rfl (by rfl)) ?_
                refine OL_sil rfl rfl rfl (Sil.eql rfl rfl rfl) ?_
                refine OL_sil rfl rfl rfl (Sil.move rfl rfl) ?_
                refine OL_dec 90 rfl (fun ht90 => ?_) (fun ht90 => ?_)
                · refine OL_sil rfl rfl rfl (Sil.fieldLoc 2 rfl rfl Try.underlying40 rfl rfl) ?_
                  refine OL_sil rfl rfl rfl (by exact Sil.ownV rfl rfl (by first | exact at0 | exact at1 | exact at2 | exact at3 | exact at4 | exact at5 | exact at6 | exact at7 | exact at8 | exact at9 | exact at10 | exact at11 | exact at12 | exact at13 | exact at14 | exact at15) Try.underlying3 rfl (by rfl)) ?_
                  refine OL_sil rfl rfl rfl (Sil.neq rfl rfl rfl) ?_
                  refine OL_sil rfl rfl rfl (Sil.pick1 rfl rfl rfl) ?_
                  refine OL_sil rfl rfl rfl (Sil.move rfl rfl) ?_
                  refine OL_decn 95 rfl (fun ht95 => ?_) (fun ht95 => ?_)
                  · refine OL_sil rfl rfl rfl (Sil.fieldLoc 0 rfl rfl Try.underlying58 rfl rfl) ?_
                    refine OL_sil rfl rfl rfl (by exact Sil.ownV rfl rfl (by first | exact at0 | exact at1 | exact at2 | exact at3 | exact at4 | exact at5 | exact at6 | exact at7 | exact at8 | exact at9 | exact at10 | exact at11 | exact at12 | exact at13 | exact at14 | exact at15) Try.underlying3 rfl (by rfl)) ?_
                    refine OL_sil rfl rfl rfl (Sil.eql rfl rfl rfl) ?_
                    refine OL_sil rfl rfl rfl (Sil.pick1 rfl rfl rfl) ?_
                    refine OL_sil rfl rfl rfl (Sil.pick0 rfl rfl rfl) ?_
                    refine OL_nil ?_
                    (refine Cont.then_intro (And.intro (by (repeat' (first | exact trivial | refine ⟨rfl, ?_⟩))) (And.intro ?_ rfl)); first | exact slotV rfl (congrArg Value.bool (decide_eq_true (by omega)).symm) | exact slotV rfl (congrArg Value.bool (decide_eq_false (by omega)).symm) | exact slotV rfl (congrArg Value.bool (decide_eq_decide.2 (by omega))) | exact slotV rfl (congrArg Value.bool (decide_not.symm.trans (decide_eq_decide.2 (by omega)))))
                  · refine OL_skip rfl rfl rfl ?_
                    refine OL_skip rfl rfl rfl ?_
                    refine OL_skip rfl rfl rfl ?_
                    refine OL_sil rfl rfl rfl (Sil.pick0 rfl rfl rfl) ?_
                    refine OL_sil rfl rfl rfl (Sil.pick0 rfl rfl rfl) ?_
                    refine OL_nil ?_
                    (refine Cont.then_intro (And.intro (by (repeat' (first | exact trivial | refine ⟨rfl, ?_⟩))) (And.intro ?_ rfl)); first | exact slotV rfl (congrArg Value.bool (decide_eq_true (by omega)).symm) | exact slotV rfl (congrArg Value.bool (decide_eq_false (by omega)).symm) | exact slotV rfl (congrArg Value.bool (decide_eq_decide.2 (by omega))) | exact slotV rfl (congrArg Value.bool (decide_not.symm.trans (decide_eq_decide.2 (by omega)))))
                · refine OL_skip rfl rfl rfl ?_
                  refine OL_skip rfl rfl rfl ?_
                  refine OL_skip rfl rfl rfl ?_
                  refine OL_sil rfl rfl rfl (Sil.pick0 rfl rfl rfl) ?_
                  refine OL_sil rfl rfl rfl (Sil.move rfl rfl) ?_
                  refine OL_skip rfl rfl rfl ?_
                  refine OL_skip rfl rfl rfl ?_
                  refine OL_skip rfl rfl rfl ?_
                  refine OL_sil rfl rfl rfl (Sil.pick0 rfl rfl rfl) ?_
                  refine OL_sil rfl rfl rfl (Sil.pick0 rfl rfl rfl) ?_
                  refine OL_nil ?_
                  (refine Cont.then_intro (And.intro (by (repeat' (first | exact trivial | refine ⟨rfl, ?_⟩))) (And.intro ?_ rfl)); first | exact slotV rfl (congrArg Value.bool (decide_eq_true (by omega)).symm) | exact slotV rfl (congrArg Value.bool (decide_eq_false (by omega)).symm) | exact slotV rfl (congrArg Value.bool (decide_eq_decide.2 (by omega))) | exact slotV rfl (congrArg Value.bool (decide_not.symm.trans (decide_eq_decide.2 (by omega)))))
            refine TC_if rfl (fun ht100 => ?_) (fun ht100 => ?_)
            · refine TC_seq ?_
              refine TC_region ?_
              refine OL_sil rfl rfl rfl (Sil.assign rfl rfl) ?_
              refine OL_nil ?_
              refine TC_ret ?_
              exact ret1 rfl rfl ⟨congrArg Value.bool (decide_eq_false (fun h => h.2 o (List.mem_of_getElem? ho) (.inr ht100))).symm, rfl⟩
            · refine TC_skip ?_
              refine TC_region ?_
              refine OL_sil rfl rfl rfl (Sil.add rfl rfl rfl (by omega) (by omega)) ?_
              refine OL_sil rfl rfl rfl (Sil.move rfl rfl) ?_
              refine OL_nil ?_
              exact ⟨i + 1, ⟨⟨by omega, fun j o' hj ho' => by
                by_cases e' : j = i
                · subst e'; rw [ho] at ho'; cases ho'; exact fun h => h.elim ht77 ht100
                · exact hi.2 j o' (by omega) ho'⟩, ⟨rfl, rfl, rfl, rfl, trivial⟩, List.Sublist.cons_cons _ (List.nil_sublist _)⟩, by omega⟩
        · have hr : right e := ⟨fun h => h.elim ht28 ht42, fun o ho => by obtain ⟨j, hj⟩ := List.mem_iff_getElem?.1 ho; exact hi.2 j o (by have := ltOf hj; omega) hj⟩
          refine TC_exit ?_
          refine TC_seq ?_
          refine TC_region ?_
          refine OL_sil rfl rfl rfl (Sil.assign rfl rfl) ?_
          refine OL_nil ?_
          refine TC_ret ?_
          exact ret1 rfl rfl ⟨congrArg Value.bool (decide_eq_true hr).symm, rfl⟩

/-- Operation i of event t writes what operation j of event k, an Invoke, wrote ahead of it. -/
def hit (es : List RcD) (t i k j : Nat) : Prop := ∃ e o e' p, es[t]? = some e ∧ e.ops[i]? = some o ∧ o.k = 2 ∧ es[k]? = some e' ∧ e'.p = 1 ∧ e'.ops[j]? = some p ∧ (k < t ∨ j < i) ∧ p.k = 2 ∧ p.val = o.val
def twP (es : List RcD) (t : Nat) : Prop := ∃ i k j, k ≤ t ∧ hit es t i k j

theorem twice_gives (es : List RcD) (t : Nat) (e : RcD) (he : es[t]? = some e) (a : Option Addr) (cap : Nat) (w0 : World) (hx : RcsAt w0 a es) :
    Gives Try.prog 38 [.slice a es.length cap, .int .i64 t] w0 [] fun v h => ∃ b : Bool, v = .bool b ∧ (b = true ↔ twP es t) ∧ h = [] := by
  have hm := hx.1
  unfold maxLen at hm
  have htl := ltOf he
  obtain ⟨x, u, rfl, hcx, a1, cap1, rfl, hu⟩ := hx.2 t e he
  have hu1 := hu.1
  unfold maxLen at hu1
  refine gives_of Try.func38 rfl rfl rfl (Own.start w0) ?_
  refine TC_seq ?_
  refine TC_region ?_
  refine OL_sil rfl rfl rfl (Sil.assign rfl rfl) ?_
  refine OL_nil ?_
  refine TC_seq ?_
  refine TC_seq ?_
  refine TC_region ?_
  refine OL_sil rfl rfl rfl (Sil.move rfl rfl) ?_
  refine OL_sil rfl rfl rfl (Sil.move rfl rfl) ?_
  refine OL_sil rfl rfl rfl (Sil.indexSl t rfl rfl rfl Try.underlying22 rfl rfl (by omega)) ?_
  refine OL_sil rfl rfl rfl (Sil.fieldAdd 2 rfl rfl Try.underlying58 rfl rfl) ?_
  refine OL_sil rfl rfl rfl (Sil.oldF 2 rfl (by rw [← add_add]; rfl) hcx Try.underlying41 rfl rfl) ?_
  refine OL_sil rfl rfl rfl (Sil.lenSl rfl rfl Try.underlying41) ?_
  refine OL_sil rfl rfl rfl (Sil.move rfl rfl) ?_
  refine OL_nil ?_
  refine TC_block ?_
  refine TC_loop (fun i : Nat => [(0, .slice (some x) es.length cap), (1, .int .i64 t), (14, .slice a1 e.ops.length cap1), (15, .int .i64 e.ops.length), (16, .int .i64 i)]) (fun _ => []) (fun i => i ≤ e.ops.length ∧ ∀ i' k j, i' < i → k ≤ t → ¬ hit es t i' k j) (fun i => e.ops.length - i) 0 ?_ ?_
  · exact ⟨⟨Nat.zero_le _, fun i' k j h => absurd h (by omega)⟩, ⟨rfl, rfl, rfl, rfl, rfl, trivial⟩, List.Sublist.refl _⟩
  · intro i hi
    refine TC_seq ?_
    refine TC_region ?_
    refine OL_sil rfl rfl rfl (Sil.lss rfl rfl rfl) ?_
    refine OL_nil ?_
    refine TC_seq ?_
    refine TC_if rfl (fun ht17 => ?_) (fun ht17 => ?_)
    · obtain ⟨o, ho⟩ := nthSome ht17
      obtain ⟨x1, rfl, hc1⟩ := hu.2 i o ho
      refine TC_skip ?_
      refine TC_seq ?_
      refine TC_block ?_
      refine TC_seq ?_
      refine TC_region ?_
      refine OL_sil rfl rfl rfl (Sil.move rfl rfl) ?_
      refine OL_sil rfl rfl rfl (Sil.indexSl i rfl rfl rfl Try.underlying41 rfl rfl (by omega)) ?_
      refine OL_sil rfl rfl rfl (Sil.oldS rfl rfl hc1 Try.underlying40 rfl rfl rfl) ?_
      refine OL_loud rfl rfl rfl (LO.alloc rfl rfl) ?_
      rintro _ _ ⟨b6, _, rfl, rfl⟩
      refine OL_sil rfl rfl rfl (Sil.assign rfl rfl) ?_
      refine OL_loud0 rfl rfl (by first | exact LO.storeAllV rfl rfl rfl (by first | exact at0 | exact at1 | exact at2 | exact at3 | exact at4 | exact at5 | exact at6 | exact at7 | exact at8 | exact at9 | exact at10 | exact at11 | exact at12 | exact at13 | exact at14 | exact at15) (by rfl) (by rfl) (by rfl) (by rfl) | exact LO.store1V rfl rfl rfl (by first | exact at0 | exact at1 | exact at2 | exact at3 | exact at4 | exact at5 | exact at6 | exact at7 | exact at8 | exact at9 | exact at10 | exact at11 | exact at12 | exact at13 | exact at14 | exact at15) (by rfl) (by rfl) (by rfl)) ?_
      rintro _ _ ⟨rfl, rfl⟩
      refine OL_nil ?_
      refine TC_seq ?_
      refine TC_seq ?_
      refine TC_region ?_
      refine OL_sil rfl rfl rfl (Sil.fieldLoc 0 rfl rfl Try.underlying40 rfl rfl) ?_
      refine OL_sil rfl rfl rfl (by exact Sil.ownV rfl rfl (by first | exact at0 | exact at1 | exact at2 | exact at3 | exact at4 | exact at5 | exact at6 | exact at7 | exact at8 | exact at9 | exact at10 | exact at11 | exact at12 | exact at13 | exact at14 | exact at15) Try.underlying3 rfl (by rfl)) ?_
      refine OL_sil rfl rfl rfl (Sil.neq rfl rfl rfl) ?_
      refine OL_nil ?_
      refine TC_ifn rfl (fun ht23 => ?_) (fun ht23 => ?_)
      · refine TC_exit ?_
        refine TC_region ?_
        refine OL_sil rfl rfl rfl (Sil.add rfl rfl rfl (by omega) (by omega)) ?_
        refine OL_sil rfl rfl rfl (Sil.move rfl rfl) ?_
        refine OL_nil ?_
        exact ⟨i + 1, ⟨⟨by omega, fun i' k j hi' hk hh => by
          by_cases e' : i' = i
          · subst e'
            obtain ⟨e2, o2, e3, p3, q1, q2, q3, _⟩ := hh
            rw [he] at q1; cases q1
            rw [ho] at q2; cases q2
            exact ht23 q3
          · exact hi.2 i' k j (by omega) hk hh⟩, ⟨rfl, rfl, rfl, rfl, rfl, trivial⟩, List.nil_sublist _⟩, by omega⟩
      · refine TC_skip ?_
        refine TC_seq ?_
        refine TC_region ?_
        refine OL_sil rfl rfl rfl (Sil.assign rfl rfl) ?_
        refine OL_nil ?_
        refine TC_block ?_
        refine TC_loop (fun k : Nat => [(0, .slice (some x) es.length cap), (1, .int .i64 t), (14, .slice (some x1) e.ops.length cap1), (15, .int .i64 e.ops.length), (16, .int .i64 i), (5, .int .i64 i), (6, .pointer (some ⟨b6, 0, none⟩)), (7, .int .i64 k)]) (fun _ => [blk b6 (.cells (iv o.is).toArray 40 (0, 0))]) (fun k => k ≤ t + 1 ∧ ∀ k' j, k' < k → ¬ hit es t i k' j) (fun k => t + 1 - k) 0 ?_ ?_
        · exact ⟨⟨Nat.zero_le _, fun k' j h => absurd h (by omega)⟩, ⟨rfl, rfl, rfl, rfl, rfl, rfl, rfl, rfl, trivial⟩, List.Sublist.refl _⟩
        · intro k hk
          refine TC_seq ?_
          refine TC_seq ?_
          refine TC_region ?_
          refine OL_sil rfl rfl rfl (Sil.move rfl rfl) ?_
          refine OL_sil rfl rfl rfl (Sil.move rfl rfl) ?_
          refine OL_sil rfl rfl rfl (Sil.leq rfl rfl rfl) ?_
          refine OL_nil ?_
          refine TC_if rfl (fun ht26 => ?_) (fun ht26 => ?_)
          · obtain ⟨e1, he1⟩ : ∃ e1, es[k]? = some e1 := ⟨_, List.getElem?_eq_getElem (by omega)⟩
            obtain ⟨x', u', hx', hcx', a2, cap2, rfl, hu2⟩ := hx.2 k e1 he1
            cases hx'
            have hu3 := hu2.1
            unfold maxLen at hu3
            refine TC_skip ?_
            refine TC_seq ?_
            refine TC_block ?_
            refine TC_seq ?_
            refine TC_seq ?_
            refine TC_region ?_
            refine OL_sil rfl rfl rfl (Sil.move rfl rfl) ?_
            refine OL_sil rfl rfl rfl (Sil.move rfl rfl) ?_
            refine OL_sil rfl rfl rfl (Sil.indexSl k rfl rfl rfl Try.underlying22 rfl rfl (by omega)) ?_
            refine OL_sil rfl rfl rfl (Sil.fieldAdd 0 rfl rfl Try.underlying58 rfl rfl) ?_
            refine OL_sil rfl rfl rfl (Sil.oldF 0 rfl (by rw [← add_add]; rfl) hcx' Try.underlying3 rfl rfl) ?_
            refine OL_sil rfl rfl rfl (Sil.neq rfl rfl rfl) ?_
            refine OL_nil ?_
            refine TC_ifn rfl (fun ht34 => ?_) (fun ht34 => ?_)
            · refine TC_exit ?_
              refine TC_region ?_
              refine OL_sil rfl rfl rfl (Sil.move rfl rfl) ?_
              refine OL_sil rfl rfl rfl (Sil.add rfl rfl rfl (by omega) (by omega)) ?_
              refine OL_sil rfl rfl rfl (Sil.assign rfl rfl) ?_
              refine OL_nil ?_
              exact ⟨k + 1, ⟨⟨by omega, fun k' j hk' hh => by
                by_cases e' : k' = k
                · subst e'
                  obtain ⟨e2, o2, e3, p3, q1, q2, q3, q4, q5, _⟩ := hh
                  rw [he1] at q4; cases q4
                  exact ht34 q5
                · exact hk.2 k' j (by omega) hh⟩, ⟨rfl, rfl, rfl, rfl, rfl, rfl, rfl, rfl, trivial⟩, List.Sublist.refl _⟩, by omega⟩
            · refine TC_skip ?_
              refine TC_seq ?_
              refine TC_region ?_
              refine OL_sil rfl rfl rfl (Sil.move rfl rfl) ?_
              refine OL_sil rfl rfl rfl (Sil.move rfl rfl) ?_
              refine OL_sil rfl rfl rfl (Sil.indexSl k rfl rfl rfl Try.underlying22 rfl rfl (by omega)) ?_
              refine OL_sil rfl rfl rfl (Sil.fieldAdd 2 rfl rfl Try.underlying58 rfl rfl) ?_
              refine OL_sil rfl rfl rfl (Sil.oldF 2 rfl (by rw [← add_add]; rfl) hcx' Try.underlying41 rfl rfl) ?_
              refine OL_sil rfl rfl rfl (Sil.lenSl rfl rfl Try.underlying41) ?_
              refine OL_sil rfl rfl rfl (Sil.move rfl rfl) ?_
              refine OL_nil ?_
              refine TC_block ?_
              refine TC_loop (fun j : Nat => [(0, .slice (some x) es.length cap), (1, .int .i64 t), (14, .slice (some x1) e.ops.length cap1), (15, .int .i64 e.ops.length), (16, .int .i64 i), (5, .int .i64 i), (6, .pointer (some ⟨b6, 0, none⟩)), (7, .int .i64 k), (39, .slice a2 e1.ops.length cap2), (40, .int .i64 e1.ops.length), (41, .int .i64 j)]) (fun _ => [blk b6 (.cells (iv o.is).toArray 40 (0, 0))]) (fun j => j ≤ e1.ops.length ∧ ∀ j', j' < j → ¬ hit es t i k j') (fun j => e1.ops.length - j) 0 ?_ ?_
              · exact ⟨⟨Nat.zero_le _, fun j' h => absurd h (by omega)⟩, ⟨rfl, rfl, rfl, rfl, rfl, rfl, rfl, rfl, rfl, rfl, rfl, trivial⟩, List.Sublist.refl _⟩
              · intro j hj
                refine TC_seq ?_
                refine TC_region ?_
                refine OL_sil rfl rfl rfl (Sil.lss rfl rfl rfl) ?_
                refine OL_nil ?_
                refine TC_seq ?_
                refine TC_if rfl (fun ht42 => ?_) (fun ht42 => ?_)
                · obtain ⟨p, hp⟩ := nthSome ht42
                  obtain ⟨x2, rfl, hc2⟩ := hu2.2 j p hp
                  refine TC_skip ?_
                  refine TC_seq ?_
                  refine TC_block ?_
                  refine TC_seq ?_
                  refine TC_region ?_
                  refine OL_sil rfl rfl rfl (Sil.move rfl rfl) ?_
                  refine OL_sil rfl rfl rfl (Sil.indexSl j rfl rfl rfl Try.underlying41 rfl rfl (by omega)) ?_
                  refine OL_sil rfl rfl rfl (Sil.oldS rfl rfl hc2 Try.underlying40 rfl rfl rfl) ?_
                  refine OL_loud rfl rfl rfl (LO.alloc rfl rfl) ?_
                  rintro _ _ ⟨b9, _, rfl, rfl⟩
                  refine OL_sil rfl rfl rfl (Sil.assign rfl rfl) ?_
                  refine OL_loud0 rfl rfl (by first | exact LO.storeAllV rfl rfl rfl (by first | exact at0 | exact at1 | exact at2 | exact at3 | exact at4 | exact at5 | exact at6 | exact at7 | exact at8 | exact at9 | exact at10 | exact at11 | exact at12 | exact at13 | exact at14 | exact at15) (by rfl) (by rfl) (by rfl) (by rfl) | exact LO.store1V rfl rfl rfl (by first | exact at0 | exact at1 | exact at2 | exact at3 | exact at4 | exact at5 | exact at6 | exact at7 | exact at8 | exact at9 | exact at10 | exact at11 | exact at12 | exact at13 | exact at14 | exact at15) (by rfl) (by rfl) (by rfl)) ?_
                  rintro _ _ ⟨rfl, rfl⟩
                  refine OL_nil ?_
                  refine TC_seq ?_
                  refine TC_bool 65 ((k < t ∨ j < i) ∧ p.k = 2 ∧ p.val = o.val) ?_ ?_
                  · refine TC_region ?_
                    refine OL_sil rfl rfl rfl (Sil.move rfl rfl) ?_
                    refine OL_sil rfl rfl rfl (Sil.move rfl rfl) ?_
                    refine OL_sil rfl rfl rfl (Sil.lss rfl rfl rfl) ?_
                    refine OL_sil rfl rfl rfl (Sil.move rfl rfl) ?_
                    refine OL_dec 49 rfl (fun ht49 => ?_) (fun ht49 => ?_)
                    · refine OL_skip rfl rfl rfl ?_
                      refine OL_skip rfl rfl rfl ?_
                      refine OL_skip rfl rfl rfl ?_
                      refine OL_sil rfl rfl rfl (Sil.pick1 rfl rfl rfl) ?_
                      refine OL_sil rfl rfl rfl (Sil.move rfl rfl) ?_
                      refine OL_sil rfl rfl rfl (Sil.fieldLoc 0 rfl rfl Try.underlying40 rfl rfl) ?_
                      refine OL_sil rfl rfl rfl (by exact Sil.ownV rfl rfl (by first | exact at0 | exact at1 | exact at2 | exact at3 | exact at4 | exact at5 | exact at6 | exact at7 | exact at8 | exact at9 | exact at10 | exact at11 | exact at12 | exact at13 | exact at14 | exact at15) Try.underlying3 rfl (by rfl)) ?_
                      refine OL_sil rfl rfl rfl (Sil.eql rfl rfl rfl) ?_
                      refine OL_sil rfl rfl rfl (Sil.pick1 rfl rfl rfl) ?_
                      refine OL_sil rfl rfl rfl (Sil.move rfl rfl) ?_
                      refine OL_dec 59 rfl (fun ht59 => ?_) (fun ht59 => ?_)
                      · refine OL_sil rfl rfl rfl (Sil.fieldLoc 2 rfl rfl Try.underlying40 rfl rfl) ?_
                        refine OL_sil rfl rfl rfl (by exact Sil.ownV rfl rfl (by first | exact at0 | exact at1 | exact at2 | exact at3 | exact at4 | exact at5 | exact at6 | exact at7 | exact at8 | exact at9 | exact at10 | exact at11 | exact at12 | exact at13 | exact at14 | exact at15) Try.underlying3 rfl (by rfl)) ?_
                        refine OL_sil rfl rfl rfl (Sil.fieldLoc 2 rfl rfl Try.underlying40 rfl rfl) ?_
                        refine OL_sil rfl rfl rfl (by exact Sil.ownV rfl rfl (by first | exact at0 | exact at1 | exact at2 | exact at3 | exact at4 | exact at5 | exact at6 | exact at7 | exact at8 | exact at9 | exact at10 | exact at11 | exact at12 | exact at13 | exact at14 | exact at15) Try.underlying3 rfl (by rfl)) ?_
                        refine OL_sil rfl rfl rfl (Sil.eql rfl rfl rfl) ?_
                        refine OL_sil rfl rfl rfl (Sil.pick1 rfl rfl rfl) ?_
                        refine OL_nil ?_
                        (refine Cont.then_intro (And.intro (by (repeat' (first | exact trivial | refine ⟨rfl, ?_⟩))) (And.intro ?_ rfl)); first | exact slotV rfl (congrArg Value.bool (decide_eq_true (by omega)).symm) | exact slotV rfl (congrArg Value.bool (decide_eq_false (by omega)).symm) | exact slotV rfl (congrArg Value.bool (decide_eq_decide.2 (by omega))) | exact slotV rfl (congrArg Value.bool (decide_not.symm.trans (decide_eq_decide.2 (by omega)))))
                      · refine OL_skip rfl rfl rfl ?_
                        refine OL_skip rfl rfl rfl ?_
                        refine OL_skip rfl rfl rfl ?_
                        refine OL_skip rfl rfl rfl ?_
                        refine OL_skip rfl rfl rfl ?_
                        refine OL_sil rfl rfl rfl (Sil.pick0 rfl rfl rfl) ?_
                        refine OL_nil ?_
                        (refine Cont.then_intro (And.intro (by (repeat' (first | exact trivial | refine ⟨rfl, ?_⟩))) (And.intro ?_ rfl)); first | exact slotV rfl (congrArg Value.bool (decide_eq_true (by omega)).symm) | exact slotV rfl (congrArg Value.bool (decide_eq_false (by omega)).symm) | exact slotV rfl (congrArg Value.bool (decide_eq_decide.2 (by omega))) | exact slotV rfl (congrArg Value.bool (decide_not.symm.trans (decide_eq_decide.2 (by omega)))))
                    · refine OL_sil rfl rfl rfl (Sil.move rfl rfl) ?_
                      refine OL_sil rfl rfl rfl (Sil.move rfl rfl) ?_
                      refine OL_sil rfl rfl rfl (Sil.lss rfl rfl rfl) ?_
                      refine OL_sil rfl rfl rfl (Sil.pick0 rfl rfl rfl) ?_
                      refine OL_sil rfl rfl rfl (Sil.move rfl rfl) ?_
                      refine OL_dec 54 rfl (fun ht54 => ?_) (fun ht54 => ?_)
                      · refine OL_sil rfl rfl rfl (Sil.fieldLoc 0 rfl rfl Try.underlying40 rfl rfl) ?_
                        refine OL_sil rfl rfl rfl (by exact Sil.ownV rfl rfl (by first | exact at0 | exact at1 | exact at2 | exact at3 | exact at4 | exact at5 | exact at6 | exact at7 | exact at8 | exact at9 | exact at10 | exact at11 | exact at12 | exact at13 | exact at14 | exact at15) Try.underlying3 rfl (by rfl)) ?_
                        refine OL_sil rfl rfl rfl (Sil.eql rfl rfl rfl) ?_
                        refine OL_sil rfl rfl rfl (Sil.pick1 rfl rfl rfl) ?_
                        refine OL_sil rfl rfl rfl (Sil.move rfl rfl) ?_
                        refine OL_dec 59 rfl (fun ht59 => ?_) (fun ht59 => ?_)
                        · refine OL_sil rfl rfl rfl (Sil.fieldLoc 2 rfl rfl Try.underlying40 rfl rfl) ?_
                          refine OL_sil rfl rfl rfl (by exact Sil.ownV rfl rfl (by first | exact at0 | exact at1 | exact at2 | exact at3 | exact at4 | exact at5 | exact at6 | exact at7 | exact at8 | exact at9 | exact at10 | exact at11 | exact at12 | exact at13 | exact at14 | exact at15) Try.underlying3 rfl (by rfl)) ?_
                          refine OL_sil rfl rfl rfl (Sil.fieldLoc 2 rfl rfl Try.underlying40 rfl rfl) ?_
                          refine OL_sil rfl rfl rfl (by exact Sil.ownV rfl rfl (by first | exact at0 | exact at1 | exact at2 | exact at3 | exact at4 | exact at5 | exact at6 | exact at7 | exact at8 | exact at9 | exact at10 | exact at11 | exact at12 | exact at13 | exact at14 | exact at15) Try.underlying3 rfl (by rfl)) ?_
                          refine OL_sil rfl rfl rfl (Sil.eql rfl rfl rfl) ?_
                          refine OL_sil rfl rfl rfl (Sil.pick1 rfl rfl rfl) ?_
                          refine OL_nil ?_
                          (refine Cont.then_intro (And.intro (by (repeat' (first | exact trivial | refine ⟨rfl, ?_⟩))) (And.intro ?_ rfl)); first | exact slotV rfl (congrArg Value.bool (decide_eq_true (by omega)).symm) | exact slotV rfl (congrArg Value.bool (decide_eq_false (by omega)).symm) | exact slotV rfl (congrArg Value.bool (decide_eq_decide.2 (by omega))) | exact slotV rfl (congrArg Value.bool (decide_not.symm.trans (decide_eq_decide.2 (by omega)))))
                        · refine OL_skip rfl rfl rfl ?_
                          refine OL_skip rfl rfl rfl ?_
                          refine OL_skip rfl rfl rfl ?_
                          refine OL_skip rfl rfl rfl ?_
                          refine OL_skip rfl rfl rfl ?_
                          refine OL_sil rfl rfl rfl (Sil.pick0 rfl rfl rfl) ?_
                          refine OL_nil ?_
                          (refine Cont.then_intro (And.intro (by (repeat' (first | exact trivial | refine ⟨rfl, ?_⟩))) (And.intro ?_ rfl)); first | exact slotV rfl (congrArg Value.bool (decide_eq_true (by omega)).symm) | exact slotV rfl (congrArg Value.bool (decide_eq_false (by omega)).symm) | exact slotV rfl (congrArg Value.bool (decide_eq_decide.2 (by omega))) | exact slotV rfl (congrArg Value.bool (decide_not.symm.trans (decide_eq_decide.2 (by omega)))))
                      · refine OL_skip rfl rfl rfl ?_
                        refine OL_skip rfl rfl rfl ?_
                        refine OL_skip rfl rfl rfl ?_
                        refine OL_sil rfl rfl rfl (Sil.pick0 rfl rfl rfl) ?_
                        refine OL_sil rfl rfl rfl (Sil.move rfl rfl) ?_
                        refine OL_skip rfl rfl rfl ?_
                        refine OL_skip rfl rfl rfl ?_
                        refine OL_skip rfl rfl rfl ?_
                        refine OL_skip rfl rfl rfl ?_
                        refine OL_skip rfl rfl rfl ?_
                        refine OL_sil rfl rfl rfl (Sil.pick0 rfl rfl rfl) ?_
                        refine OL_nil ?_
                        (refine Cont.then_intro (And.intro (by (repeat' (first | exact trivial | refine ⟨rfl, ?_⟩))) (And.intro ?_ rfl)); first | exact slotV rfl (congrArg Value.bool (decide_eq_true (by omega)).symm) | exact slotV rfl (congrArg Value.bool (decide_eq_false (by omega)).symm) | exact slotV rfl (congrArg Value.bool (decide_eq_decide.2 (by omega))) | exact slotV rfl (congrArg Value.bool (decide_not.symm.trans (decide_eq_decide.2 (by omega)))))
                  refine TC_if rfl (fun ht65 => ?_) (fun ht65 => ?_)
                  · refine TC_seq ?_
                    refine TC_region ?_
                    refine OL_sil rfl rfl rfl (Sil.assign rfl rfl) ?_
                    refine OL_nil ?_
                    refine TC_ret ?_
                    exact ret1 rfl rfl ⟨true, rfl, ⟨fun _ => ⟨i, k, j, by omega, e, o, e1, p, he, ho, by omega, he1, by omega, hp, ht65⟩, fun _ => rfl⟩, rfl⟩
                  · refine TC_skip ?_
                    refine TC_region ?_
                    refine OL_sil rfl rfl rfl (Sil.add rfl rfl rfl (by omega) (by omega)) ?_
                    refine OL_sil rfl rfl rfl (Sil.move rfl rfl) ?_
                    refine OL_nil ?_
                    exact ⟨j + 1, ⟨⟨by omega, fun j' hj' hh => by
                      by_cases e' : j' = j
                      · subst e'
                        obtain ⟨e2, o2, e3, p3, q1, q2, q3, q4, q5, q6, q7⟩ := hh
                        rw [he] at q1; cases q1
                        rw [ho] at q2; cases q2
                        rw [he1] at q4; cases q4
                        rw [hp] at q6; cases q6
                        exact ht65 q7
                      · exact hj.2 j' (by omega) hh⟩, ⟨rfl, rfl, rfl, rfl, rfl, rfl, rfl, rfl, rfl, rfl, rfl, trivial⟩, List.Sublist.cons_cons _ (List.nil_sublist _)⟩, by omega⟩
                · refine TC_exit ?_
                  refine TC_region ?_
                  refine OL_sil rfl rfl rfl (Sil.move rfl rfl) ?_
                  refine OL_sil rfl rfl rfl (Sil.add rfl rfl rfl (by omega) (by omega)) ?_
                  refine OL_sil rfl rfl rfl (Sil.assign rfl rfl) ?_
                  refine OL_nil ?_
                  exact ⟨k + 1, ⟨⟨by omega, fun k' j' hk' hh => by
                    by_cases e' : k' = k
                    · subst e'
                      have hh' := hh
                      obtain ⟨e2, o2, e3, p3, q1, q2, q3, q4, q5, q6, q7⟩ := hh
                      rw [he1] at q4; cases q4
                      exact hj.2 j' (by have := ltOf q6; omega) hh'
                    · exact hk.2 k' j' (by omega) hh⟩, ⟨rfl, rfl, rfl, rfl, rfl, rfl, rfl, rfl, trivial⟩, List.Sublist.refl _⟩, by omega⟩
          · refine TC_exit ?_
            refine TC_region ?_
            refine OL_sil rfl rfl rfl (Sil.add rfl rfl rfl (by omega) (by omega)) ?_
            refine OL_sil rfl rfl rfl (Sil.move rfl rfl) ?_
            refine OL_nil ?_
            exact ⟨i + 1, ⟨⟨by omega, fun i' k' j hi' hk' hh => by
              by_cases e' : i' = i
              · subst e'
                exact hk.2 k' j (by omega) hh
              · exact hi.2 i' k' j (by omega) hk' hh⟩, ⟨rfl, rfl, rfl, rfl, rfl, trivial⟩, List.nil_sublist _⟩, by omega⟩
    · have hno : ¬ twP es t := by
        rintro ⟨i', k, j, hk, hh⟩
        have hh' := hh
        obtain ⟨e2, o2, e3, p3, q1, q2, _⟩ := hh
        rw [he] at q1; cases q1
        exact absurd hh' (hi.2 i' k j (by have := ltOf q2; omega) hk)
      refine TC_exit ?_
      refine TC_seq ?_
      refine TC_region ?_
      refine OL_sil rfl rfl rfl (Sil.assign rfl rfl) ?_
      refine OL_nil ?_
      refine TC_ret ?_
      exact ret1 rfl rfl ⟨false, rfl, ⟨fun h => absurd h (by simp), fun h => absurd h hno⟩, rfl⟩

/-- The value written last to a key by the first k operations. -/
def lastW (told : List OpD) (key : Int) : Nat → Option Int
  | 0 => none
  | k + 1 => match told[k]? with
    | some o => if o.k = 2 ∧ o.key = key then some o.val else lastW told key k
    | none => lastW told key k
def ansE (asked told : List OpD) (i : Nat) : Int :=
  match asked[i]?, told[i]? with
  | some a, some o => if o.k ≠ a.k ∨ o.key ≠ a.key ∨ o.k = 2 ∧ o.val ≠ a.val then 22 else if o.k = 2 then 0 else match lastW told o.key i with
    | some v => if v = o.val then 0 else 24
    | none => 0
  | _, _ => 22
def ansN (asked told : List OpD) : Nat → Int
  | 0 => 0
  | i + 1 => if ansN asked told i = 0 then ansE asked told i else ansN asked told i
def ansF (asked told : List OpD) : Int := if asked.length = told.length then ansN asked told told.length else 22
theorem ansN_stick (asked told : List OpD) (i m : Nat) (h : ansN asked told i ≠ 0) (hm : i ≤ m) : ansN asked told m = ansN asked told i := by
  induction m with
  | zero => obtain rfl : i = 0 := by omega
            rfl
  | succ m ih =>
    by_cases e : i = m + 1
    · rw [e]
    · have := ih (by omega)
      rw [ansN, if_neg (by rw [this]; exact h), this]
theorem ansF_of (asked told : List OpD) (hl : asked.length = told.length) (i : Nat) (h0 : ansN asked told i = 0) (hi : i < told.length) (c : Int) (hc : c ≠ 0) (he : ansE asked told i = c) : ansF asked told = c := by
  have h1 : ansN asked told (i + 1) = c := by rw [ansN, if_pos h0, he]
  rw [ansF, if_pos hl, ansN_stick asked told (i + 1) told.length (by rw [h1]; exact hc) (by omega), h1]

theorem answer_gives (asked told : List OpD) (a b : Option Addr) (cap cap' : Nat) (w0 : World) (hx : OpsAt w0 a asked) (hy : OpsAt w0 b told) :
    Gives Try.prog 39 [.slice a asked.length cap, .slice b told.length cap'] w0 [] fun v h => v = .int .i64 (ansF asked told) ∧ h = [] := by
  have hm := hy.1
  unfold maxLen at hm
  refine gives_of Try.func39 rfl rfl rfl (Own.start w0) ?_
  refine TC_seq ?_
  refine TC_region ?_
  refine OL_sil rfl rfl rfl (Sil.assign rfl rfl) ?_
  refine OL_nil ?_
  refine TC_seq ?_
  refine TC_seq ?_
  refine TC_region ?_
  refine OL_sil rfl rfl rfl (Sil.move rfl rfl) ?_
  refine OL_sil rfl rfl rfl (Sil.lenSl rfl rfl Try.underlying41) ?_
  refine OL_sil rfl rfl rfl (Sil.move rfl rfl) ?_
  refine OL_sil rfl rfl rfl (Sil.lenSl rfl rfl Try.underlying41) ?_
  refine OL_sil rfl rfl rfl (Sil.neq rfl rfl rfl) ?_
  refine OL_nil ?_
  refine TC_ifn rfl (fun ht11 => ?_) (fun ht11 => ?_)
  · refine TC_seq ?_
    refine TC_region ?_
    refine OL_sil rfl rfl rfl (Sil.assign rfl rfl) ?_
    refine OL_nil ?_
    refine TC_ret ?_
    exact ret1 rfl rfl ⟨by rw [ansF, if_neg (by omega)], rfl⟩
  · have hlen : asked.length = told.length := by omega
    refine TC_skip ?_
    refine TC_seq ?_
    refine TC_seq ?_
    refine TC_region ?_
    refine OL_sil rfl rfl rfl (Sil.move rfl rfl) ?_
    refine OL_sil rfl rfl rfl (Sil.lenSl rfl rfl Try.underlying41) ?_
    refine OL_sil rfl rfl rfl (Sil.move rfl rfl) ?_
    refine OL_nil ?_
    refine TC_block ?_
    refine TC_loop (fun i : Nat => [(0, .slice a asked.length cap), (1, .slice b told.length cap'), (13, .int .i64 told.length), (14, .int .i64 i)]) (fun _ => []) (fun i => i ≤ told.length ∧ ansN asked told i = 0) (fun i => told.length - i) 0 ?_ ?_
    · exact ⟨⟨Nat.zero_le _, rfl⟩, ⟨rfl, rfl, rfl, rfl, trivial⟩, List.Sublist.refl _⟩
    · intro i hi
      refine TC_seq ?_
      refine TC_region ?_
      refine OL_sil rfl rfl rfl (Sil.lss rfl rfl rfl) ?_
      refine OL_nil ?_
      refine TC_seq ?_
      refine TC_if rfl (fun ht15 => ?_) (fun ht15 => ?_)
      · obtain ⟨o, ho⟩ := nthSome ht15
        obtain ⟨d, hd⟩ : ∃ d, asked[i]? = some d := ⟨_, List.getElem?_eq_getElem (by omega)⟩
        obtain ⟨x, rfl, hca⟩ := hx.2 i d hd
        obtain ⟨y, rfl, hct⟩ := hy.2 i o ho
        refine TC_skip ?_
        refine TC_seq ?_
        refine TC_block ?_
        refine TC_seq ?_
        refine TC_region ?_
        refine OL_sil rfl rfl rfl (Sil.move rfl rfl) ?_
        refine OL_sil rfl rfl rfl (Sil.assign rfl rfl) ?_
        refine OL_nil ?_
        refine TC_seq ?_
        refine TC_seq ?_
        refine TC_bool 61 (o.k ≠ d.k ∨ o.key ≠ d.key ∨ o.k = 2 ∧ o.val ≠ d.val) ?_ ?_
        · refine TC_draw rfl (fun j => false) ?_
          refine DL_take 0 rfl (by kernel_rfl) rfl rfl rfl (Sil.move rfl rfl) (fun _ hr => hr) ?_
          refine DL_take 1 rfl (by kernel_rfl) rfl rfl rfl (Sil.move rfl rfl) (fun _ hr => hr) ?_
          refine DL_take 2 rfl (by kernel_rfl) rfl rfl rfl (Sil.indexSl i rfl rfl rfl Try.underlying41 rfl (by omega) (by omega)) (fun _ hr => hr) ?_
          refine DL_take 3 rfl (by kernel_rfl) rfl rfl rfl (Sil.fieldAdd 0 rfl rfl Try.underlying40 rfl rfl) (fun _ hr => hr) ?_
          refine DL_take 4 rfl (by kernel_rfl) rfl rfl rfl (Sil.oldF 0 rfl (by rw [← add_add]; rfl) hct Try.underlying3 rfl rfl) (fun _ hr => hr) ?_
          refine DL_take 5 rfl (by kernel_rfl) rfl rfl rfl (Sil.move rfl rfl) (fun _ hr => hr) ?_
          refine DL_take 6 rfl (by kernel_rfl) rfl rfl rfl (Sil.move rfl rfl) (fun _ hr => hr) ?_
          refine DL_take 7 rfl (by kernel_rfl) rfl rfl rfl (Sil.indexSl i rfl rfl rfl Try.underlying41 rfl (by omega) (by omega)) (fun _ hr => hr) ?_
          refine DL_take 8 rfl (by kernel_rfl) rfl rfl rfl (Sil.fieldAdd 0 rfl rfl Try.underlying40 rfl rfl) (fun _ hr => hr) ?_
          refine DL_take 9 rfl (by kernel_rfl) rfl rfl rfl (Sil.oldF 0 rfl (by rw [← add_add]; rfl) hca Try.underlying3 rfl rfl) (fun _ hr => hr) ?_
          refine DL_take 10 rfl (by kernel_rfl) rfl rfl rfl (Sil.neq rfl rfl rfl) (fun _ hr => hr) ?_
          refine DL_take 11 rfl (by kernel_rfl) rfl rfl rfl (Sil.move rfl rfl) (fun _ hr => hr) ?_
          refine DL_decn 28 rfl (fun ht28 => ?_) (fun ht28 => ?_)
          · refine DL_takeSkip 12 rfl (by kernel_rfl) rfl rfl rfl (fun _ hr => hr) ?_
            refine DL_takeSkip 13 rfl (by kernel_rfl) rfl rfl rfl (fun _ hr => hr) ?_
            refine DL_takeSkip 14 rfl (by kernel_rfl) rfl rfl rfl (fun _ hr => hr) ?_
            refine DL_takeSkip 15 rfl (by kernel_rfl) rfl rfl rfl (fun _ hr => hr) ?_
            refine DL_takeSkip 16 rfl (by kernel_rfl) rfl rfl rfl (fun _ hr => hr) ?_
            refine DL_takeSkip 17 rfl (by kernel_rfl) rfl rfl rfl (fun _ hr => hr) ?_
            refine DL_takeSkip 18 rfl (by kernel_rfl) rfl rfl rfl (fun _ hr => hr) ?_
            refine DL_takeSkip 19 rfl (by kernel_rfl) rfl rfl rfl (fun _ hr => hr) ?_
            refine DL_takeSkip 20 rfl (by kernel_rfl) rfl rfl rfl (fun _ hr => hr) ?_
            refine DL_takeSkip 21 rfl (by kernel_rfl) rfl rfl rfl (fun _ hr => hr) ?_
            refine DL_takeSkip 22 rfl (by kernel_rfl) rfl rfl rfl (fun _ hr => hr) ?_
            refine DL_take 23 rfl (by kernel_rfl) rfl rfl rfl (Sil.pick1 rfl rfl rfl) (fun _ hr => hr) ?_
            refine DL_take 24 rfl (by kernel_rfl) rfl rfl rfl (Sil.move rfl rfl) (fun _ hr => hr) ?_
            refine DL_takeSkip 25 rfl (by kernel_rfl) rfl rfl rfl (fun _ hr => hr) ?_
            refine DL_takeSkip 26 rfl (by kernel_rfl) rfl rfl rfl (fun _ hr => hr) ?_
            refine DL_takeSkip 27 rfl (by kernel_rfl) rfl rfl rfl (fun _ hr => hr) ?_
            refine DL_takeSkip 28 rfl (by kernel_rfl) rfl rfl rfl (fun _ hr => hr) ?_
            refine DL_takeSkip 29 rfl (by kernel_rfl) rfl rfl rfl (fun _ hr => hr) ?_
            refine DL_takeSkip 30 rfl (by kernel_rfl) rfl rfl rfl (fun _ hr => hr) ?_
            refine DL_takeSkip 31 rfl (by kernel_rfl) rfl rfl rfl (fun _ hr => hr) ?_
            refine DL_takeSkip 32 rfl (by kernel_rfl) rfl rfl rfl (fun _ hr => hr) ?_
            refine DL_takeSkip 33 rfl (by kernel_rfl) rfl rfl rfl (fun _ hr => hr) ?_
            refine DL_takeSkip 34 rfl (by kernel_rfl) rfl rfl rfl (fun _ hr => hr) ?_
            refine DL_takeSkip 35 rfl (by kernel_rfl) rfl rfl rfl (fun _ hr => hr) ?_
            refine DL_takeSkip 36 rfl (by kernel_rfl) rfl rfl rfl (fun _ hr => hr) ?_
            refine DL_takeSkip 37 rfl (by kernel_rfl) rfl rfl rfl (fun _ hr => hr) ?_
            refine DL_takeSkip 38 rfl (by kernel_rfl) rfl rfl rfl (fun _ hr => hr) ?_
            refine DL_takeSkip 39 rfl (by kernel_rfl) rfl rfl rfl (fun _ hr => hr) ?_
            refine DL_takeSkip 40 rfl (by kernel_rfl) rfl rfl rfl (fun _ hr => hr) ?_
            refine DL_takeSkip 41 rfl (by kernel_rfl) rfl rfl rfl (fun _ hr => hr) ?_
            refine DL_takeSkip 42 rfl (by kernel_rfl) rfl rfl rfl (fun _ hr => hr) ?_
            refine DL_takeSkip 43 rfl (by kernel_rfl) rfl rfl rfl (fun _ hr => hr) ?_
            refine DL_take 44 rfl (by kernel_rfl) rfl rfl rfl (Sil.pick1 rfl rfl rfl) (fun _ hr => hr) ?_
            refine DL_done (by kernel_rfl) ?_
            (refine Cont.then_intro (And.intro (by (repeat' (first | exact trivial | refine ⟨rfl, ?_⟩))) (And.intro ?_ rfl)); first | exact slotV rfl (congrArg Value.bool (decide_eq_true (by omega)).symm) | exact slotV rfl (congrArg Value.bool (decide_eq_false (by omega)).symm) | exact slotV rfl (congrArg Value.bool (decide_eq_decide.2 (by omega))) | exact slotV rfl (congrArg Value.bool (decide_not.symm.trans (decide_eq_decide.2 (by omega)))))
          · refine DL_take 12 rfl (by kernel_rfl) rfl rfl rfl (Sil.move rfl rfl) (fun _ hr => hr) ?_
            refine DL_take 13 rfl (by kernel_rfl) rfl rfl rfl (Sil.move rfl rfl) (fun _ hr => hr) ?_
            refine DL_take 14 rfl (by kernel_rfl) rfl rfl rfl (Sil.indexSl i rfl rfl rfl Try.underlying41 rfl (by omega) (by omega)) (fun _ hr => hr) ?_
            refine DL_take 15 rfl (by kernel_rfl) rfl rfl rfl (Sil.fieldAdd 1 rfl rfl Try.underlying40 rfl rfl) (fun _ hr => hr) ?_
            refine DL_take 16 rfl (by kernel_rfl) rfl rfl rfl (Sil.oldF 1 rfl (by rw [← add_add]; rfl) hct Try.underlying3 rfl rfl) (fun _ hr => hr) ?_
            refine DL_take 17 rfl (by kernel_rfl) rfl rfl rfl (Sil.move rfl rfl) (fun _ hr => hr) ?_
            refine DL_take 18 rfl (by kernel_rfl) rfl rfl rfl (Sil.move rfl rfl) (fun _ hr => hr) ?_
            refine DL_take 19 rfl (by kernel_rfl) rfl rfl rfl (Sil.indexSl i rfl rfl rfl Try.underlying41 rfl (by omega) (by omega)) (fun _ hr => hr) ?_
            refine DL_take 20 rfl (by kernel_rfl) rfl rfl rfl (Sil.fieldAdd 1 rfl rfl Try.underlying40 rfl rfl) (fun _ hr => hr) ?_
            refine DL_take 21 rfl (by kernel_rfl) rfl rfl rfl (Sil.oldF 1 rfl (by rw [← add_add]; rfl) hca Try.underlying3 rfl rfl) (fun _ hr => hr) ?_
            refine DL_take 22 rfl (by kernel_rfl) rfl rfl rfl (Sil.neq rfl rfl rfl) (fun _ hr => hr) ?_
            refine DL_take 23 rfl (by kernel_rfl) rfl rfl rfl (Sil.pick0 rfl rfl rfl) (fun _ hr => hr) ?_
            refine DL_take 24 rfl (by kernel_rfl) rfl rfl rfl (Sil.move rfl rfl) (fun _ hr => hr) ?_
            refine DL_decn 41 rfl (fun ht41 => ?_) (fun ht41 => ?_)
            · refine DL_takeSkip 25 rfl (by kernel_rfl) rfl rfl rfl (fun _ hr => hr) ?_
              refine DL_takeSkip 26 rfl (by kernel_rfl) rfl rfl rfl (fun _ hr => hr) ?_
              refine DL_takeSkip 27 rfl (by kernel_rfl) rfl rfl rfl (fun _ hr => hr) ?_
              refine DL_takeSkip 28 rfl (by kernel_rfl) rfl rfl rfl (fun _ hr => hr) ?_
              refine DL_takeSkip 29 rfl (by kernel_rfl) rfl rfl rfl (fun _ hr => hr) ?_
              refine DL_takeSkip 30 rfl (by kernel_rfl) rfl rfl rfl (fun _ hr => hr) ?_
              refine DL_takeSkip 31 rfl (by kernel_rfl) rfl rfl rfl (fun _ hr => hr) ?_
              refine DL_takeSkip 32 rfl (by kernel_rfl) rfl rfl rfl (fun _ hr => hr) ?_
              refine DL_takeSkip 33 rfl (by kernel_rfl) rfl rfl rfl (fun _ hr => hr) ?_
              refine DL_takeSkip 34 rfl (by kernel_rfl) rfl rfl rfl (fun _ hr => hr) ?_
              refine DL_takeSkip 35 rfl (by kernel_rfl) rfl rfl rfl (fun _ hr => hr) ?_
              refine DL_takeSkip 36 rfl (by kernel_rfl) rfl rfl rfl (fun _ hr => hr) ?_
              refine DL_takeSkip 37 rfl (by kernel_rfl) rfl rfl rfl (fun _ hr => hr) ?_
              refine DL_takeSkip 38 rfl (by kernel_rfl) rfl rfl rfl (fun _ hr => hr) ?_
              refine DL_takeSkip 39 rfl (by kernel_rfl) rfl rfl rfl (fun _ hr => hr) ?_
              refine DL_takeSkip 40 rfl (by kernel_rfl) rfl rfl rfl (fun _ hr => hr) ?_
              refine DL_takeSkip 41 rfl (by kernel_rfl) rfl rfl rfl (fun _ hr => hr) ?_
              refine DL_takeSkip 42 rfl (by kernel_rfl) rfl rfl rfl (fun _ hr => hr) ?_
              refine DL_takeSkip 43 rfl (by kernel_rfl) rfl rfl rfl (fun _ hr => hr) ?_
              refine DL_take 44 rfl (by kernel_rfl) rfl rfl rfl (Sil.pick1 rfl rfl rfl) (fun _ hr => hr) ?_
              refine DL_done (by kernel_rfl) ?_
              (refine Cont.then_intro (And.intro (by (repeat' (first | exact trivial | refine ⟨rfl, ?_⟩))) (And.intro ?_ rfl)); first | exact slotV rfl (congrArg Value.bool (decide_eq_true (by omega)).symm) | exact slotV rfl (congrArg Value.bool (decide_eq_false (by omega)).symm) | exact slotV rfl (congrArg Value.bool (decide_eq_decide.2 (by omega))) | exact slotV rfl (congrArg Value.bool (decide_not.symm.trans (decide_eq_decide.2 (by omega)))))
            · refine DL_take 25 rfl (by kernel_rfl) rfl rfl rfl (Sil.move rfl rfl) (fun _ hr => hr) ?_
              refine DL_take 26 rfl (by kernel_rfl) rfl rfl rfl (Sil.move rfl rfl) (fun _ hr => hr) ?_
              refine DL_take 27 rfl (by kernel_rfl) rfl rfl rfl (Sil.indexSl i rfl rfl rfl Try.underlying41 rfl (by omega) (by omega)) (fun _ hr => hr) ?_
              refine DL_take 28 rfl (by kernel_rfl) rfl rfl rfl (Sil.fieldAdd 0 rfl rfl Try.underlying40 rfl rfl) (fun _ hr => hr) ?_
              refine DL_take 29 rfl (by kernel_rfl) rfl rfl rfl (Sil.oldF 0 rfl (by rw [← add_add]; rfl) hct Try.underlying3 rfl rfl) (fun _ hr => hr) ?_
              refine DL_take 30 rfl (by kernel_rfl) rfl rfl rfl (Sil.eql rfl rfl rfl) (fun _ hr => hr) ?_
              refine DL_take 31 rfl (by kernel_rfl) rfl rfl rfl (Sil.move rfl rfl) (fun _ hr => hr) ?_
              refine DL_dec 48 rfl (fun ht48 => ?_) (fun ht48 => ?_)
              · refine DL_take 32 rfl (by kernel_rfl) rfl rfl rfl (Sil.move rfl rfl) (fun _ hr => hr) ?_
                refine DL_take 33 rfl (by kernel_rfl) rfl rfl rfl (Sil.move rfl rfl) (fun _ hr => hr) ?_
                refine DL_take 34 rfl (by kernel_rfl) rfl rfl rfl (Sil.indexSl i rfl rfl rfl Try.underlying41 rfl (by omega) (by omega)) (fun _ hr => hr) ?_
                refine DL_take 35 rfl (by kernel_rfl) rfl rfl rfl (Sil.fieldAdd 2 rfl rfl Try.underlying40 rfl rfl) (fun _ hr => hr) ?_
                refine DL_take 36 rfl (by kernel_rfl) rfl rfl rfl (Sil.oldF 2 rfl (by rw [← add_add]; rfl) hct Try.underlying3 rfl rfl) (fun _ hr => hr) ?_
                refine DL_take 37 rfl (by kernel_rfl) rfl rfl rfl (Sil.move rfl rfl) (fun _ hr => hr) ?_
                refine DL_take 38 rfl (by kernel_rfl) rfl rfl rfl (Sil.move rfl rfl) (fun _ hr => hr) ?_
                refine DL_take 39 rfl (by kernel_rfl) rfl rfl rfl (Sil.indexSl i rfl rfl rfl Try.underlying41 rfl (by omega) (by omega)) (fun _ hr => hr) ?_
                refine DL_take 40 rfl (by kernel_rfl) rfl rfl rfl (Sil.fieldAdd 2 rfl rfl Try.underlying40 rfl rfl) (fun _ hr => hr) ?_
                refine DL_take 41 rfl (by kernel_rfl) rfl rfl rfl (Sil.oldF 2 rfl (by rw [← add_add]; rfl) hca Try.underlying3 rfl rfl) (fun _ hr => hr) ?_
                refine DL_take 42 rfl (by kernel_rfl) rfl rfl rfl (Sil.neq rfl rfl rfl) (fun _ hr => hr) ?_
                refine DL_take 43 rfl (by kernel_rfl) rfl rfl rfl (Sil.pick1 rfl rfl rfl) (fun _ hr => hr) ?_
                refine DL_take 44 rfl (by kernel_rfl) rfl rfl rfl (Sil.pick0 rfl rfl rfl) (fun _ hr => hr) ?_
                refine DL_done (by kernel_rfl) ?_
                (refine Cont.then_intro (And.intro (by (repeat' (first | exact trivial | refine ⟨rfl, ?_⟩))) (And.intro ?_ rfl)); first | exact slotV rfl (congrArg Value.bool (decide_eq_true (by omega)).symm) | exact slotV rfl (congrArg Value.bool (decide_eq_false (by omega)).symm) | exact slotV rfl (congrArg Value.bool (decide_eq_decide.2 (by omega))) | exact slotV rfl (congrArg Value.bool (decide_not.symm.trans (decide_eq_decide.2 (by omega)))))
              · refine DL_takeSkip 32 rfl (by kernel_rfl) rfl rfl rfl (fun _ hr => hr) ?_
                refine DL_takeSkip 33 rfl (by kernel_rfl) rfl rfl rfl (fun _ hr => hr) ?_
                refine DL_takeSkip 34 rfl (by kernel_rfl) rfl rfl rfl (fun _ hr => hr) ?_
                refine DL_takeSkip 35 rfl (by kernel_rfl) rfl rfl rfl (fun _ hr => hr) ?_
                refine DL_takeSkip 36 rfl (by kernel_rfl) rfl rfl rfl (fun _ hr => hr) ?_
                refine DL_takeSkip 37 rfl (by kernel_rfl) rfl rfl rfl (fun _ hr => hr) ?_
                refine DL_takeSkip 38 rfl (by kernel_rfl) rfl rfl rfl (fun _ hr => hr) ?_
                refine DL_takeSkip 39 rfl (by kernel_rfl) rfl rfl rfl (fun _ hr => hr) ?_
                refine DL_takeSkip 40 rfl (by kernel_rfl) rfl rfl rfl (fun _ hr => hr) ?_
                refine DL_takeSkip 41 rfl (by kernel_rfl) rfl rfl rfl (fun _ hr => hr) ?_
                refine DL_takeSkip 42 rfl (by kernel_rfl) rfl rfl rfl (fun _ hr => hr) ?_
                refine DL_take 43 rfl (by kernel_rfl) rfl rfl rfl (Sil.pick0 rfl rfl rfl) (fun _ hr => hr) ?_
                refine DL_take 44 rfl (by kernel_rfl) rfl rfl rfl (Sil.pick0 rfl rfl rfl) (fun _ hr => hr) ?_
                refine DL_done (by kernel_rfl) ?_
                (refine Cont.then_intro (And.intro (by (repeat' (first | exact trivial | refine ⟨rfl, ?_⟩))) (And.intro ?_ rfl)); first | exact slotV rfl (congrArg Value.bool (decide_eq_true (by omega)).symm) | exact slotV rfl (congrArg Value.bool (decide_eq_false (by omega)).symm) | exact slotV rfl (congrArg Value.bool (decide_eq_decide.2 (by omega))) | exact slotV rfl (congrArg Value.bool (decide_not.symm.trans (decide_eq_decide.2 (by omega)))))
        refine TC_if rfl (fun ht61 => ?_) (fun ht61 => ?_)
        · refine TC_seq ?_
          refine TC_region ?_
          refine OL_sil rfl rfl rfl (Sil.assign rfl rfl) ?_
          refine OL_nil ?_
          refine TC_ret ?_
          exact ret1 rfl rfl ⟨by rw [ansF_of asked told hlen i hi.2 (by omega) 22 (by decide) (by simp only [ansE, hd, ho]; rw [if_pos ht61])], rfl⟩
        · refine TC_skip ?_
          refine TC_seq ?_
          refine TC_seq ?_
          refine TC_region ?_
          refine OL_sil rfl rfl rfl (Sil.move rfl rfl) ?_
          refine OL_sil rfl rfl rfl (Sil.move rfl rfl) ?_
          refine OL_sil rfl rfl rfl (Sil.indexSl i rfl rfl rfl Try.underlying41 rfl (by omega) (by omega)) ?_
          refine OL_sil rfl rfl rfl (Sil.fieldAdd 0 rfl rfl Try.underlying40 rfl rfl) ?_
          refine OL_sil rfl rfl rfl (Sil.oldF 0 rfl (by rw [← add_add]; rfl) hct Try.underlying3 rfl rfl) ?_
          refine OL_sil rfl rfl rfl (Sil.eql rfl rfl rfl) ?_
          refine OL_nil ?_
          refine TC_if rfl (fun ht67 => ?_) (fun ht67 => ?_)
          · refine TC_exit ?_
            refine TC_region ?_
            refine OL_sil rfl rfl rfl (Sil.add rfl rfl rfl (by omega) (by omega)) ?_
            refine OL_sil rfl rfl rfl (Sil.move rfl rfl) ?_
            refine OL_nil ?_
            have he : ansE asked told i = 0 := by simp only [ansE, hd, ho]; rw [if_neg ht61, if_pos ht67]
            exact ⟨i + 1, ⟨⟨by omega, by rw [ansN, if_pos hi.2, he]⟩, ⟨rfl, rfl, rfl, rfl, trivial⟩, List.Sublist.refl _⟩, by omega⟩
          · refine TC_skip ?_
            refine TC_seq ?_
            refine TC_region ?_
            refine OL_sil rfl rfl rfl (Sil.move rfl rfl) ?_
            refine OL_sil rfl rfl rfl (Sil.sub rfl rfl rfl (by omega) (by omega)) ?_
            refine OL_sil rfl rfl rfl (Sil.assign rfl rfl) ?_
            refine OL_nil ?_
            refine TC_block ?_
            refine TC_loop (fun k : Nat => [(0, .slice (some x) asked.length cap), (1, .slice (some y) told.length cap'), (13, .int .i64 told.length), (14, .int .i64 i), (5, .int .i64 i), (6, .int .i64 ((k : Int) - 1))]) (fun _ => []) (fun k => k ≤ i ∧ lastW told o.key i = lastW told o.key k) (fun k => k) i ?_ ?_
            · exact ⟨⟨Nat.le_refl _, rfl⟩, ⟨rfl, rfl, rfl, rfl, rfl, rfl, trivial⟩, List.Sublist.refl _⟩
            · intro k hk
              refine TC_seq ?_
              refine TC_seq ?_
              refine TC_region ?_
              refine OL_sil rfl rfl rfl (Sil.move rfl rfl) ?_
              refine OL_sil rfl rfl rfl (Sil.geq rfl rfl rfl) ?_
              refine OL_nil ?_
              refine TC_if rfl (fun ht71 => ?_) (fun ht71 => ?_)
              · obtain ⟨k, rfl⟩ : ∃ j, k = j + 1 := ⟨k - 1, by omega⟩
                have hk1 := hk.1
                obtain ⟨p, hp⟩ : ∃ p, told[k]? = some p := ⟨_, List.getElem?_eq_getElem (by omega)⟩
                obtain ⟨y', hy', hck⟩ := hy.2 k p hp
                cases hy'
                refine TC_skip ?_
                refine TC_seq ?_
                refine TC_block ?_
                refine TC_seq ?_
                refine TC_bool 92 (p.k = 2 ∧ p.key = o.key) ?_ ?_
                · refine TC_draw rfl (fun j => false) ?_
                  refine DL_take 0 rfl (by kernel_rfl) rfl rfl rfl (Sil.move rfl rfl) (fun _ hr => hr) ?_
                  refine DL_take 1 rfl (by kernel_rfl) rfl rfl rfl (Sil.move rfl rfl) (fun _ hr => hr) ?_
                  refine DL_take 2 rfl (by kernel_rfl) rfl rfl rfl (Sil.indexSl k rfl rfl rfl Try.underlying41 rfl (by omega) (by omega)) (fun _ hr => hr) ?_
                  refine DL_take 3 rfl (by kernel_rfl) rfl rfl rfl (Sil.fieldAdd 0 rfl rfl Try.underlying40 rfl rfl) (fun _ hr => hr) ?_
                  refine DL_take 4 rfl (by kernel_rfl) rfl rfl rfl (Sil.oldF 0 rfl (by rw [← add_add]; rfl) hck Try.underlying3 rfl rfl) (fun _ hr => hr) ?_
                  refine DL_take 5 rfl (by kernel_rfl) rfl rfl rfl (Sil.eql rfl rfl rfl) (fun _ hr => hr) ?_
                  refine DL_take 6 rfl (by kernel_rfl) rfl rfl rfl (Sil.move rfl rfl) (fun _ hr => hr) ?_
                  refine DL_dec 80 rfl (fun ht80 => ?_) (fun ht80 => ?_)
                  · refine DL_take 7 rfl (by kernel_rfl) rfl rfl rfl (Sil.move rfl rfl) (fun _ hr => hr) ?_
                    refine DL_take 8 rfl (by kernel_rfl) rfl rfl rfl (Sil.move rfl rfl) (fun _ hr => hr) ?_
                    refine DL_take 9 rfl (by kernel_rfl) rfl rfl rfl (Sil.indexSl k rfl rfl rfl Try.underlying41 rfl (by omega) (by omega)) (fun _ hr => hr) ?_
                    refine DL_take 10 rfl (by kernel_rfl) rfl rfl rfl (Sil.fieldAdd 1 rfl rfl Try.underlying40 rfl rfl) (fun _ hr => hr) ?_
                    refine DL_take 11 rfl (by kernel_rfl) rfl rfl rfl (Sil.oldF 1 rfl (by rw [← add_add]; rfl) hck Try.underlying3 rfl rfl) (fun _ hr => hr) ?_
                    refine DL_take 12 rfl (by kernel_rfl) rfl rfl rfl (Sil.move rfl rfl) (fun _ hr => hr) ?_
                    refine DL_take 13 rfl (by kernel_rfl) rfl rfl rfl (Sil.move rfl rfl) (fun _ hr => hr) ?_
                    refine DL_take 14 rfl (by kernel_rfl) rfl rfl rfl (Sil.indexSl i rfl rfl rfl Try.underlying41 rfl (by omega) (by omega)) (fun _ hr => hr) ?_
                    refine DL_take 15 rfl (by kernel_rfl) rfl rfl rfl (Sil.fieldAdd 1 rfl rfl Try.underlying40 rfl rfl) (fun _ hr => hr) ?_
                    refine DL_take 16 rfl (by kernel_rfl) rfl rfl rfl (Sil.oldF 1 rfl (by rw [← add_add]; rfl) hct Try.underlying3 rfl rfl) (fun _ hr => hr) ?_
                    refine DL_take 17 rfl (by kernel_rfl) rfl rfl rfl (Sil.eql rfl rfl rfl) (fun _ hr => hr) ?_
                    refine DL_take 18 rfl (by kernel_rfl) rfl rfl rfl (Sil.pick1 rfl rfl rfl) (fun _ hr => hr) ?_
                    refine DL_done (by kernel_rfl) ?_
                    (refine Cont.then_intro (And.intro (by (repeat' (first | exact trivial | refine ⟨rfl, ?_⟩))) (And.intro ?_ rfl)); first | exact slotV rfl (congrArg Value.bool (decide_eq_true (by omega)).symm) | exact slotV rfl (congrArg Value.bool (decide_eq_false (by omega)).symm) | exact slotV rfl (congrArg Value.bool (decide_eq_decide.2 (by omega))) | exact slotV rfl (congrArg Value.bool (decide_not.symm.trans (decide_eq_decide.2 (by omega)))))
                  · refine DL_takeSkip 7 rfl (by kernel_rfl) rfl rfl rfl (fun _ hr => hr) ?_
                    refine DL_takeSkip 8 rfl (by kernel_rfl) rfl rfl rfl (fun _ hr => hr) ?_
                    refine DL_takeSkip 9 rfl (by kernel_rfl) rfl rfl rfl (fun _ hr => hr) ?_
                    refine DL_takeSkip 10 rfl (by kernel_rfl) rfl rfl rfl (fun _ hr => hr) ?_
                    refine DL_takeSkip 11 rfl (by kernel_rfl) rfl rfl rfl (fun _ hr => hr) ?_
                    refine DL_takeSkip 12 rfl (by kernel_rfl) rfl rfl rfl (fun _ hr => hr) ?_
                    refine DL_takeSkip 13 rfl (by kernel_rfl) rfl rfl rfl (fun _ hr => hr) ?_
                    refine DL_takeSkip 14 rfl (by kernel_rfl) rfl rfl rfl (fun _ hr => hr) ?_
                    refine DL_takeSkip 15 rfl (by kernel_rfl) rfl rfl rfl (fun _ hr => hr) ?_
                    refine DL_takeSkip 16 rfl (by kernel_rfl) rfl rfl rfl (fun _ hr => hr) ?_
                    refine DL_takeSkip 17 rfl (by kernel_rfl) rfl rfl rfl (fun _ hr => hr) ?_
                    refine DL_take 18 rfl (by kernel_rfl) rfl rfl rfl (Sil.pick0 rfl rfl rfl) (fun _ hr => hr) ?_
                    refine DL_done (by kernel_rfl) ?_
                    (refine Cont.then_intro (And.intro (by (repeat' (first | exact trivial | refine ⟨rfl, ?_⟩))) (And.intro ?_ rfl)); first | exact slotV rfl (congrArg Value.bool (decide_eq_true (by omega)).symm) | exact slotV rfl (congrArg Value.bool (decide_eq_false (by omega)).symm) | exact slotV rfl (congrArg Value.bool (decide_eq_decide.2 (by omega))) | exact slotV rfl (congrArg Value.bool (decide_not.symm.trans (decide_eq_decide.2 (by omega)))))
                refine TC_if rfl (fun ht92 => ?_) (fun ht92 => ?_)
                · have hlw : lastW told o.key i = some p.val := by rw [hk.2, lastW, hp]; exact if_pos ht92
                  refine TC_seq ?_
                  refine TC_seq ?_
                  refine TC_draw rfl (fun j => false) ?_
                  refine DL_take 0 rfl (by kernel_rfl) rfl rfl rfl (Sil.move rfl rfl) (fun _ hr => hr) ?_
                  refine DL_take 1 rfl (by kernel_rfl) rfl rfl rfl (Sil.move rfl rfl) (fun _ hr => hr) ?_
                  refine DL_take 2 rfl (by kernel_rfl) rfl rfl rfl (Sil.indexSl k rfl rfl rfl Try.underlying41 rfl (by omega) (by omega)) (fun _ hr => hr) ?_
                  refine DL_take 3 rfl (by kernel_rfl) rfl rfl rfl (Sil.fieldAdd 2 rfl rfl Try.underlying40 rfl rfl) (fun _ hr => hr) ?_
                  refine DL_take 4 rfl (by kernel_rfl) rfl rfl rfl (Sil.oldF 2 rfl (by rw [← add_add]; rfl) hck Try.underlying3 rfl rfl) (fun _ hr => hr) ?_
                  refine DL_take 5 rfl (by kernel_rfl) rfl rfl rfl (Sil.move rfl rfl) (fun _ hr => hr) ?_
                  refine DL_take 6 rfl (by kernel_rfl) rfl rfl rfl (Sil.move rfl rfl) (fun _ hr => hr) ?_
                  refine DL_take 7 rfl (by kernel_rfl) rfl rfl rfl (Sil.indexSl i rfl rfl rfl Try.underlying41 rfl (by omega) (by omega)) (fun _ hr => hr) ?_
                  refine DL_take 8 rfl (by kernel_rfl) rfl rfl rfl (Sil.fieldAdd 2 rfl rfl Try.underlying40 rfl rfl) (fun _ hr => hr) ?_
                  refine DL_take 9 rfl (by kernel_rfl) rfl rfl rfl (Sil.oldF 2 rfl (by rw [← add_add]; rfl) hct Try.underlying3 rfl rfl) (fun _ hr => hr) ?_
                  refine DL_take 10 rfl (by kernel_rfl) rfl rfl rfl (Sil.neq rfl rfl rfl) (fun _ hr => hr) ?_
                  refine DL_done (by kernel_rfl) ?_
                  refine TC_ifn rfl (fun ht103 => ?_) (fun ht103 => ?_)
                  · refine TC_seq ?_
                    refine TC_region ?_
                    refine OL_sil rfl rfl rfl (Sil.assign rfl rfl) ?_
                    refine OL_nil ?_
                    refine TC_ret ?_
                    exact ret1 rfl rfl ⟨by rw [ansF_of asked told hlen i hi.2 (by omega) 24 (by decide) (by simp only [ansE, hd, ho, hlw]; rw [if_neg ht61, if_neg ht67, if_neg ht103])], rfl⟩
                  · refine TC_skip ?_
                    refine TC_exit ?_
                    refine TC_region ?_
                    refine OL_sil rfl rfl rfl (Sil.add rfl rfl rfl (by omega) (by omega)) ?_
                    refine OL_sil rfl rfl rfl (Sil.move rfl rfl) ?_
                    refine OL_nil ?_
                    have he : ansE asked told i = 0 := by simp only [ansE, hd, ho, hlw]; rw [if_neg ht61, if_neg ht67, if_pos ht103]
                    exact ⟨i + 1, ⟨⟨by omega, by rw [ansN, if_pos hi.2, he]⟩, ⟨rfl, rfl, rfl, rfl, trivial⟩, List.Sublist.refl _⟩, by omega⟩
                · refine TC_skip ?_
                  refine TC_region ?_
                  refine OL_sil rfl rfl rfl (Sil.move rfl rfl) ?_
                  refine OL_sil rfl rfl rfl (Sil.sub rfl rfl rfl (by omega) (by omega)) ?_
                  refine OL_sil rfl rfl rfl (Sil.assign rfl rfl) ?_
                  refine OL_nil ?_
                  have hst : lastW told o.key (k + 1) = lastW told o.key k := by rw [lastW, hp]; exact if_neg ht92
                  exact ⟨k, ⟨⟨by omega, hk.2.trans hst⟩, ⟨rfl, rfl, rfl, rfl, rfl, slotI rfl (by omega), trivial⟩, List.Sublist.refl _⟩, by omega⟩
              · obtain rfl : k = 0 := by omega
                have hlw : lastW told o.key i = none := hk.2
                refine TC_exit ?_
                refine TC_region ?_
                refine OL_sil rfl rfl rfl (Sil.add rfl rfl rfl (by omega) (by omega)) ?_
                refine OL_sil rfl rfl rfl (Sil.move rfl rfl) ?_
                refine OL_nil ?_
                have he : ansE asked told i = 0 := by simp only [ansE, hd, ho, hlw]; rw [if_neg ht61, if_neg ht67]
                exact ⟨i + 1, ⟨⟨by omega, by rw [ansN, if_pos hi.2, he]⟩, ⟨rfl, rfl, rfl, rfl, trivial⟩, List.Sublist.refl _⟩, by omega⟩
      · obtain rfl : i = told.length := by omega
        refine TC_exit ?_
        refine TC_seq ?_
        refine TC_region ?_
        refine OL_sil rfl rfl rfl (Sil.assign rfl rfl) ?_
        refine OL_nil ?_
        refine TC_ret ?_
        exact ret1 rfl rfl ⟨by rw [ansF, if_pos hlen, hi.2], rfl⟩
end Go.Proofs.Ytjnopbmanhialaa
