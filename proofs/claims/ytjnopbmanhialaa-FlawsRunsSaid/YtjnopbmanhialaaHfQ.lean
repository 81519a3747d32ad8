/-
  Walks: the writes and reads of a transaction: the reference's writes; reads.
-/
import Derived.Test.YtjnopbmanhialaaHfP
namespace Go.Proofs.Ytjnopbmanhialaa
open Go.Cru

/-- Where the last write of a key stands among the first i operations. -/
def lastI (ops : List OpD) (key : Int) : Nat → Int
  | 0 => -1
  | i + 1 => match ops[i]? with
    | some o => if o.k = 2 ∧ o.key = key then (i : Int) else lastI ops key i
    | none => lastI ops key i
theorem lastI_hit {ops : List OpD} {key : Int} {i : Nat} {o : OpD} (ho : ops[i]? = some o) (h : o.k = 2 ∧ o.key = key) : lastI ops key (i + 1) = i := by rw [lastI, ho]; exact if_pos h
theorem lastI_miss {ops : List OpD} {key : Int} {i : Nat} {o : OpD} (ho : ops[i]? = some o) (h : ¬ (o.k = 2 ∧ o.key = key)) : lastI ops key (i + 1) = lastI ops key i := by rw [lastI, ho]; exact if_neg h
theorem lastI_spec (ops : List OpD) (key : Int) : ∀ i : Nat, i ≤ ops.length → (lastI ops key i = -1 ∧ lastOp ops key i = none) ∨ ∃ (j : Nat) (o : OpD), j < i ∧ lastI ops key i = j ∧ ops[j]? = some o ∧ lastOp ops key i = some o ∧ o.k = 2 ∧ o.key = key
  | 0, _ => .inl ⟨rfl, rfl⟩
  | i + 1, hi => by
    obtain ⟨o, ho⟩ : ∃ o, ops[i]? = some o := ⟨_, List.getElem?_eq_getElem (by omega)⟩
    by_cases h : o.k = 2 ∧ o.key = key
    · exact .inr ⟨i, o, by omega, lastI_hit ho h, ho, lastOp_hit ho h, h.1, h.2⟩
    · rw [lastI_miss ho h, lastOp_miss ho h]
      rcases lastI_spec ops key i (by omega) with h1 | ⟨j, o', hj, h1⟩
      · exact .inl h1
      · exact .inr ⟨j, o', by omega, h1⟩

theorem refWrites_gives (t : RcD) (u : Value) (w0 : World) (hu : OpsV w0 u t.ops) (hl : t.ops.length ≤ 1000) :
    Gives Try.prog 34 [.agg (rcC t u).toArray] w0 [] fun v h => ∃ ao cap, v = .slice ao (wrN t.ops 16).length cap ∧ h = [sq ao (wrN t.ops 16).length cap 40 3 (opsC (wrN t.ops 16))] := by
  obtain ⟨a, c, rfl, hx⟩ := hu
  refine gives_of Try.func34 rfl rfl rfl (Own.start w0) ?_
  refine TC_seq ?_
  refine TC_region ?_
  refine OL_loud rfl rfl rfl (LO.box rfl rfl) ?_
  rintro _ _ ⟨b1, _, rfl, rfl⟩
  refine OL_sil rfl rfl rfl (Sil.assign rfl rfl) ?_
  refine OL_nil ?_
  refine TC_seq ?_
  refine TC_region ?_
  refine OL_loud rfl rfl rfl (LO.buildSlice0 (s := 3) rfl Try.underlying41 rfl) ?_
  rintro _ _ ⟨g8, rfl, rfl⟩
  refine OL_sil rfl rfl rfl (Sil.assign rfl rfl) ?_
  refine OL_nil ?_
  refine TC_seq ?_
  refine TC_seq ?_
  refine TC_region ?_
  refine OL_sil rfl rfl rfl (Sil.assign rfl rfl) ?_
  refine OL_nil ?_
  refine TC_block ?_
  refine TC_loop (fun (x : Nat × Option Addr × Nat) => [(1, .pointer (some ⟨b1, 0, none⟩)), (3, .slice x.2.1 (wrN t.ops x.1).length x.2.2), (4, .int .i64 x.1)]) (fun x => [blk b1 (.cells (rcC t (.slice a t.ops.length c)).toArray 43 (0, 0)), sq x.2.1 (wrN t.ops x.1).length x.2.2 40 3 (opsC (wrN t.ops x.1))]) (fun x => x.1 ≤ 16) (fun x => 16 - x.1) (0, some ⟨g8, 0, none⟩, 0) ?_ ?_
  · exact ⟨Nat.zero_le _, ⟨rfl, rfl, rfl, trivial⟩, List.Sublist.refl _⟩
  · rintro ⟨k, ao, cap⟩ hk
    replace hk : k ≤ 16 := hk
    refine TC_seq ?_
    refine TC_seq ?_
    refine TC_region ?_
    refine OL_sil rfl rfl rfl (Sil.move rfl rfl) ?_
    refine OL_sil rfl rfl rfl (Sil.lss rfl rfl rfl) ?_
    refine OL_nil ?_
    refine TC_if rfl (fun ht10 => ?_) (fun ht10 => ?_)
    · refine TC_skip ?_
      refine TC_seq ?_
      refine TC_block ?_
      refine TC_seq ?_
      refine TC_region ?_
      refine OL_sil rfl rfl rfl (Sil.assign rfl rfl) ?_
      refine OL_nil ?_
      refine TC_seq ?_
      refine TC_seq ?_
      refine TC_region ?_
      refine OL_sil rfl rfl rfl (Sil.fieldLoc 2 rfl rfl Try.underlying43 rfl rfl) ?_
      refine OL_sil rfl rfl rfl (by exact Sil.ownV rfl rfl (by first | exact at0 | exact at1 | exact at2 | exact at3 | exact at4 | exact at5 | exact at6 | exact at7 | exact at8 | exact at9 | exact at10 | exact at11 | exact at12 | exact at13 | exact at14 | exact at15) Try.underlying41 rfl (by rfl)) ?_
      refine OL_sil rfl rfl rfl (Sil.lenSl rfl rfl Try.underlying41) ?_
      refine OL_sil rfl rfl rfl (Sil.move rfl rfl) ?_
      refine OL_nil ?_
      refine TC_block ?_
      refine TC_loop (fun i : Nat => [(1, .pointer (some ⟨b1, 0, none⟩)), (3, .slice ao (wrN t.ops k).length cap), (4, .int .i64 k), (5, .int .i64 (lastI t.ops k i)), (14, .slice a t.ops.length c), (15, .int .i64 t.ops.length), (16, .int .i64 i)]) (fun _ => [blk b1 (.cells (rcC t (.slice a t.ops.length c)).toArray 43 (0, 0)), sq ao (wrN t.ops k).length cap 40 3 (opsC (wrN t.ops k))]) (fun i => i ≤ t.ops.length) (fun i => t.ops.length - i) 0 ?_ ?_
      · exact ⟨Nat.zero_le _, ⟨rfl, rfl, rfl, rfl, rfl, rfl, rfl, trivial⟩, List.Sublist.refl _⟩
      · intro i hi
        refine TC_seq ?_
        refine TC_region ?_
        refine OL_sil rfl rfl rfl (Sil.lss rfl rfl rfl) ?_
        refine OL_nil ?_
        refine TC_seq ?_
        refine TC_if rfl (fun ht17 => ?_) (fun ht17 => ?_)
        · obtain ⟨o, ho⟩ := nthSome ht17
          obtain ⟨x, rfl, hct⟩ := hx.2 i o ho
          refine TC_skip ?_
          refine TC_seq ?_
          refine TC_block ?_
          refine TC_seq ?_
          refine TC_region ?_
          refine OL_sil rfl rfl rfl (Sil.move rfl rfl) ?_
          refine OL_sil rfl rfl rfl (Sil.indexSl i rfl rfl rfl Try.underlying41 rfl rfl (by omega)) ?_
          refine OL_sil rfl rfl rfl (Sil.oldS rfl rfl hct Try.underlying40 rfl rfl rfl) ?_
          refine OL_loud rfl rfl rfl (LO.alloc rfl rfl) ?_
          rintro _ _ ⟨b7, _, rfl, rfl⟩
          refine OL_sil rfl rfl rfl (Sil.assign rfl rfl) ?_
          refine OL_loud0 rfl rfl (by first | exact LO.storeAllV rfl rfl rfl (by first | exact at0 | exact at1 | exact at2 | exact at3 | exact at4 | exact at5 | exact at6 | exact at7 | exact at8 | exact at9 | exact at10 | exact at11 | exact at12 | exact at13 | exact at14 | exact at15) (by rfl) (by rfl) (by rfl) (by rfl) | exact LO.store1V rfl rfl rfl (by first | exact at0 | exact at1 | exact at2 | exact at3 | exact at4 | exact at5 | exact at6 | exact at7 | exact at8 | exact at9 | exact at10 | exact at11 | exact at12 | exact at13 | exact at14 | exact at15) (by rfl) (by rfl) (by rfl)) ?_
          rintro _ _ ⟨rfl, rfl⟩
          refine OL_nil ?_
          refine TC_seq ?_
          refine TC_bool 29 (o.k = 2 ∧ o.key = k) ?_ ?_
          · refine TC_region ?_
            refine OL_sil rfl rfl rfl (Sil.fieldLoc 0 rfl rfl Try.underlying40 rfl rfl) ?_
            refine OL_sil rfl rfl rfl (by exact Sil.ownV rfl rfl (by first | exact at0 | exact at1 | exact at2 | exact at3 | exact at4 | exact at5 | exact at6 | exact at7 | exact at8 | exact at9 | exact at10 | exact at11 | exact at12 | exact at13 | exact at14 | exact at15) Try.underlying3 rfl (by rfl)) ?_
            refine OL_sil rfl rfl rfl (Sil.eql rfl rfl rfl) ?_
            refine OL_sil rfl rfl rfl (Sil.move rfl rfl) ?_
            refine OL_dec 24 rfl (fun ht24 => ?_) (fun ht24 => ?_)
            · refine OL_sil rfl rfl rfl (Sil.fieldLoc 1 rfl rfl Try.underlying40 rfl rfl) ?_
              refine OL_sil rfl rfl rfl (by exact Sil.ownV rfl rfl (by first | exact at0 | exact at1 | exact at2 | exact at3 | exact at4 | exact at5 | exact at6 | exact at7 | exact at8 | exact at9 | exact at10 | exact at11 | exact at12 | exact at13 | exact at14 | exact at15) Try.underlying3 rfl (by rfl)) ?_
              refine OL_sil rfl rfl rfl (Sil.move rfl rfl) ?_
              refine OL_sil rfl rfl rfl (Sil.eql rfl rfl rfl) ?_
              refine OL_sil rfl rfl rfl (Sil.pick1 rfl rfl rfl) ?_
              refine OL_nil ?_
              (refine Cont.then_intro (And.intro (by (repeat' (first | exact trivial | refine ⟨rfl, ?_⟩))) (And.intro ?_ rfl)); first | exact slotV rfl (congrArg Value.bool (decide_eq_true (by omega)).symm) | exact slotV rfl (congrArg Value.bool (decide_eq_false (by omega)).symm) | exact slotV rfl (congrArg Value.bool (decide_eq_decide.2 (by omega))) | exact slotV rfl (congrArg Value.bool (decide_not.symm.trans (decide_eq_decide.2 (by omega)))))
            · refine OL_skip rfl rfl rfl ?_
              refine OL_skip rfl rfl rfl ?_
              refine OL_skip rfl rfl rfl ?_
              refine OL_skip rfl rfl rfl ?_
              refine OL_sil rfl rfl rfl (Sil.pick0 rfl rfl rfl) ?_
              refine OL_nil ?_
              (refine Cont.then_intro (And.intro (by (repeat' (first | exact trivial | refine ⟨rfl, ?_⟩))) (And.intro ?_ rfl)); first | exact slotV rfl (congrArg Value.bool (decide_eq_true (by omega)).symm) | exact slotV rfl (congrArg Value.bool (decide_eq_false (by omega)).symm) | exact slotV rfl (congrArg Value.bool (decide_eq_decide.2 (by omega))) | exact slotV rfl (congrArg Value.bool (decide_not.symm.trans (decide_eq_decide.2 (by omega)))))
          refine TC_if rfl (fun ht29 => ?_) (fun ht29 => ?_)
          · refine TC_region ?_
            refine OL_sil rfl rfl rfl (Sil.move rfl rfl) ?_
            refine OL_sil rfl rfl rfl (Sil.assign rfl rfl) ?_
            refine OL_nil ?_
            refine TC_region ?_
            refine OL_sil rfl rfl rfl (Sil.add rfl rfl rfl (by omega) (by omega)) ?_
            refine OL_sil rfl rfl rfl (Sil.move rfl rfl) ?_
            refine OL_nil ?_
            exact ⟨i + 1, ⟨by omega, ⟨rfl, rfl, rfl, slotI rfl (lastI_hit ho ht29).symm, rfl, rfl, slotI rfl (by push_cast; rfl), trivial⟩, List.Sublist.cons_cons _ (List.Sublist.cons_cons _ (List.nil_sublist _))⟩, by omega⟩
          · refine TC_skip ?_
            refine TC_region ?_
            refine OL_sil rfl rfl rfl (Sil.add rfl rfl rfl (by omega) (by omega)) ?_
            refine OL_sil rfl rfl rfl (Sil.move rfl rfl) ?_
            refine OL_nil ?_
            exact ⟨i + 1, ⟨by omega, ⟨rfl, rfl, rfl, slotI rfl (lastI_miss ho ht29).symm, rfl, rfl, slotI rfl (by push_cast; rfl), trivial⟩, List.Sublist.cons_cons _ (List.Sublist.cons_cons _ (List.nil_sublist _))⟩, by omega⟩
        · obtain rfl : i = t.ops.length := by omega
          have hm := wrN_len t.ops k
          have hsp := lastI_spec t.ops k t.ops.length (Nat.le_refl _)
          refine TC_exit ?_
          refine TC_seq ?_
          refine TC_region ?_
          refine OL_sil rfl rfl rfl (Sil.move rfl rfl) ?_
          refine OL_sil rfl rfl rfl (Sil.geq rfl rfl rfl) ?_
          refine OL_nil ?_
          refine TC_if rfl (fun ht33 => ?_) (fun ht33 => ?_)
          · obtain ⟨j, o, hj, hj2, ho, hlo, _, _⟩ := hsp.resolve_left (fun h => by omega)
            obtain ⟨x, rfl, hct⟩ := hx.2 j o ho
            refine TC_slot 5 (v := .int .i64 j) rfl (by rw [hj2]) ?_
            refine TC_region ?_
            refine OL_sil rfl rfl rfl (Sil.move rfl rfl) ?_
            refine OL_sil rfl rfl rfl (Sil.fieldLoc 2 rfl rfl Try.underlying43 rfl rfl) ?_
            refine OL_sil rfl rfl rfl (by exact Sil.ownV rfl rfl (by first | exact at0 | exact at1 | exact at2 | exact at3 | exact at4 | exact at5 | exact at6 | exact at7 | exact at8 | exact at9 | exact at10 | exact at11 | exact at12 | exact at13 | exact at14 | exact at15) Try.underlying41 rfl (by rfl)) ?_
            refine OL_sil rfl rfl rfl (Sil.move rfl rfl) ?_
            refine OL_sil rfl rfl rfl (Sil.indexSl j rfl rfl rfl Try.underlying41 rfl rfl (by omega)) ?_
            refine OL_sil rfl rfl rfl (Sil.oldS rfl rfl hct Try.underlying40 rfl rfl rfl) ?_
            refine OL_loud rfl rfl rfl (LO.buildSlice1 rfl rfl Try.underlying41 rfl rfl rfl) ?_
            rintro _ _ ⟨tb, rfl, rfl⟩
            refine OL_loud rfl rfl rfl (LO.append 1 (iv o.is) rfl rfl rfl rfl elOp rfl (fun w hw => hw.cells (i := 2) rfl) (by simp [iv, OpD.is, oneC]) (by unfold maxLen; omega) (by omega)) ?_
            rintro _ _ ⟨ao1, cap1, rfl, rfl⟩
            refine OL_sil rfl rfl rfl (Sil.assign rfl rfl) ?_
            refine OL_nil ?_
            refine TC_region ?_
            refine OL_sil rfl rfl rfl (Sil.move rfl rfl) ?_
            refine OL_sil rfl rfl rfl (Sil.add rfl rfl rfl (by omega) (by omega)) ?_
            refine OL_sil rfl rfl rfl (Sil.assign rfl rfl) ?_
            refine OL_nil ?_
            refine ⟨(k + 1, ao1, cap1), ⟨by show k + 1 ≤ 16; omega, ⟨rfl, slotV rfl (by rw [wrN_hit hlo, List.length_append]; rfl), slotI rfl (by push_cast; rfl), trivial⟩, ?_⟩, by show 16 - (k + 1) < 16 - k; omega⟩
            show List.Sublist [_, _] _
            rw [wrN_hit hlo, ← opsC_snoc, List.length_append]
            exact List.Sublist.cons_cons _ (List.Sublist.cons_cons _ (List.nil_sublist _))
          · have hno : lastOp t.ops k t.ops.length = none := by
              rcases hsp with h | ⟨j, _, _, h, _⟩
              · exact h.2
              · omega
            refine TC_skip ?_
            refine TC_region ?_
            refine OL_sil rfl rfl rfl (Sil.move rfl rfl) ?_
            refine OL_sil rfl rfl rfl (Sil.add rfl rfl rfl (by omega) (by omega)) ?_
            refine OL_sil rfl rfl rfl (Sil.assign rfl rfl) ?_
            refine OL_nil ?_
            refine ⟨(k + 1, ao, cap), ⟨by show k + 1 ≤ 16; omega, ⟨rfl, slotV rfl (by rw [wrN_miss hno]), slotI rfl (by push_cast; rfl), trivial⟩, ?_⟩, by show 16 - (k + 1) < 16 - k; omega⟩
            show List.Sublist [_, _] _
            rw [wrN_miss hno]
            exact List.Sublist.cons_cons _ (List.Sublist.cons_cons _ (List.nil_sublist _))
    · obtain rfl : k = 16 := by omega
      refine TC_exit ?_
      refine TC_seq ?_
      refine TC_region ?_
      refine OL_sil rfl rfl rfl (Sil.move rfl rfl) ?_
      refine OL_sil rfl rfl rfl (Sil.assign rfl rfl) ?_
      refine OL_nil ?_
      refine TC_ret ?_
      exact ret1h rfl rfl (List.Sublist.cons _ (List.Sublist.refl _)) ⟨ao, cap, rfl, rfl⟩
end Go.Proofs.Ytjnopbmanhialaa
