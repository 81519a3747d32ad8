/-
  Walk: FlawsAll.
-/
import Derived.Test.YtjnopbmanhialaaHgC
import Derived.Test.YtjnopbmanhialaaHfZ
namespace Go.Proofs.Ytjnopbmanhialaa
open Go.Cru

theorem wf_eq {ts : List RcD} (hU : Uniq ts) : wfR ts = wfA ts := by
  funext o
  exact by_eq_wr hU (o.key, o.val)
theorem la_fin {ts : List RcD} (hU : Uniq ts) {w : Nat} {t : RcD} {p : Int × Int} (ht : ts[w]? = some t) (hw : wrHas t.ops t.ops.length p = true) : laN ts ts.length p = laHas (wrN t.ops 16) (wrN t.ops 16).length p := by
  cases h : laHas (wrN t.ops 16) (wrN t.ops 16).length p with
  | true =>
    unfold laN
    rw [List.take_length, List.any_eq_true]
    exact ⟨t, List.mem_of_getElem? ht, h⟩
  | false =>
    cases h2 : laN ts ts.length p with
    | false => rfl
    | true =>
      unfold laN at h2
      rw [List.take_length, List.any_eq_true] at h2
      obtain ⟨s, hs, h3⟩ := h2
      obtain ⟨j, hj⟩ := List.mem_iff_getElem?.1 hs
      have h4 := h3
      unfold laHas at h4
      rw [List.take_length, List.any_eq_true] at h4
      obtain ⟨o, ho, hp⟩ := h4
      obtain ⟨m, hm, hk⟩ := wrN_mem ho
      have hjw := uniq_wr hU hj ht (wrHas_of hm hk (of_decide_eq_true hp)) hw
      subst hjw
      rw [ht] at hj
      cases hj
      rw [h3] at h
      cases h
theorem kind_eq {ts : List RcD} (hU : Uniq ts) : kindR ts = kindA ts := by
  funext i o
  unfold kindR kindA
  rw [show wfR ts o = byI ts (o.key, o.val) from by_eq_wr hU _]
  rcases byI_spec ts (o.key, o.val) with ⟨h1, _⟩ | ⟨w, t, h1, ht, hw⟩
  · by_cases h0 : o.val = 0
    · rw [kindG_0 h0, kindG_0 h0]
    · rw [kindG_1 h0 (by omega), kindG_1 h0 (by omega)]
  · have : finB ts (byI ts (o.key, o.val)) (o.key, o.val) = laN ts ts.length (o.key, o.val) := by
      rw [la_fin hU ht hw]
      unfold finB
      rw [h1, Int.toNat_natCast, ht]
    rw [this]

theorem FlawsAll_ok (es : List RcD) (a : Option Addr) (cap : Nat) (w0 : World) (hx : RcsAt w0 a es) (h0 : errC es = 0) :
    Gives Try.prog 3 [.slice a es.length cap] w0 [] fun v h => v = .bool true ∧ h = [] := by
  have htl := txL_len es
  have hU : Uniq (txL es) := uniq_hist h0
  refine gives_of Try.func3 rfl rfl rfl (Own.start w0) ?_
  refine TC_seq ?_
  refine TC_region ?_
  refine OL_sil rfl rfl rfl (Sil.assign rfl rfl) ?_
  refine OL_nil ?_
  refine TC_seq ?_
  refine TC_seq ?_
  refine TC_region ?_
  refine OL_pure rfl rfl rfl (LO.pure rfl ent15 rfl (fun w _ => head8_gives w)) ?_
  refine OL_sil rfl rfl rfl (Sil.not rfl rfl) ?_
  refine OL_nil ?_
  refine TC_no rfl ?_
  refine TC_skip ?_
  refine TC_seq ?_
  refine TC_seq ?_
  refine TC_region ?_
  refine OL_sil rfl rfl rfl (Sil.move rfl rfl) ?_
  refine OL_loud rfl rfl rfl (LO.calls rfl ent16 rfl (fun w hw => big8_gives es a cap w (hx.keep hw.keep))) ?_
  rintro _ _ ⟨_, ⟨bb, rfl, hbig, rfl⟩, rfl⟩
  refine OL_nil ?_
  refine TC_cond rfl (fun ht15 => ?_) (fun ht15 => ?_)
  · refine TC_seq ?_
    refine TC_region ?_
    refine OL_sil rfl rfl rfl (Sil.assign rfl rfl) ?_
    refine OL_nil ?_
    refine TC_ret ?_
    exact ret1 rfl rfl ⟨rfl, rfl⟩
  · obtain ⟨hb1, hb2⟩ := hbig ht15
    have hops : ∀ t ∈ txL es, t.ops.length ≤ 1000 := txL_ops fun e he => by have := hb2 e he; omega
    refine TC_skip ?_
    refine TC_seq ?_
    refine TC_region ?_
    refine OL_sil rfl rfl rfl (Sil.move rfl rfl) ?_
    refine OL_loud rfl rfl rfl (LO.calls rfl ent17 rfl (fun w hw => (refOf_gives es a cap w (hx.keep hw.keep)).mono (fun v h hR => hR.ok h0))) ?_
    rintro _ _ ⟨_, ⟨a1, c1, x1, r1, rfl, hx1, rfl, hl1⟩, rfl⟩
    refine OL_sil rfl rfl rfl (Sil.move rfl rfl) ?_
    refine OL_sil rfl rfl rfl (Sil.extract rfl rfl rfl) ?_
    refine OL_sil rfl rfl rfl (Sil.extract rfl rfl rfl) ?_
    refine OL_sil rfl rfl rfl (Sil.extract rfl rfl rfl) ?_
    refine OL_sil rfl rfl rfl (Sil.assign rfl rfl) ?_
    refine OL_sil rfl rfl rfl (Sil.assign rfl rfl) ?_
    refine OL_sil rfl rfl rfl (Sil.assign rfl rfl) ?_
    refine OL_nil ?_
    replace hx1 : x1.map (·.1) = txL es := hx1
    have hn1 : x1.length = (txL es).length := by rw [← hx1]; simp
    refine TC_slot 3 (v := .slice a1 (txL es).length c1) rfl (by rw [← hn1]) ?_
    refine TC_seq ?_
    refine TC_seq ?_
    refine TC_region ?_
    refine OL_sil rfl rfl rfl (Sil.move rfl rfl) ?_
    refine OL_sil rfl rfl rfl (Sil.neq rfl rfl rfl) ?_
    refine OL_nil ?_
    refine TC_ifn rfl (fun ht23 => ?_) (fun ht23 => ?_)
    · exact absurd rfl ht23
    · refine TC_skip ?_
      refine TC_seq ?_
      refine TC_region ?_
      refine OL_sil rfl rfl rfl (Sil.move rfl rfl) ?_
      refine OL_loud rfl rfl rfl (LO.calls rfl ent18 rfl (fun w hw => All_gives (txL es) a1 c1 w (hx1 ▸ RcsAt.of_sq (hw.mine _ (List.mem_of_getElem? (i := 0) rfl)) (hw.mine _ (List.mem_of_getElem? (i := 1) rfl)) hl1) (by omega) hops)) ?_
      rintro _ _ ⟨_, ⟨a3, c3, rfl, rfl⟩, rfl⟩
      refine OL_sil rfl rfl rfl (Sil.assign rfl rfl) ?_
      refine OL_nil ?_
      refine TC_seq ?_
      refine TC_region ?_
      refine OL_sil rfl rfl rfl (Sil.move rfl rfl) ?_
      refine OL_loud rfl rfl rfl (LO.calls rfl ent19 rfl (fun w hw => (refFlaws_gives (txL es) a1 c1 w (hx1 ▸ RcsAt.of_sq (hw.mine _ (List.mem_of_getElem? (i := 0) rfl)) (hw.mine _ (List.mem_of_getElem? (i := 1) rfl)) hl1) (by omega) hops).mono (fun v h hR => by rw [kind_eq hU] at hR; exact hR))) ?_
      rintro _ _ ⟨_, ⟨a4, c4, rfl, rfl⟩, rfl⟩
      refine OL_sil rfl rfl rfl (Sil.assign rfl rfl) ?_
      refine OL_nil ?_
      obtain ⟨F, hF⟩ : ∃ F, F = flN (kindA (txL es)) (txL es) (txL es).length := ⟨_, rfl⟩
      have hFl : F.length ≤ 1000 * 1000 := by rw [hF]; exact Nat.le_trans (flN_len hops _) (Nat.mul_le_mul_right 1000 (by omega))
      rw [← hF]
      refine TC_seq ?_
      refine TC_seq ?_
      refine TC_region ?_
      refine OL_sil rfl rfl rfl (Sil.move rfl rfl) ?_
      refine OL_sil rfl rfl rfl (Sil.lenSl rfl rfl Try.underlying28) ?_
      refine OL_sil rfl rfl rfl (Sil.move rfl rfl) ?_
      refine OL_sil rfl rfl rfl (Sil.lenSl rfl rfl Try.underlying30) ?_
      refine OL_sil rfl rfl rfl (Sil.neq rfl rfl rfl) ?_
      refine OL_nil ?_
      refine TC_ifn rfl (fun ht32 => ?_) (fun ht32 => ?_)
      · exact absurd rfl ht32
      · refine TC_skip ?_
        refine TC_seq ?_
        refine TC_seq ?_
        refine TC_region ?_
        refine OL_sil rfl rfl rfl (Sil.move rfl rfl) ?_
        refine OL_sil rfl rfl rfl (Sil.lenSl rfl rfl Try.underlying30) ?_
        refine OL_sil rfl rfl rfl (Sil.move rfl rfl) ?_
        refine OL_nil ?_
        refine TC_block ?_
        refine TC_loop (fun i : Nat => [(3, .slice a1 (txL es).length c1), (6, .slice a3 F.length c3), (7, .slice a4 F.length c4), (34, .int .i64 F.length), (35, .int .i64 i)]) (fun _ => [sq a1 x1.length c1 43 3 (rvsC x1), bagR r1, sq a3 F.length c3 33 3 (opsC F), sq a4 F.length c4 34 3 (opsC F)]) (fun i => i ≤ F.length) (fun i => F.length - i) 0 ?_ ?_
        · exact ⟨Nat.zero_le _, ⟨rfl, rfl, rfl, rfl, rfl, trivial⟩, List.Sublist.refl _⟩
        · intro i hi
          refine TC_seq ?_
          refine TC_region ?_
          refine OL_sil rfl rfl rfl (Sil.lss rfl rfl rfl) ?_
          refine OL_nil ?_
          refine TC_seq ?_
          refine TC_if rfl (fun ht36 => ?_) (fun ht36 => ?_)
          · obtain ⟨o, ho⟩ : ∃ o, F[i]? = some o := ⟨_, List.getElem?_eq_getElem (by omega)⟩
            refine TC_know (fun w hw => hw.sqSome (i := 2) rfl (by omega)) (fun hsome => ?_)
            obtain ⟨g6, rfl⟩ := hsome
            refine TC_know (fun w hw => hw.sqSome (i := 3) rfl (by omega)) (fun hsome => ?_)
            obtain ⟨g7, rfl⟩ := hsome
            refine TC_skip ?_
            refine TC_seq ?_
            refine TC_block ?_
            refine TC_seq ?_
            refine TC_region ?_
            refine OL_sil rfl rfl rfl (Sil.move rfl rfl) ?_
            refine OL_sil rfl rfl rfl (Sil.assign rfl rfl) ?_
            refine OL_nil ?_
            refine TC_seq ?_
            refine TC_boolE [38, 39, 40, 41, 42, 43, 44, 45, 46, 47, 48, 49, 50, 51, 52, 53, 54, 55, 56, 57, 58, 59, 60, 61, 62, 63, 64, 65, 66, 67, 68, 69, 70, 71, 72, 73, 74] 74 ((0 : Int) = 1) ?_ ?_
            · refine TC_draw rfl (fun j => false) ?_
              refine DL_take 0 rfl (by kernel_rfl) rfl rfl rfl (Sil.move rfl rfl) (fun _ hr => hr) ?_
              refine DL_take 1 rfl (by kernel_rfl) rfl rfl rfl (Sil.move rfl rfl) (fun _ hr => hr) ?_
              refine DL_take 2 rfl (by kernel_rfl) rfl rfl rfl (Sil.indexOwn i rfl rfl rfl Try.underlying28 rfl rfl (by omega)) (fun _ hr => hr) ?_
              refine DL_take 3 rfl (by kernel_rfl) rfl rfl rfl (Sil.fieldLoc 0 rfl rfl Try.underlying33 rfl rfl) (fun _ hr => hr) ?_
              refine DL_take 4 rfl (by kernel_rfl) rfl rfl rfl (Sil.sqLoad 2 rfl rfl rfl Try.underlying3 rfl (opsC_at ho 0 _ rfl)) (fun _ hr => hr) ?_
              refine DL_take 5 rfl (by kernel_rfl) rfl rfl rfl (Sil.move rfl rfl) (fun _ hr => hr) ?_
              refine DL_take 6 rfl (by kernel_rfl) rfl rfl rfl (Sil.move rfl rfl) (fun _ hr => hr) ?_
              refine DL_take 7 rfl (by kernel_rfl) rfl rfl rfl (Sil.indexOwn i rfl rfl rfl Try.underlying30 rfl rfl (by omega)) (fun _ hr => hr) ?_
              refine DL_take 8 rfl (by kernel_rfl) rfl rfl rfl (Sil.indexArr (a := ⟨g7, i * 3, none⟩) 0 rfl rfl rfl Try.underlying34 rfl rfl (by decide)) (fun _ hr => hr) ?_
              refine DL_take 9 rfl (by kernel_rfl) rfl rfl rfl (Sil.sqLoad (off := i * 3 + 0) 3 rfl rfl rfl Try.underlying3 rfl (opsC_at ho 0 _ rfl)) (fun _ hr => hr) ?_
              refine DL_take 10 rfl (by kernel_rfl) rfl rfl rfl (Sil.neq rfl rfl rfl) (fun _ hr => hr) ?_
              refine DL_take 11 rfl (by kernel_rfl) rfl rfl rfl (Sil.move rfl rfl) (fun _ hr => hr) ?_
              refine DL_decn 49 rfl (fun ht49 => ?_) (fun ht49 => ?_)
              · refine DL_takeSkip 12 rfl (by kernel_rfl) rfl rfl rfl (fun _ hr => hr) ?_
                refine DL_takeSkip 13 rfl (by kernel_rfl) rfl rfl rfl (fun _ hr => hr) ?_
                refine DL_takeSkip 14 rfl (by kernel_rfl) rfl rfl rfl (fun _ hr => hr) ?_
                refine DL_takeSkip 15 rfl (by kernel_rfl) rfl rfl rfl (fun _ hr => hr) ?_
                refine DL_takeSkip 16 rfl (by kernel_rfl) rfl rfl rfl (fun _ hr => hr) ?_
                refine DL_takeSkip 17 rfl (by kernel_rfl) rfl rfl rfl (fun _ hr => hr) ?_
                refine DL_takeSkip 18 rfl (by kernel_rfl) rfl rfl rfl (fun _ hr => hr) ?_
                refine DL_takeSkip 19 rfl (by kernel_rfl) rfl rfl rfl (fun _ hr => hr) ?_
                refine DL_takeSkip 20 rfl (by kernel_rfl) rfl rfl rfl (fun _ hr => hr) ?_
                refine DL_takeSkip 21 rfl (by kernel_rfl) rfl rfl rfl (fun _ hr => hr) ?_
                refine DL_takeSkip 22 rfl (by kernel_rfl) rfl rfl rfl (fun _ hr => hr) ?_
                refine DL_take 23 rfl (by kernel_rfl) rfl rfl rfl (Sil.pick1 rfl rfl rfl) (fun _ hr => hr) ?_
                refine DL_take 24 rfl (by kernel_rfl) rfl rfl rfl (Sil.move rfl rfl) (fun _ hr => hr) ?_
                refine DL_takeSkip 25 rfl (by kernel_rfl) rfl rfl rfl (fun _ hr => hr) ?_
                refine DL_takeSkip 26 rfl (by kernel_rfl) rfl rfl rfl (fun _ hr => hr) ?_
                refine DL_takeSkip 27 rfl (by kernel_rfl) rfl rfl rfl (fun _ hr => hr) ?_
                refine DL_takeSkip 28 rfl (by kernel_rfl) rfl rfl rfl (fun _ hr => hr) ?_
                refine DL_takeSkip 29 rfl (by kernel_rfl) rfl rfl rfl (fun _ hr => hr) ?_
                refine DL_takeSkip 30 rfl (by kernel_rfl) rfl rfl rfl (fun _ hr => hr) ?_
                refine DL_takeSkip 31 rfl (by kernel_rfl) rfl rfl rfl (fun _ hr => hr) ?_
                refine DL_takeSkip 32 rfl (by kernel_rfl) rfl rfl rfl (fun _ hr => hr) ?_
                refine DL_takeSkip 33 rfl (by kernel_rfl) rfl rfl rfl (fun _ hr => hr) ?_
                refine DL_takeSkip 34 rfl (by kernel_rfl) rfl rfl rfl (fun _ hr => hr) ?_
                refine DL_takeSkip 35 rfl (by kernel_rfl) rfl rfl rfl (fun _ hr => hr) ?_
                refine DL_take 36 rfl (by kernel_rfl) rfl rfl rfl (Sil.pick1 rfl rfl rfl) (fun _ hr => hr) ?_
                refine DL_done (by kernel_rfl) ?_
                (refine Cont.then_intro (And.intro (by (repeat' (first | exact Ext.refl | refine Ext.cons rfl ?_))) (And.intro ?_ rfl)); first | exact slotV rfl (congrArg Value.bool (decide_eq_true (by omega)).symm) | exact slotV rfl (congrArg Value.bool (decide_eq_false (by omega)).symm) | exact slotV rfl (congrArg Value.bool (decide_eq_decide.2 (by omega))) | exact slotV rfl (congrArg Value.bool (decide_not.symm.trans (decide_eq_decide.2 (by omega)))))
              · refine DL_take 12 rfl (by kernel_rfl) rfl rfl rfl (Sil.move rfl rfl) (fun _ hr => hr) ?_
                refine DL_take 13 rfl (by kernel_rfl) rfl rfl rfl (Sil.move rfl rfl) (fun _ hr => hr) ?_
                refine DL_take 14 rfl (by kernel_rfl) rfl rfl rfl (Sil.indexOwn i rfl rfl rfl Try.underlying28 rfl rfl (by omega)) (fun _ hr => hr) ?_
                refine DL_take 15 rfl (by kernel_rfl) rfl rfl rfl (Sil.fieldLoc 1 rfl rfl Try.underlying33 rfl rfl) (fun _ hr => hr) ?_
                refine DL_take 16 rfl (by kernel_rfl) rfl rfl rfl (Sil.sqLoad 2 rfl rfl rfl Try.underlying3 rfl (opsC_at ho 1 _ rfl)) (fun _ hr => hr) ?_
                refine DL_take 17 rfl (by kernel_rfl) rfl rfl rfl (Sil.move rfl rfl) (fun _ hr => hr) ?_
                refine DL_take 18 rfl (by kernel_rfl) rfl rfl rfl (Sil.move rfl rfl) (fun _ hr => hr) ?_
                refine DL_take 19 rfl (by kernel_rfl) rfl rfl rfl (Sil.indexOwn i rfl rfl rfl Try.underlying30 rfl rfl (by omega)) (fun _ hr => hr) ?_
                refine DL_take 20 rfl (by kernel_rfl) rfl rfl rfl (Sil.indexArr (a := ⟨g7, i * 3, none⟩) 1 rfl rfl rfl Try.underlying34 rfl rfl (by decide)) (fun _ hr => hr) ?_
                refine DL_take 21 rfl (by kernel_rfl) rfl rfl rfl (Sil.sqLoad (off := i * 3 + 1) 3 rfl rfl rfl Try.underlying3 rfl (opsC_at ho 1 _ rfl)) (fun _ hr => hr) ?_
                refine DL_take 22 rfl (by kernel_rfl) rfl rfl rfl (Sil.neq rfl rfl rfl) (fun _ hr => hr) ?_
                refine DL_take 23 rfl (by kernel_rfl) rfl rfl rfl (Sil.pick0 rfl rfl rfl) (fun _ hr => hr) ?_
                refine DL_take 24 rfl (by kernel_rfl) rfl rfl rfl (Sil.move rfl rfl) (fun _ hr => hr) ?_
                refine DL_decn 62 rfl (fun ht62 => ?_) (fun ht62 => ?_)
                · refine DL_takeSkip 25 rfl (by kernel_rfl) rfl rfl rfl (fun _ hr => hr) ?_
                  refine DL_takeSkip 26 rfl (by kernel_rfl) rfl rfl rfl (fun _ hr => hr) ?_
                  refine DL_takeSkip 27 rfl (by kernel_rfl) rfl rfl rfl (fun _ hr => hr) ?_
                  refine DL_takeSkip 28 rfl (by kernel_rfl) rfl rfl rfl (fun _ hr => hr) ?_
                  refine DL_takeSkip 29 rfl (by kernel_rfl) rfl rfl rfl (fun _ hr => hr) ?_
                  refine DL_takeSkip 30 rfl (by kernel_rfl) rfl rfl rfl (fun _ hr => hr) ?_
                  refine DL_takeSkip 31 rfl (by kernel_rfl) rfl rfl rfl (fun _ hr => hr) ?_
                  refine DL_takeSkip 32 rfl (by kernel_rfl) rfl rfl rfl (fun _ hr => hr) ?_
                  refine DL_takeSkip 33 rfl (by kernel_rfl) rfl rfl rfl (fun _ hr => hr) ?_
                  refine DL_takeSkip 34 rfl (by kernel_rfl) rfl rfl rfl (fun _ hr => hr) ?_
                  refine DL_takeSkip 35 rfl (by kernel_rfl) rfl rfl rfl (fun _ hr => hr) ?_
                  refine DL_take 36 rfl (by kernel_rfl) rfl rfl rfl (Sil.pick1 rfl rfl rfl) (fun _ hr => hr) ?_
                  refine DL_done (by kernel_rfl) ?_
                  (refine Cont.then_intro (And.intro (by (repeat' (first | exact Ext.refl | refine Ext.cons rfl ?_))) (And.intro ?_ rfl)); first | exact slotV rfl (congrArg Value.bool (decide_eq_true (by omega)).symm) | exact slotV rfl (congrArg Value.bool (decide_eq_false (by omega)).symm) | exact slotV rfl (congrArg Value.bool (decide_eq_decide.2 (by omega))) | exact slotV rfl (congrArg Value.bool (decide_not.symm.trans (decide_eq_decide.2 (by omega)))))
                · refine DL_take 25 rfl (by kernel_rfl) rfl rfl rfl (Sil.move rfl rfl) (fun _ hr => hr) ?_
                  refine DL_take 26 rfl (by kernel_rfl) rfl rfl rfl (Sil.move rfl rfl) (fun _ hr => hr) ?_
                  refine DL_take 27 rfl (by kernel_rfl) rfl rfl rfl (Sil.indexOwn i rfl rfl rfl Try.underlying28 rfl rfl (by omega)) (fun _ hr => hr) ?_
                  refine DL_take 28 rfl (by kernel_rfl) rfl rfl rfl (Sil.fieldLoc 2 rfl rfl Try.underlying33 rfl rfl) (fun _ hr => hr) ?_
                  refine DL_take 29 rfl (by kernel_rfl) rfl rfl rfl (Sil.sqLoad 2 rfl rfl rfl Try.underlying3 rfl (opsC_at ho 2 _ rfl)) (fun _ hr => hr) ?_
                  refine DL_take 30 rfl (by kernel_rfl) rfl rfl rfl (Sil.move rfl rfl) (fun _ hr => hr) ?_
                  refine DL_take 31 rfl (by kernel_rfl) rfl rfl rfl (Sil.move rfl rfl) (fun _ hr => hr) ?_
                  refine DL_take 32 rfl (by kernel_rfl) rfl rfl rfl (Sil.indexOwn i rfl rfl rfl Try.underlying30 rfl rfl (by omega)) (fun _ hr => hr) ?_
                  refine DL_take 33 rfl (by kernel_rfl) rfl rfl rfl (Sil.indexArr (a := ⟨g7, i * 3, none⟩) 2 rfl rfl rfl Try.underlying34 rfl rfl (by decide)) (fun _ hr => hr) ?_
                  refine DL_take 34 rfl (by kernel_rfl) rfl rfl rfl (Sil.sqLoad (off := i * 3 + 2) 3 rfl rfl rfl Try.underlying3 rfl (opsC_at ho 2 _ rfl)) (fun _ hr => hr) ?_
                  refine DL_take 35 rfl (by kernel_rfl) rfl rfl rfl (Sil.neq rfl rfl rfl) (fun _ hr => hr) ?_
                  refine DL_take 36 rfl (by kernel_rfl) rfl rfl rfl (Sil.pick0 rfl rfl rfl) (fun _ hr => hr) ?_
                  refine DL_done (by kernel_rfl) ?_
                  (refine Cont.then_intro (And.intro (by (repeat' (first | exact Ext.refl | refine Ext.cons rfl ?_))) (And.intro ?_ rfl)); first | exact slotV rfl (congrArg Value.bool (decide_eq_true (by omega)).symm) | exact slotV rfl (congrArg Value.bool (decide_eq_false (by omega)).symm) | exact slotV rfl (congrArg Value.bool (decide_eq_decide.2 (by omega))) | exact slotV rfl (congrArg Value.bool (decide_not.symm.trans (decide_eq_decide.2 (by omega)))))
            refine TC_if rfl (fun ht74 => ?_) (fun ht74 => ?_)
            · exact absurd ht74 (by decide)
            · refine TC_skip ?_
              refine TC_region ?_
              refine OL_sil rfl rfl rfl (Sil.add rfl rfl rfl (by omega) (by omega)) ?_
              refine OL_sil rfl rfl rfl (Sil.move rfl rfl) ?_
              refine OL_nil ?_
              exact ⟨i + 1, ⟨by omega, ⟨rfl, rfl, rfl, rfl, slotI rfl (by push_cast; rfl), trivial⟩, List.Sublist.refl _⟩, by omega⟩
          · refine TC_exit ?_
            refine TC_seq ?_
            refine TC_region ?_
            refine OL_sil rfl rfl rfl (Sil.move rfl rfl) ?_
            refine OL_loud rfl rfl rfl (LO.calls rfl ent20 rfl (fun w hw => Sure_gives (txL es) a1 c1 w (hx1 ▸ RcsAt.of_sq (hw.mine _ (List.mem_of_getElem? (i := 0) rfl)) (hw.mine _ (List.mem_of_getElem? (i := 1) rfl)) hl1) (by omega) hops)) ?_
            rintro _ _ ⟨_, ⟨sb, rfl, rfl⟩, rfl⟩
            refine OL_sil rfl rfl rfl (Sil.assign rfl rfl) ?_
            refine OL_nil ?_
            refine TC_seq ?_
            refine TC_region ?_
            refine OL_sil rfl rfl rfl (Sil.move rfl rfl) ?_
            refine OL_loud rfl rfl rfl (LO.calls rfl ent21 rfl (fun w hw => (refSure_gives (txL es) a1 c1 w (hx1 ▸ RcsAt.of_sq (hw.mine _ (List.mem_of_getElem? (i := 0) rfl)) (hw.mine _ (List.mem_of_getElem? (i := 1) rfl)) hl1) (by omega) hops).mono (fun v h hR => by rw [wf_eq hU] at hR; exact hR))) ?_
            rintro _ _ ⟨_, ⟨a5, c5, rfl, rfl⟩, rfl⟩
            refine OL_sil rfl rfl rfl (Sil.assign rfl rfl) ?_
            refine OL_nil ?_
            refine TC_seq ?_
            refine TC_seq ?_
            refine TC_region ?_
            refine OL_sil rfl rfl rfl (Sil.move rfl rfl) ?_
            refine OL_sil rfl rfl rfl (Sil.lenSl rfl rfl Try.underlying35) ?_
            refine OL_sil rfl rfl rfl (Sil.move rfl rfl) ?_
            refine OL_sil rfl rfl rfl (Sil.lenSl rfl rfl Try.underlying35) ?_
            refine OL_sil rfl rfl rfl (Sil.neq rfl rfl rfl) ?_
            refine OL_nil ?_
            refine TC_ifn rfl (fun ht84 => ?_) (fun ht84 => ?_)
            · exact absurd rfl ht84
            · refine TC_skip ?_
              refine TC_seq ?_
              refine TC_seq ?_
              refine TC_region ?_
              refine OL_sil rfl rfl rfl (Sil.move rfl rfl) ?_
              refine OL_sil rfl rfl rfl (Sil.lenSl rfl rfl Try.underlying35) ?_
              refine OL_sil rfl rfl rfl (Sil.move rfl rfl) ?_
              refine OL_nil ?_
              refine TC_block ?_
              refine TC_loop (fun i : Nat => [(9, .slice (some ⟨sb, 0, none⟩) (txL es).length (txL es).length), (10, .slice a5 (txL es).length c5), (86, .int .i64 (txL es).length), (87, .int .i64 i)]) (fun _ => [blk sb (.cells (arrB (txL es).length (gN (wfA (txL es)) (txL es) (txL es).length)) 4 (0, 0)), sq a5 (txL es).length c5 4 1 (boolsC (txL es).length (gN (wfA (txL es)) (txL es) (txL es).length))]) (fun i => i ≤ (txL es).length) (fun i => (txL es).length - i) 0 ?_ ?_
              · exact ⟨Nat.zero_le _, ⟨rfl, rfl, rfl, rfl, trivial⟩, List.Sublist.cons _ (List.Sublist.cons _ (List.Sublist.cons _ (List.Sublist.cons _ (List.Sublist.refl _))))⟩
              · intro i hi
                refine TC_seq ?_
                refine TC_region ?_
                refine OL_sil rfl rfl rfl (Sil.lss rfl rfl rfl) ?_
                refine OL_nil ?_
                refine TC_seq ?_
                refine TC_if rfl (fun ht88 => ?_) (fun ht88 => ?_)
                · refine TC_know (fun w hw => hw.sqSome (i := 1) rfl (by omega)) (fun hsome => ?_)
                  obtain ⟨g8, rfl⟩ := hsome
                  refine TC_skip ?_
                  refine TC_seq ?_
                  refine TC_block ?_
                  refine TC_seq ?_
                  refine TC_region ?_
                  refine OL_sil rfl rfl rfl (Sil.move rfl rfl) ?_
                  refine OL_sil rfl rfl rfl (Sil.assign rfl rfl) ?_
                  refine OL_nil ?_
                  refine TC_seq ?_
                  refine TC_draw rfl (fun j => false) ?_
                  refine DL_take 0 rfl (by kernel_rfl) rfl rfl rfl (Sil.move rfl rfl) (fun _ hr => hr) ?_
                  refine DL_take 1 rfl (by kernel_rfl) rfl rfl rfl (Sil.move rfl rfl) (fun _ hr => hr) ?_
                  refine DL_take 2 rfl (by kernel_rfl) rfl rfl rfl (Sil.indexOwn1 i rfl rfl rfl Try.underlying35 rfl rfl (by omega)) (fun _ hr => hr) ?_
                  refine DL_take 3 rfl (by kernel_rfl) rfl rfl rfl (Sil.own 0 rfl rfl rfl Try.underlying4 rfl (arrB_at _ _ i (by omega))) (fun _ hr => hr) ?_
                  refine DL_take 4 rfl (by kernel_rfl) rfl rfl rfl (Sil.move rfl rfl) (fun _ hr => hr) ?_
                  refine DL_take 5 rfl (by kernel_rfl) rfl rfl rfl (Sil.move rfl rfl) (fun _ hr => hr) ?_
                  refine DL_take 6 rfl (by kernel_rfl) rfl rfl rfl (Sil.indexOwn1 i rfl rfl rfl Try.underlying35 rfl rfl (by omega)) (fun _ hr => hr) ?_
                  refine DL_take 7 rfl (by kernel_rfl) rfl rfl rfl (Sil.sqLoad 1 rfl rfl rfl Try.underlying4 rfl (boolsC_at _ _ i (by omega))) (fun _ hr => hr) ?_
                  refine DL_take 8 rfl (by kernel_rfl) rfl rfl rfl (Sil.neqB rfl rfl rfl Try.underlying4) (fun _ hr => hr) ?_
                  refine DL_done (by kernel_rfl) ?_
                  refine TC_cond rfl (fun ht98 => ?_) (fun ht98 => ?_)
                  · exact absurd ht98 (by simp)
                  · refine TC_skip ?_
                    refine TC_region ?_
                    refine OL_sil rfl rfl rfl (Sil.add rfl rfl rfl (by omega) (by omega)) ?_
                    refine OL_sil rfl rfl rfl (Sil.move rfl rfl) ?_
                    refine OL_nil ?_
                    exact ⟨i + 1, ⟨by omega, ⟨rfl, rfl, rfl, slotI rfl (by push_cast; rfl), trivial⟩, List.Sublist.refl _⟩, by omega⟩
                · refine TC_exit ?_
                  refine TC_seq ?_
                  refine TC_region ?_
                  refine OL_sil rfl rfl rfl (Sil.assign rfl rfl) ?_
                  refine OL_nil ?_
                  refine TC_ret ?_
                  exact ret1 rfl rfl ⟨rfl, rfl⟩
theorem FlawsAll_bad (es : List RcD) (a : Option Addr) (cap : Nat) (w0 : World) (hx : RcsAt w0 a es) (h0 : errC es ≠ 0) :
    Gives Try.prog 3 [.slice a es.length cap] w0 [] fun v h => v = .bool true ∧ h = [] := by
  refine gives_of Try.func3 rfl rfl rfl (Own.start w0) ?_
  refine TC_seq ?_
  refine TC_region ?_
  refine OL_sil rfl rfl rfl (Sil.assign rfl rfl) ?_
  refine OL_nil ?_
  refine TC_seq ?_
  refine TC_seq ?_
  refine TC_region ?_
  refine OL_pure rfl rfl rfl (LO.pure rfl ent15 rfl (fun w _ => head8_gives w)) ?_
  refine OL_sil rfl rfl rfl (Sil.not rfl rfl) ?_
  refine OL_nil ?_
  refine TC_no rfl ?_
  refine TC_skip ?_
  refine TC_seq ?_
  refine TC_seq ?_
  refine TC_region ?_
  refine OL_sil rfl rfl rfl (Sil.move rfl rfl) ?_
  refine OL_loud rfl rfl rfl (LO.calls rfl ent16 rfl (fun w hw => big8_gives es a cap w (hx.keep hw.keep))) ?_
  rintro _ _ ⟨_, ⟨bb, rfl, hbig, rfl⟩, rfl⟩
  refine OL_nil ?_
  refine TC_cond rfl (fun ht15 => ?_) (fun ht15 => ?_)
  · refine TC_seq ?_
    refine TC_region ?_
    refine OL_sil rfl rfl rfl (Sil.assign rfl rfl) ?_
    refine OL_nil ?_
    refine TC_ret ?_
    exact ret1 rfl rfl ⟨rfl, rfl⟩
  · refine TC_skip ?_
    refine TC_seq ?_
    refine TC_region ?_
    refine OL_sil rfl rfl rfl (Sil.move rfl rfl) ?_
    refine OL_loud rfl rfl rfl (LO.calls rfl ent17 rfl (fun w hw => (refOf_gives es a cap w (hx.keep hw.keep)).mono (fun v h hR => hR.bad h0))) ?_
    rintro _ _ ⟨_, ⟨rfl, rfl⟩, rfl⟩
    refine OL_sil rfl rfl rfl (Sil.move rfl rfl) ?_
    refine OL_sil rfl rfl rfl (Sil.extract rfl rfl rfl) ?_
    refine OL_sil rfl rfl rfl (Sil.extract rfl rfl rfl) ?_
    refine OL_sil rfl rfl rfl (Sil.extract rfl rfl rfl) ?_
    refine OL_sil rfl rfl rfl (Sil.assign rfl rfl) ?_
    refine OL_sil rfl rfl rfl (Sil.assign rfl rfl) ?_
    refine OL_sil rfl rfl rfl (Sil.assign rfl rfl) ?_
    refine OL_nil ?_
    refine TC_seq ?_
    refine TC_seq ?_
    refine TC_region ?_
    refine OL_sil rfl rfl rfl (Sil.move rfl rfl) ?_
    refine OL_sil rfl rfl rfl (Sil.neq rfl rfl rfl) ?_
    refine OL_nil ?_
    refine TC_ifn rfl (fun ht23 => ?_) (fun ht23 => ?_)
    · refine TC_seq ?_
      refine TC_region ?_
      refine OL_sil rfl rfl rfl (Sil.assign rfl rfl) ?_
      refine OL_nil ?_
      refine TC_ret ?_
      exact ret1 rfl rfl ⟨rfl, rfl⟩
    · exact absurd ht23 h0
theorem FlawsAll_gives (es : List RcD) (a : Option Addr) (cap : Nat) (w0 : World) (hx : RcsAt w0 a es) :
    Gives Try.prog 3 [.slice a es.length cap] w0 [] fun v h => v = .bool true ∧ h = [] := by
  by_cases h0 : errC es = 0
  · exact FlawsAll_ok es a cap w0 hx h0
  · exact FlawsAll_bad es a cap w0 hx h0
end Go.Proofs.Ytjnopbmanhialaa
