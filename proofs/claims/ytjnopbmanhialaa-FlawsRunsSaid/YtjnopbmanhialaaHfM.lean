/-
  Law: clients are nothing but names.
-/
import Derived.Test.YtjnopbmanhialaaHfL
namespace Go.Proofs.Ytjnopbmanhialaa
open Go.Cru

/-- Another name for a client. -/
def ren (d : Nat) (c : Int) : Int := if 1 ≤ c ∧ c ≤ 16 then 1 + (c - 1 + d) % 16 else c
theorem ren_inj (d : Nat) (a b : Int) (h : ren d a = ren d b) : a = b := by
  unfold ren at h
  split at h <;> split at h <;> omega
theorem ren_in (d : Nat) (c : Int) : (ren d c < 1 ∨ ren d c > 16) ↔ (c < 1 ∨ c > 16) := by
  unfold ren
  split <;> omega
def renE (d : Nat) (e : RcD) : RcD := ⟨e.p, ren d e.q, e.ops⟩
theorem renE_at {d : Nat} {es : List RcD} {i : Nat} {e : RcD} (he : es[i]? = some e) : (es.map (renE d))[i]? = some (renE d e) := by rw [List.getElem?_map, he]; rfl
theorem ren_last (d : Nat) (es : List RcD) (c : Int) : ∀ i, lastG (es.map (renE d)) (ren d c) i = lastG es c i
  | 0 => rfl
  | i + 1 => by
    rw [lastG, lastG, ren_last d es c i, List.getElem?_map]
    cases es[i]? with
    | none => rfl
    | some e =>
      simp only [Option.map_some, Option.some.injEq]
      by_cases h : e.q = c
      · rw [if_pos h, if_pos (by rw [← h]; rfl)]
      · rw [if_neg h, if_neg (show ¬ (renE d e).q = ren d c from fun hh => h (ren_inj d _ _ hh))]
theorem ren_opB (d : Nat) (es : List RcD) (c : Int) (i : Nat) : opB (es.map (renE d)) (ren d c) i = opB es c i := by
  by_cases h0 : 0 ≤ lastG es c i
  · obtain ⟨ep, hep, _⟩ := lastG_at es c i h0
    rw [opB_pos h0 hep, opB_pos (ep := renE d ep) (by rw [ren_last]; exact h0) (by rw [ren_last]; exact renE_at hep)]
    rfl
  · rw [opB_neg h0, opB_neg (by rw [ren_last]; exact h0)]
theorem ren_right (d : Nat) (e : RcD) : right (renE d e) ↔ right e := by
  have h := ren_in d e.q
  have hb : badH (renE d e) ↔ badH e := by
    unfold badH renE
    constructor <;> intro hh <;> simp only at hh ⊢ <;> omega
  exact and_congr (not_congr hb) Iff.rfl
theorem ren_tw1 (d : Nat) (es : List RcD) (i : Nat) : twP es i → twP (es.map (renE d)) i := by
  rintro ⟨j, k, j', hk, e, o, e', p, g1, g2, g3, g4, g5, g6, g7⟩
  exact ⟨j, k, j', hk, renE d e, o, renE d e', p, renE_at g1, g2, g3, renE_at g4, g5, g6, g7⟩
theorem ren_tw2 (d : Nat) (es : List RcD) (i : Nat) : twP (es.map (renE d)) i → twP es i := by
  rintro ⟨j, k, j', hk, e, o, e', p, g1, g2, g3, g4, g5, g6, g7⟩
  rw [List.getElem?_map] at g1 g4
  obtain ⟨e0, f1, rfl⟩ := Option.map_eq_some_iff.1 g1
  obtain ⟨e1, f2, rfl⟩ := Option.map_eq_some_iff.1 g4
  exact ⟨j, k, j', hk, e0, o, e1, p, f1, g2, g3, f2, g5, g6, g7⟩
theorem ren_err (d : Nat) (es : List RcD) (i : Nat) : errM (es.map (renE d)) i = errM es i := by
  cases he : es[i]? with
  | none => unfold errM; rw [List.getElem?_map, he]; rfl
  | some e =>
    have he' := renE_at (d := d) he
    have ho := ren_opB d es e.q i
    by_cases hr : right e
    · have hr' := (ren_right d e).2 hr
      cases hb : (decide (opB es e.q i = true) == decide (e.p = 1)) with
      | true => rw [errM_21 he hr hb, errM_21 he' hr' (by show (decide (opB _ (ren d e.q) i = true) == decide (e.p = 1)) = true; rw [ho]; exact hb)]
      | false =>
        have hb' : (decide (opB (es.map (renE d)) (renE d e).q i = true) == decide ((renE d e).p = 1)) = false := by show (decide (opB _ (ren d e.q) i = true) == decide (e.p = 1)) = false; rw [ho]; exact hb
        by_cases h1 : e.p = 1
        · rw [errM_23 he hr hb h1, errM_23 he' hr' hb' h1]
          by_cases ht : twP es i
          · rw [if_pos ht, if_pos (ren_tw1 d es i ht)]
          · rw [if_neg ht, if_neg (fun hh => ht (ren_tw2 d es i hh))]
        · by_cases h2 : e.p ≠ 2 ∧ (e.ops.length : Int) > 0
          · rw [errM_22 he hr hb h1 h2, errM_22 he' hr' hb' h1 h2]
          · by_cases h3 : e.p = 2
            · have hop : opB es e.q i = true := by
                cases hb2 : opB es e.q i with
                | true => rfl
                | false => rw [hb2] at hb; simp [h1] at hb
              obtain ⟨hp0, ep, hep, _⟩ := opB_true hop
              rw [errM_ans he hr hb h3 hep, errM_ans (ep := renE d ep) he' hr' hb' h3 (by show (es.map (renE d))[(lastG _ (ren d e.q) i).toNat]? = _; rw [ren_last]; exact renE_at hep)]
              rfl
            · rw [errM_end he hr hb h1 h2 h3, errM_end he' hr' hb' h1 h2 h3]
    · rw [errM_20 he hr, errM_20 he' (fun h => hr ((ren_right d e).1 h))]
def renT (d : Nat) (t : RcD × Nat) : RcD × Nat := (⟨ren d t.1.p, t.1.q, t.1.ops⟩, t.2)
theorem ren_step (d : Nat) (e : RcD) (p : Int) (t : RcD × Nat) : stepT (renE d e) p (renT d t) = renT d (stepT e p t) := by
  by_cases h : (t.2 : Int) = p ∧ (e.p = 2 ∨ e.p = 3)
  · rcases h.2 with h2 | h3
    · rw [stepT_2 h.1 h2, stepT_2 (t := renT d t) (e := renE d e) h.1 h2]; rfl
    · rw [stepT_3 h.1 h3, stepT_3 (t := renT d t) (e := renE d e) h.1 h3]; rfl
  · rw [stepT_no h, stepT_no (t := renT d t) (e := renE d e) h]
theorem ren_txs (d : Nat) (es : List RcD) : ∀ i, txsM (es.map (renE d)) i = (txsM es i).map (renT d)
  | 0 => rfl
  | i + 1 => by
    cases he : es[i]? with
    | none => rw [txsM, txsM, List.getElem?_map, he]; exact ren_txs d es i
    | some e =>
      by_cases h1 : e.p = 1
      · rw [txsM_inv he h1, txsM_inv (renE_at he) h1, ren_txs d es i, List.map_append]; rfl
      · rw [txsM_end he h1, txsM_end (e := renE d e) (renE_at he) h1, ren_txs d es i, List.map_map, List.map_map]
        refine List.map_congr_left fun t _ => ?_
        show stepT (renE d e) (lastG (es.map (renE d)) (ren d e.q) i) (renT d t) = _
        rw [ren_last, ren_step]
        rfl
theorem ren_fst (d : Nat) (es : List RcD) : ∀ n, fstE (es.map (renE d)) n = fstE es n
  | 0 => rfl
  | n + 1 => by rw [fstE, fstE, ren_fst d es n, ren_err]
theorem ren_errC (d : Nat) (es : List RcD) : errC (es.map (renE d)) = errC es := by
  unfold errC
  rw [List.length_map, ren_fst]
  cases fstE es es.length with
  | none => rfl
  | some i => simp only [ren_err]
theorem ren_plc (d : Nat) (es : List RcD) : plc (es.map (renE d)) = plc es := by
  unfold plc
  rw [List.length_map, ren_fst]
/-- The first k events have other names. -/
def RenK (d : Nat) (xm : List RcV) (k : Nat) (ys : List RcV) : Prop := ys.length = xm.length ∧ ∀ j x, xm[j]? = some x → ys[j]? = some (if j < k then renE d x.1 else x.1, x.2)
theorem RenK.step {d : Nat} {xm : List RcV} {k : Nat} {ys : List RcV} {x : RcV} (h : RenK d xm k ys) (hx : xm[k]? = some x) : RenK d xm (k + 1) (ys.set k (renE d x.1, x.2)) := by
  refine ⟨by rw [List.length_set]; exact h.1, fun j y hj => ?_⟩
  by_cases e : j = k
  · subst e
    rw [hx] at hj; cases hj
    rw [List.getElem?_set_self (by rw [h.1]; exact ltOf hx), if_pos (by omega)]
  · rw [List.getElem?_set_ne (fun hh => e hh.symm), h.2 j y hj]
    by_cases e2 : j < k
    · rw [if_pos e2, if_pos (by omega)]
    · rw [if_neg e2, if_neg (by omega)]
theorem RenK.stay {d : Nat} {xm : List RcV} {k : Nat} {ys : List RcV} {x : RcV} (h : RenK d xm k ys) (hx : xm[k]? = some x) (hq : renE d x.1 = x.1) : RenK d xm (k + 1) ys := by
  refine ⟨h.1, fun j y hj => ?_⟩
  rw [h.2 j y hj]
  by_cases e : j = k
  · subst e
    rw [hx] at hj; cases hj
    rw [if_neg (by omega), if_pos (by omega), hq]
  · by_cases e2 : j < k
    · rw [if_pos e2, if_pos (by omega)]
    · rw [if_neg e2, if_neg (by omega)]
theorem RenK.done {d : Nat} {xm : List RcV} {k : Nat} {ys : List RcV} (h : RenK d xm k ys) (hk : xm.length ≤ k) : ys.map (·.1) = (xm.map (·.1)).map (renE d) := by
  apply List.ext_getElem?
  intro j
  simp only [List.getElem?_map]
  cases hj : xm[j]? with
  | none =>
    have : ys[j]? = none := List.getElem?_eq_none (by have := List.getElem?_eq_none_iff.1 hj; rw [h.1]; exact this)
    rw [this]; rfl
  | some x =>
    rw [h.2 j x hj, if_pos (by have := ltOf hj; omega)]
    rfl

theorem HistNames_ok (es : List RcD) (a : Option Addr) (cap : Nat) (n : Int) (w0 : World) (hx : RcsAt w0 a es) (h0 : errC es = 0) :
    Gives Try.prog 10 [.slice a es.length cap, .int .i64 n] w0 [] fun v h => v = .bool true ∧ h = [] := by
  obtain ⟨hel, herr⟩ := errC_zero h0
  obtain ⟨d, hd⟩ : ∃ d, d = (n % 18446744073709551616).toNat &&& 15 := ⟨_, rfl⟩
  have hd15 : d ≤ 15 := by rw [hd]; exact Nat.and_le_right
  have htl := txs_len es es.length
  refine gives_of Try.func10 rfl rfl rfl (Own.start w0) ?_
  refine TC_seq ?_
  refine TC_region ?_
  refine OL_sil rfl rfl rfl (Sil.assign rfl rfl) ?_
  refine OL_nil ?_
  refine TC_seq ?_
  refine TC_seq ?_
  refine TC_region ?_
  refine OL_pure rfl rfl rfl (LO.pure rfl ent24 rfl (fun w _ => head5_gives w)) ?_
  refine OL_sil rfl rfl rfl (Sil.not rfl rfl) ?_
  refine OL_nil ?_
  refine TC_no rfl ?_
  refine TC_skip ?_
  refine TC_seq ?_
  refine TC_seq ?_
  refine TC_region ?_
  refine OL_sil rfl rfl rfl (Sil.move rfl rfl) ?_
  refine OL_loud rfl rfl rfl (LO.calls rfl ent25 rfl (fun w hw => big5_gives es a cap w (hx.keep hw.keep))) ?_
  rintro _ _ ⟨_, ⟨bb, rfl, hbig, rfl⟩, rfl⟩
  refine OL_nil ?_
  refine TC_cond rfl (fun ht17 => ?_) (fun ht17 => ?_)
  · refine TC_seq ?_
    refine TC_region ?_
    refine OL_sil rfl rfl rfl (Sil.assign rfl rfl) ?_
    refine OL_nil ?_
    refine TC_ret ?_
    exact ret1 rfl rfl ⟨rfl, rfl⟩
  · obtain ⟨hb1, hb2⟩ := hbig ht17
    refine TC_skip ?_
    refine TC_seq ?_
    refine TC_region ?_
    refine OL_sil rfl rfl rfl (Sil.move rfl rfl) ?_
    refine OL_loud rfl rfl rfl (LO.calls rfl ent27 rfl (fun w hw => (histOf_gives es a cap w (hx.keep hw.keep)).mono (fun v h hR => hR.ok h0))) ?_
    rintro _ _ ⟨_, ⟨a1, c1, x1, r1, rfl, hx1, rfl, hl1⟩, rfl⟩
    refine OL_sil rfl rfl rfl (Sil.move rfl rfl) ?_
    refine OL_sil rfl rfl rfl (Sil.extract rfl rfl rfl) ?_
    refine OL_sil rfl rfl rfl (Sil.extract rfl rfl rfl) ?_
    refine OL_sil rfl rfl rfl (Sil.extract rfl rfl rfl) ?_
    refine OL_sil rfl rfl rfl (Sil.assign rfl rfl) ?_
    refine OL_sil rfl rfl rfl (Sil.assign rfl rfl) ?_
    refine OL_sil rfl rfl rfl (Sil.assign rfl rfl) ?_
    refine OL_nil ?_
    refine TC_seq ?_
    refine TC_region ?_
    refine OL_sil rfl rfl rfl (Sil.move rfl rfl) ?_
    refine OL_loud rfl rfl rfl (LO.calls rfl ent26 rfl (fun w hw => Copy_gives es a cap w (hx.keep hw.keep) (by omega) (fun e he => by have := hb2 e he; omega))) ?_
    rintro _ _ ⟨_, ⟨am, cm, xm, rm, rfl, hxm, rfl, hlm⟩, rfl⟩
    refine OL_sil rfl rfl rfl (Sil.assign rfl rfl) ?_
    refine OL_nil ?_
    have hml : xm.length = es.length := by rw [← hxm]; simp
    have hn1 : x1.length = (txsM es es.length).length := by have := congrArg List.length hx1; simpa using this
    refine TC_seq ?_
    refine TC_seq ?_
    refine TC_region ?_
    refine OL_sil rfl rfl rfl (Sil.move rfl rfl) ?_
    refine OL_sil rfl rfl rfl (Sil.lenSl rfl rfl Try.underlying22) ?_
    refine OL_sil rfl rfl rfl (Sil.move rfl rfl) ?_
    refine OL_nil ?_
    refine TC_block ?_
    refine TC_loop (fun ((k, _) : Nat × List RcV) => [(1, .int .i64 n), (5, .slice a1 x1.length c1), (6, .int .i64 0), (7, .int .i64 0), (8, .slice am xm.length cm), (27, .int .i64 xm.length), (28, .int .i64 k)]) (fun (_, ys) => [sq a1 x1.length c1 43 3 (rvsC x1), bagR r1, sq am xm.length cm 58 3 (rvsC ys), bagR rm]) (fun (k, ys) => k ≤ xm.length ∧ RenK d xm k ys) (fun (k, _) => xm.length - k) (0, xm) ?_ ?_
    · exact ⟨⟨Nat.zero_le _, rfl, fun j x hj => by rw [hj, if_neg (by omega)]⟩, ⟨rfl, rfl, rfl, rfl, rfl, rfl, rfl, trivial⟩, List.Sublist.refl _⟩
    · rintro ⟨k, ys⟩ ⟨hk, hrk⟩
      have hk : k ≤ xm.length := hk
      have hrk : RenK d xm k ys := hrk
      refine TC_seq ?_
      refine TC_region ?_
      refine OL_sil rfl rfl rfl (Sil.lss rfl rfl rfl) ?_
      refine OL_nil ?_
      refine TC_seq ?_
      refine TC_if rfl (fun ht29 => ?_) (fun ht29 => ?_)
      · obtain ⟨x, hxk⟩ : ∃ x, xm[k]? = some x := ⟨_, List.getElem?_eq_getElem (by omega)⟩
        have hyk := hrk.2 k x hxk
        rw [if_neg (by omega)] at hyk
        have hyk : ys[k]? = some x := hyk
        refine TC_know (fun w hw => hw.sqSome (i := 2) rfl (by omega)) (fun hsome => ?_)
        obtain ⟨g5, rfl⟩ := hsome
        refine TC_skip ?_
        refine TC_seq ?_
        refine TC_block ?_
        refine TC_seq ?_
        refine TC_region ?_
        refine OL_sil rfl rfl rfl (Sil.move rfl rfl) ?_
        refine OL_sil rfl rfl rfl (Sil.assign rfl rfl) ?_
        refine OL_nil ?_
        refine TC_seq ?_
        refine TC_bool 44 (1 ≤ x.1.q ∧ x.1.q ≤ 16) ?_ ?_
        · refine TC_region ?_
          refine OL_sil rfl rfl rfl (Sil.move rfl rfl) ?_
          refine OL_sil rfl rfl rfl (Sil.move rfl rfl) ?_
          refine OL_sil rfl rfl rfl (Sil.indexOwn k rfl rfl rfl Try.underlying22 rfl rfl (by omega)) ?_
          refine OL_sil rfl rfl rfl (Sil.fieldLoc 1 rfl rfl Try.underlying58 rfl rfl) ?_
          refine OL_sil rfl rfl rfl (Sil.sqLoad 2 rfl rfl rfl Try.underlying3 rfl (rvsC_at hyk 1 _ rfl)) ?_
          refine OL_sil rfl rfl rfl (Sil.geq rfl rfl rfl) ?_
          refine OL_sil rfl rfl rfl (Sil.move rfl rfl) ?_
          refine OL_dec 37 rfl (fun ht37 => ?_) (fun ht37 => ?_)
          · refine OL_sil rfl rfl rfl (Sil.move rfl rfl) ?_
            refine OL_sil rfl rfl rfl (Sil.move rfl rfl) ?_
            refine OL_sil rfl rfl rfl (Sil.indexOwn k rfl rfl rfl Try.underlying22 rfl rfl (by omega)) ?_
            refine OL_sil rfl rfl rfl (Sil.fieldLoc 1 rfl rfl Try.underlying58 rfl rfl) ?_
            refine OL_sil rfl rfl rfl (Sil.sqLoad 2 rfl rfl rfl Try.underlying3 rfl (rvsC_at hyk 1 _ rfl)) ?_
            refine OL_sil rfl rfl rfl (Sil.leq rfl rfl rfl) ?_
            refine OL_sil rfl rfl rfl (Sil.pick1 rfl rfl rfl) ?_
            refine OL_nil ?_
            (refine Cont.then_intro (And.intro (by (repeat' (first | exact trivial | refine ⟨rfl, ?_⟩))) (And.intro ?_ rfl)); first | exact slotV rfl (congrArg Value.bool (decide_eq_true (by omega)).symm) | exact slotV rfl (congrArg Value.bool (decide_eq_false (by omega)).symm) | exact slotV rfl (congrArg Value.bool (decide_eq_decide.2 (by omega))) | exact slotV rfl (congrArg Value.bool (decide_not.symm.trans (decide_eq_decide.2 (by omega)))))
          · refine OL_skip rfl rfl rfl ?_
            refine OL_skip rfl rfl rfl ?_
            refine OL_skip rfl rfl rfl ?_
            refine OL_skip rfl rfl rfl ?_
            refine OL_skip rfl rfl rfl ?_
            refine OL_skip rfl rfl rfl ?_
            refine OL_sil rfl rfl rfl (Sil.pick0 rfl rfl rfl) ?_
            refine OL_nil ?_
            (refine Cont.then_intro (And.intro (by (repeat' (first | exact trivial | refine ⟨rfl, ?_⟩))) (And.intro ?_ rfl)); first | exact slotV rfl (congrArg Value.bool (decide_eq_true (by omega)).symm) | exact slotV rfl (congrArg Value.bool (decide_eq_false (by omega)).symm) | exact slotV rfl (congrArg Value.bool (decide_eq_decide.2 (by omega))) | exact slotV rfl (congrArg Value.bool (decide_not.symm.trans (decide_eq_decide.2 (by omega)))))
        refine TC_if rfl (fun ht44 => ?_) (fun ht44 => ?_)
        · refine TC_region ?_
          refine OL_sil rfl rfl rfl (Sil.move rfl rfl) ?_
          refine OL_sil rfl rfl rfl (Sil.move rfl rfl) ?_
          refine OL_sil rfl rfl rfl (Sil.move rfl rfl) ?_
          refine OL_sil rfl rfl rfl (Sil.move rfl rfl) ?_
          refine OL_sil rfl rfl rfl (Sil.indexOwn k rfl rfl rfl Try.underlying22 rfl rfl (by omega)) ?_
          refine OL_sil rfl rfl rfl (Sil.fieldLoc 1 rfl rfl Try.underlying58 rfl rfl) ?_
          refine OL_sil rfl rfl rfl (Sil.sqLoad 2 rfl rfl rfl Try.underlying3 rfl (rvsC_at hyk 1 _ rfl)) ?_
          refine OL_sil rfl rfl rfl (Sil.sub rfl rfl rfl (by omega) (by omega)) ?_
          refine OL_sil rfl rfl rfl (Sil.move rfl rfl) ?_
          refine OL_sil rfl rfl rfl (Sil.andw (j := 15) rfl rfl rfl (by decide)) ?_
          refine OL_slot 54 (v := .int .i64 d) rfl (by rw [hd]) ?_
          refine OL_sil rfl rfl rfl (Sil.add rfl rfl rfl (by omega) (by omega)) ?_
          refine OL_sil rfl rfl rfl (Sil.rem rfl rfl rfl (by omega) (by omega)) ?_
          refine OL_sil rfl rfl rfl (Sil.add rfl rfl rfl (by omega) (by omega)) ?_
          refine OL_slot 57 (v := .int .i64 (ren d x.1.q)) rfl (congrArg _ (by unfold ren; rw [if_pos ht44])) ?_
          refine OL_sil rfl rfl rfl (Sil.indexOwn k rfl rfl rfl Try.underlying22 rfl rfl (by omega)) ?_
          refine OL_sil rfl rfl rfl (Sil.fieldLoc 1 rfl rfl Try.underlying58 rfl rfl) ?_
          refine OL_loud0 rfl rfl (LO.sqStoreAs 2 rfl rfl rfl rfl rfl rfl rfl (by show k * 3 + 1 < xm.length * 3; omega) (rvsC_set1 hyk (ren d x.1.q))) ?_
          rintro _ _ ⟨rfl, rfl⟩
          refine OL_nil ?_
          refine TC_region ?_
          refine OL_sil rfl rfl rfl (Sil.add rfl rfl rfl (by omega) (by omega)) ?_
          refine OL_sil rfl rfl rfl (Sil.move rfl rfl) ?_
          refine OL_nil ?_
          exact ⟨(k + 1, ys.set k (renE d x.1, x.2)), ⟨⟨by show k + 1 ≤ xm.length; omega, hrk.step hxk⟩, ⟨rfl, rfl, rfl, rfl, rfl, rfl, rfl, trivial⟩, List.Sublist.refl _⟩, by show xm.length - (k + 1) < xm.length - k; omega⟩
        · refine TC_skip ?_
          refine TC_region ?_
          refine OL_sil rfl rfl rfl (Sil.add rfl rfl rfl (by omega) (by omega)) ?_
          refine OL_sil rfl rfl rfl (Sil.move rfl rfl) ?_
          refine OL_nil ?_
          have hre : renE d x.1 = x.1 := by unfold renE ren; rw [if_neg ht44]
          exact ⟨(k + 1, ys), ⟨⟨by show k + 1 ≤ xm.length; omega, hrk.stay hxk hre⟩, ⟨rfl, rfl, rfl, rfl, rfl, rfl, rfl, trivial⟩, List.Sublist.refl _⟩, by show xm.length - (k + 1) < xm.length - k; omega⟩
      · have hys : ys.map (·.1) = es.map (renE d) := by rw [hrk.done (by omega), hxm]
        have hyl : ∀ y ∈ ys, Lies 40 rm y := fun y hy => by
          obtain ⟨j, hj⟩ := List.mem_iff_getElem?.1 hy
          obtain ⟨x, hxj⟩ : ∃ x, xm[j]? = some x := ⟨_, List.getElem?_eq_getElem (by have := ltOf hj; rw [hrk.1] at this; exact this)⟩
          have h1 := hrk.2 j x hxj
          rw [hj] at h1
          rw [if_pos (by have := ltOf hxj; omega)] at h1
          cases h1
          exact hlm x (List.mem_of_getElem? hxj)
        have hyn : ys.length = xm.length := hrk.1
        refine TC_own (h' := [sq a1 x1.length c1 43 3 (rvsC x1), bagR r1, sq am ys.length cm 58 3 (rvsC ys), bagR rm]) (fun w hw => by rw [hyn]; exact hw) ?_
        refine TC_slot 8 (v := .slice am (es.map (renE d)).length cm) rfl (by rw [List.length_map, hml]) ?_
        refine TC_exit ?_
        refine TC_seq ?_
        refine TC_region ?_
        refine OL_sil rfl rfl rfl (Sil.move rfl rfl) ?_
        refine OL_loud rfl rfl rfl (LO.calls rfl ent27 rfl (fun w hw => (histOf_gives (es.map (renE d)) am cm w (hys ▸ RcsAt.of_sq (hw.mine _ (List.mem_of_getElem? (i := 2) rfl)) (hw.mine _ (List.mem_of_getElem? (i := 3) rfl)) hyl)).mono (fun v h hR => hR.ok (by rw [ren_errC]; exact h0)))) ?_
        rintro _ _ ⟨_, ⟨a2, c2, x2, r2, rfl, hx2, rfl, hl2⟩, rfl⟩
        refine OL_sil rfl rfl rfl (Sil.move rfl rfl) ?_
        refine OL_sil rfl rfl rfl (Sil.extract rfl rfl rfl) ?_
        refine OL_sil rfl rfl rfl (Sil.extract rfl rfl rfl) ?_
        refine OL_sil rfl rfl rfl (Sil.extract rfl rfl rfl) ?_
        refine OL_sil rfl rfl rfl (Sil.assign rfl rfl) ?_
        refine OL_sil rfl rfl rfl (Sil.assign rfl rfl) ?_
        refine OL_sil rfl rfl rfl (Sil.assign rfl rfl) ?_
        refine OL_nil ?_
        rw [List.length_map, ren_txs] at hx2
        have hn2 : x2.length = (txsM es es.length).length := by have := congrArg List.length hx2; simpa using this
        refine TC_seq ?_
        refine TC_seq ?_
        refine TC_region ?_
        refine OL_sil rfl rfl rfl (Sil.move rfl rfl) ?_
        refine OL_sil rfl rfl rfl (Sil.move rfl rfl) ?_
        refine OL_sil rfl rfl rfl (Sil.neq rfl rfl rfl) ?_
        refine OL_sil rfl rfl rfl (Sil.move rfl rfl) ?_
        refine OL_decn 70 rfl (fun ht70 => ?_) (fun ht70 => ?_)
        · exact absurd rfl ht70
        · refine OL_sil rfl rfl rfl (Sil.move rfl rfl) ?_
          refine OL_sil rfl rfl rfl (Sil.move rfl rfl) ?_
          refine OL_sil rfl rfl rfl (Sil.neq rfl rfl rfl) ?_
          refine OL_sil rfl rfl rfl (Sil.pick0 rfl rfl rfl) ?_
          refine OL_sil rfl rfl rfl (Sil.move rfl rfl) ?_
          refine OL_decn 75 rfl (fun ht75 => ?_) (fun ht75 => ?_)
          · exact absurd rfl ht75
          · refine OL_sil rfl rfl rfl (Sil.move rfl rfl) ?_
            refine OL_sil rfl rfl rfl (Sil.lenSl rfl rfl Try.underlying25) ?_
            refine OL_sil rfl rfl rfl (Sil.move rfl rfl) ?_
            refine OL_sil rfl rfl rfl (Sil.lenSl rfl rfl Try.underlying25) ?_
            refine OL_sil rfl rfl rfl (Sil.neq rfl rfl rfl) ?_
            refine OL_sil rfl rfl rfl (Sil.pick0 rfl rfl rfl) ?_
            refine OL_nil ?_
            refine TC_ifn rfl (fun ht81 => ?_) (fun ht81 => ?_)
            · omega
            · refine TC_skip ?_
              refine TC_seq ?_
              refine TC_seq ?_
              refine TC_region ?_
              refine OL_sil rfl rfl rfl (Sil.move rfl rfl) ?_
              refine OL_sil rfl rfl rfl (Sil.lenSl rfl rfl Try.underlying25) ?_
              refine OL_sil rfl rfl rfl (Sil.move rfl rfl) ?_
              refine OL_nil ?_
              refine TC_block ?_
              refine TC_loop (fun j : Nat => [(1, .int .i64 n), (5, .slice a1 x1.length c1), (10, .slice a2 x2.length c2), (83, .int .i64 x1.length), (84, .int .i64 j)]) (fun _ => [sq a1 x1.length c1 43 3 (rvsC x1), bagR r1, sq a2 x2.length c2 43 3 (rvsC x2), bagR r2]) (fun j => j ≤ x1.length) (fun j => x1.length - j) 0 ?_ ?_
              · exact ⟨Nat.zero_le _, ⟨rfl, rfl, rfl, rfl, rfl, trivial⟩, List.Sublist.cons_cons _ (List.Sublist.cons_cons _ (List.Sublist.cons _ (List.Sublist.cons _ (List.Sublist.refl _))))⟩
              · intro j hj
                refine TC_seq ?_
                refine TC_region ?_
                refine OL_sil rfl rfl rfl (Sil.lss rfl rfl rfl) ?_
                refine OL_nil ?_
                refine TC_seq ?_
                refine TC_if rfl (fun ht85 => ?_) (fun ht85 => ?_)
                · obtain ⟨t, ht⟩ : ∃ t, (txsM es es.length)[j]? = some t := ⟨_, List.getElem?_eq_getElem (by omega)⟩
                  obtain ⟨u1, hu1⟩ := at_map hx1 (show ((txsM es es.length).map (·.1))[j]? = some t.1 by rw [List.getElem?_map, ht]; rfl)
                  obtain ⟨u2, hu2⟩ := at_map hx2 (show (((txsM es es.length).map (renT d)).map (·.1))[j]? = some (renT d t).1 by rw [List.getElem?_map, List.getElem?_map, ht]; rfl)
                  have hlu1 := hl1 _ (List.mem_of_getElem? hu1)
                  have hlu2 := hl2 _ (List.mem_of_getElem? hu2)
                  obtain ⟨b1, d1, hf1⟩ := Lies.form hlu1
                  obtain ⟨b2, d2, hf2⟩ := Lies.form hlu2
                  have hf1 : u1 = .slice b1 t.1.ops.length d1 := hf1
                  have hf2 : u2 = .slice b2 t.1.ops.length d2 := hf2
                  subst hf1 hf2
                  obtain ⟨hti, _, e0, he0, _, hte, _⟩ := tx_inv es es.length j t ht
                  have hk0 := right_kind (err0 he0 (herr _ hti)).1
                  rw [← hte] at hk0
                  refine TC_know (fun w hw => hw.sqSome (i := 0) rfl (by omega)) (fun hsome => ?_)
                  obtain ⟨g5, rfl⟩ := hsome
                  refine TC_know (fun w hw => hw.sqSome (i := 2) rfl (by omega)) (fun hsome => ?_)
                  obtain ⟨g6, rfl⟩ := hsome
                  refine TC_skip ?_
                  refine TC_seq ?_
                  refine TC_block ?_
                  refine TC_seq ?_
                  refine TC_region ?_
                  refine OL_sil rfl rfl rfl (Sil.move rfl rfl) ?_
                  refine OL_sil rfl rfl rfl (Sil.assign rfl rfl) ?_
                  refine OL_nil ?_
                  refine TC_seq ?_
                  refine TC_draw rfl (fun j => false) ?_
                  refine DL_take 0 rfl (by kernel_rfl) rfl rfl rfl (Sil.move rfl rfl) (fun _ hr => hr) ?_
                  refine DL_take 1 rfl (by kernel_rfl) rfl rfl rfl (Sil.move rfl rfl) (fun _ hr => hr) ?_
                  refine DL_take 2 rfl (by kernel_rfl) rfl rfl rfl (Sil.indexOwn j rfl rfl rfl Try.underlying25 rfl rfl (by omega)) (fun _ hr => hr) ?_
                  refine DL_take 3 rfl (by kernel_rfl) rfl rfl rfl (Sil.fieldLoc 1 rfl rfl Try.underlying43 rfl rfl) (fun _ hr => hr) ?_
                  refine DL_take 4 rfl (by kernel_rfl) rfl rfl rfl (Sil.sqLoad 0 rfl rfl rfl Try.underlying3 rfl (rvsC_at hu1 1 _ rfl)) (fun _ hr => hr) ?_
                  refine DL_take 5 rfl (by kernel_rfl) rfl rfl rfl (Sil.move rfl rfl) (fun _ hr => hr) ?_
                  refine DL_take 6 rfl (by kernel_rfl) rfl rfl rfl (Sil.move rfl rfl) (fun _ hr => hr) ?_
                  refine DL_take 7 rfl (by kernel_rfl) rfl rfl rfl (Sil.indexOwn j rfl rfl rfl Try.underlying25 rfl rfl (by omega)) (fun _ hr => hr) ?_
                  refine DL_take 8 rfl (by kernel_rfl) rfl rfl rfl (Sil.fieldLoc 1 rfl rfl Try.underlying43 rfl rfl) (fun _ hr => hr) ?_
                  refine DL_take 9 rfl (by kernel_rfl) rfl rfl rfl (Sil.sqLoad 2 rfl rfl rfl Try.underlying3 rfl (rvsC_at hu2 1 _ rfl)) (fun _ hr => hr) ?_
                  refine DL_take 10 rfl (by kernel_rfl) rfl rfl rfl (Sil.neq rfl rfl rfl) (fun _ hr => hr) ?_
                  refine DL_take 11 rfl (by kernel_rfl) rfl rfl rfl (Sil.move rfl rfl) (fun _ hr => hr) ?_
                  refine DL_decn 98 rfl (fun ht98 => ?_) (fun ht98 => ?_)
                  · exact absurd rfl ht98
                  · refine DL_take 12 rfl (by kernel_rfl) rfl rfl rfl (Sil.move rfl rfl) (fun _ hr => hr) ?_
                    refine DL_take 13 rfl (by kernel_rfl) rfl rfl rfl (Sil.move rfl rfl) (fun _ hr => hr) ?_
                    refine DL_take 14 rfl (by kernel_rfl) rfl rfl rfl (Sil.indexOwn j rfl rfl rfl Try.underlying25 rfl rfl (by omega)) (fun _ hr => hr) ?_
                    refine DL_take 15 rfl (by kernel_rfl) rfl rfl rfl (Sil.fieldLoc 2 rfl rfl Try.underlying43 rfl rfl) (fun _ hr => hr) ?_
                    refine DL_take 16 rfl (by kernel_rfl) rfl rfl rfl (Sil.sqLoad 0 rfl rfl rfl Try.underlying41 rfl (rvsC_at hu1 2 _ rfl)) (fun _ hr => hr) ?_
                    refine DL_take 17 rfl (by kernel_rfl) rfl rfl rfl (Sil.move rfl rfl) (fun _ hr => hr) ?_
                    refine DL_take 18 rfl (by kernel_rfl) rfl rfl rfl (Sil.move rfl rfl) (fun _ hr => hr) ?_
                    refine DL_take 19 rfl (by kernel_rfl) rfl rfl rfl (Sil.indexOwn j rfl rfl rfl Try.underlying25 rfl rfl (by omega)) (fun _ hr => hr) ?_
                    refine DL_take 20 rfl (by kernel_rfl) rfl rfl rfl (Sil.fieldLoc 2 rfl rfl Try.underlying43 rfl rfl) (fun _ hr => hr) ?_
                    refine DL_take 21 rfl (by kernel_rfl) rfl rfl rfl (Sil.sqLoad 2 rfl rfl rfl Try.underlying41 rfl (rvsC_at hu2 2 _ rfl)) (fun _ hr => hr) ?_
                    refine DL_one 22 (by kernel_rfl) ?_
                    refine DS_loud rfl rfl rfl rfl (LO.pure rfl ent30 rfl (fun w hw => Same_true t.1.ops t.1.ops b1 b2 d1 d2 w (OpsV.at (hlu1.ops (hw.mine _ (List.mem_of_getElem? (i := 1) rfl)))) (OpsV.at (hlu2.ops (hw.mine _ (List.mem_of_getElem? (i := 3) rfl)))) rfl)) ?_
                    rintro _ _ ⟨rfl, rfl⟩
                    refine ⟨.inr (fun _ hr => hr), ?_⟩
                    refine DL_take 23 rfl (by kernel_rfl) rfl rfl rfl (Sil.not rfl rfl) (fun _ hr => hr) ?_
                    refine DL_take 24 rfl (by kernel_rfl) rfl rfl rfl (Sil.pick0 rfl rfl rfl) (fun _ hr => hr) ?_
                    refine DL_take 25 rfl (by kernel_rfl) rfl rfl rfl (Sil.move rfl rfl) (fun _ hr => hr) ?_
                    refine DL_take 26 rfl (by kernel_rfl) rfl rfl rfl (Sil.move rfl rfl) (fun _ hr => hr) ?_
                    refine DL_take 27 rfl (by kernel_rfl) rfl rfl rfl (Sil.move rfl rfl) (fun _ hr => hr) ?_
                    refine DL_take 28 rfl (by kernel_rfl) rfl rfl rfl (Sil.indexOwn j rfl rfl rfl Try.underlying25 rfl rfl (by omega)) (fun _ hr => hr) ?_
                    refine DL_take 29 rfl (by kernel_rfl) rfl rfl rfl (Sil.fieldLoc 0 rfl rfl Try.underlying43 rfl rfl) (fun _ hr => hr) ?_
                    refine DL_take 30 rfl (by kernel_rfl) rfl rfl rfl (Sil.sqLoad 2 rfl rfl rfl Try.underlying3 rfl (rvsC_at hu2 0 _ rfl)) (fun _ hr => hr) ?_
                    refine DL_take 31 rfl (by kernel_rfl) rfl rfl rfl (Sil.move rfl rfl) (fun _ hr => hr) ?_
                    refine DL_take 32 rfl (by kernel_rfl) rfl rfl rfl (Sil.move rfl rfl) (fun _ hr => hr) ?_
                    refine DL_take 33 rfl (by kernel_rfl) rfl rfl rfl (Sil.indexOwn j rfl rfl rfl Try.underlying25 rfl rfl (by omega)) (fun _ hr => hr) ?_
                    refine DL_take 34 rfl (by kernel_rfl) rfl rfl rfl (Sil.fieldLoc 0 rfl rfl Try.underlying43 rfl rfl) (fun _ hr => hr) ?_
                    refine DL_take 35 rfl (by kernel_rfl) rfl rfl rfl (Sil.sqLoad (v := .int .i64 t.1.p) 0 rfl rfl rfl Try.underlying3 rfl (rvsC_at hu1 0 _ rfl)) (fun _ hr => hr) ?_
                    refine DL_take 36 rfl (by kernel_rfl) rfl rfl rfl (Sil.sub rfl rfl rfl (by omega) (by omega)) (fun _ hr => hr) ?_
                    refine DL_take 37 rfl (by kernel_rfl) rfl rfl rfl (Sil.move rfl rfl) (fun _ hr => hr) ?_
                    refine DL_take 38 rfl (by kernel_rfl) rfl rfl rfl (Sil.andw (j := 15) rfl rfl rfl (by decide)) (fun _ hr => hr) ?_
                    refine DL_slot 125 (v := .int .i64 d) rfl (by rw [hd]) ?_
                    refine DL_take 39 rfl (by kernel_rfl) rfl rfl rfl (Sil.add rfl rfl rfl (by omega) (by omega)) (fun _ hr => hr) ?_
                    refine DL_take 40 rfl (by kernel_rfl) rfl rfl rfl (Sil.rem rfl rfl rfl (by omega) (by omega)) (fun _ hr => hr) ?_
                    refine DL_take 41 rfl (by kernel_rfl) rfl rfl rfl (Sil.add rfl rfl rfl (by omega) (by omega)) (fun _ hr => hr) ?_
                    refine DL_take 42 rfl (by kernel_rfl) rfl rfl rfl (Sil.neq rfl rfl rfl) (fun _ hr => hr) ?_
                    refine DL_take 43 rfl (by kernel_rfl) rfl rfl rfl (Sil.pick0 rfl rfl rfl) (fun _ hr => hr) ?_
                    refine DL_done (by kernel_rfl) ?_
                    refine TC_ifn rfl (fun ht130 => ?_) (fun ht130 => ?_)
                    · exact absurd (by show ren d t.1.p = _; unfold ren; rw [if_pos hk0.2.2]) ht130
                    · refine TC_skip ?_
                      refine TC_region ?_
                      refine OL_sil rfl rfl rfl (Sil.add rfl rfl rfl (by omega) (by omega)) ?_
                      refine OL_sil rfl rfl rfl (Sil.move rfl rfl) ?_
                      refine OL_nil ?_
                      exact ⟨j + 1, ⟨by omega, ⟨rfl, rfl, rfl, rfl, rfl, trivial⟩, List.Sublist.refl _⟩, by omega⟩
                · refine TC_exit ?_
                  refine TC_seq ?_
                  refine TC_region ?_
                  refine OL_sil rfl rfl rfl (Sil.assign rfl rfl) ?_
                  refine OL_nil ?_
                  refine TC_ret ?_
                  exact ret1 rfl rfl ⟨rfl, rfl⟩
theorem HistNames_bad (es : List RcD) (a : Option Addr) (cap : Nat) (n : Int) (w0 : World) (hx : RcsAt w0 a es) (h0 : errC es ≠ 0) :
    Gives Try.prog 10 [.slice a es.length cap, .int .i64 n] w0 [] fun v h => v = .bool true ∧ h = [] := by
  obtain ⟨d, hd⟩ : ∃ d, d = (n % 18446744073709551616).toNat &&& 15 := ⟨_, rfl⟩
  have hd15 : d ≤ 15 := by rw [hd]; exact Nat.and_le_right
  refine gives_of Try.func10 rfl rfl rfl (Own.start w0) ?_
  refine TC_seq ?_
  refine TC_region ?_
  refine OL_sil rfl rfl rfl (Sil.assign rfl rfl) ?_
  refine OL_nil ?_
  refine TC_seq ?_
  refine TC_seq ?_
  refine TC_region ?_
  refine OL_pure rfl rfl rfl (LO.pure rfl ent24 rfl (fun w _ => head5_gives w)) ?_
  refine OL_sil rfl rfl rfl (Sil.not rfl rfl) ?_
  refine OL_nil ?_
  refine TC_no rfl ?_
  refine TC_skip ?_
  refine TC_seq ?_
  refine TC_seq ?_
  refine TC_region ?_
  refine OL_sil rfl rfl rfl (Sil.move rfl rfl) ?_
  refine OL_loud rfl rfl rfl (LO.calls rfl ent25 rfl (fun w hw => big5_gives es a cap w (hx.keep hw.keep))) ?_
  rintro _ _ ⟨_, ⟨bb, rfl, hbig, rfl⟩, rfl⟩
  refine OL_nil ?_
  refine TC_cond rfl (fun ht17 => ?_) (fun ht17 => ?_)
  · refine TC_seq ?_
    refine TC_region ?_
    refine OL_sil rfl rfl rfl (Sil.assign rfl rfl) ?_
    refine OL_nil ?_
    refine TC_ret ?_
    exact ret1 rfl rfl ⟨rfl, rfl⟩
  · obtain ⟨hb1, hb2⟩ := hbig ht17
    refine TC_skip ?_
    refine TC_seq ?_
    refine TC_region ?_
    refine OL_sil rfl rfl rfl (Sil.move rfl rfl) ?_
    refine OL_loud rfl rfl rfl (LO.calls rfl ent27 rfl (fun w hw => (histOf_gives es a cap w (hx.keep hw.keep)).mono (fun v h hR => hR.bad h0))) ?_
    rintro _ _ ⟨_, ⟨rfl, rfl⟩, rfl⟩
    refine OL_sil rfl rfl rfl (Sil.move rfl rfl) ?_
    refine OL_sil rfl rfl rfl (Sil.extract rfl rfl rfl) ?_
    refine OL_sil rfl rfl rfl (Sil.extract rfl rfl rfl) ?_
    refine OL_sil rfl rfl rfl (Sil.extract rfl rfl rfl) ?_
    refine OL_sil rfl rfl rfl (Sil.assign rfl rfl) ?_
    refine OL_sil rfl rfl rfl (Sil.assign rfl rfl) ?_
    refine OL_sil rfl rfl rfl (Sil.assign rfl rfl) ?_
    refine OL_nil ?_
    refine TC_seq ?_
    refine TC_region ?_
    refine OL_sil rfl rfl rfl (Sil.move rfl rfl) ?_
    refine OL_loud rfl rfl rfl (LO.calls rfl ent26 rfl (fun w hw => Copy_gives es a cap w (hx.keep hw.keep) (by omega) (fun e he => by have := hb2 e he; omega))) ?_
    rintro _ _ ⟨_, ⟨am, cm, xm, rm, rfl, hxm, rfl, hlm⟩, rfl⟩
    refine OL_sil rfl rfl rfl (Sil.assign rfl rfl) ?_
    refine OL_nil ?_
    have hml : xm.length = es.length := by rw [← hxm]; simp
    refine TC_seq ?_
    refine TC_seq ?_
    refine TC_region ?_
    refine OL_sil rfl rfl rfl (Sil.move rfl rfl) ?_
    refine OL_sil rfl rfl rfl (Sil.lenSl rfl rfl Try.underlying22) ?_
    refine OL_sil rfl rfl rfl (Sil.move rfl rfl) ?_
    refine OL_nil ?_
    refine TC_block ?_
    refine TC_loop (fun ((k, _) : Nat × List RcV) => [(1, .int .i64 n), (5, .slice none 0 0), (6, .int .i64 (plc es)), (7, .int .i64 (errC es)), (8, .slice am xm.length cm), (27, .int .i64 xm.length), (28, .int .i64 k)]) (fun (_, ys) => [sq am xm.length cm 58 3 (rvsC ys), bagR rm]) (fun (k, ys) => k ≤ xm.length ∧ RenK d xm k ys) (fun (k, _) => xm.length - k) (0, xm) ?_ ?_
    · exact ⟨⟨Nat.zero_le _, rfl, fun j x hj => by rw [hj, if_neg (by omega)]⟩, ⟨rfl, rfl, rfl, rfl, rfl, rfl, rfl, trivial⟩, List.Sublist.refl _⟩
    · rintro ⟨k, ys⟩ ⟨hk, hrk⟩
      have hk : k ≤ xm.length := hk
      have hrk : RenK d xm k ys := hrk
      refine TC_seq ?_
      refine TC_region ?_
      refine OL_sil rfl rfl rfl (Sil.lss rfl rfl rfl) ?_
      refine OL_nil ?_
      refine TC_seq ?_
      refine TC_if rfl (fun ht29 => ?_) (fun ht29 => ?_)
      · obtain ⟨x, hxk⟩ : ∃ x, xm[k]? = some x := ⟨_, List.getElem?_eq_getElem (by omega)⟩
        have hyk := hrk.2 k x hxk
        rw [if_neg (by omega)] at hyk
        have hyk : ys[k]? = some x := hyk
        refine TC_know (fun w hw => hw.sqSome (i := 0) rfl (by omega)) (fun hsome => ?_)
        obtain ⟨g5, rfl⟩ := hsome
        refine TC_skip ?_
        refine TC_seq ?_
        refine TC_block ?_
        refine TC_seq ?_
        refine TC_region ?_
        refine OL_sil rfl rfl rfl (Sil.move rfl rfl) ?_
        refine OL_sil rfl rfl rfl (Sil.assign rfl rfl) ?_
        refine OL_nil ?_
        refine TC_seq ?_
        refine TC_bool 44 (1 ≤ x.1.q ∧ x.1.q ≤ 16) ?_ ?_
        · refine TC_region ?_
          refine OL_sil rfl rfl rfl (Sil.move rfl rfl) ?_
          refine OL_sil rfl rfl rfl (Sil.move rfl rfl) ?_
          refine OL_sil rfl rfl rfl (Sil.indexOwn k rfl rfl rfl Try.underlying22 rfl rfl (by omega)) ?_
          refine OL_sil rfl rfl rfl (Sil.fieldLoc 1 rfl rfl Try.underlying58 rfl rfl) ?_
          refine OL_sil rfl rfl rfl (Sil.sqLoad 0 rfl rfl rfl Try.underlying3 rfl (rvsC_at hyk 1 _ rfl)) ?_
          refine OL_sil rfl rfl rfl (Sil.geq rfl rfl rfl) ?_
          refine OL_sil rfl rfl rfl (Sil.move rfl rfl) ?_
          refine OL_dec 37 rfl (fun ht37 => ?_) (fun ht37 => ?_)
          · refine OL_sil rfl rfl rfl (Sil.move rfl rfl) ?_
            refine OL_sil rfl rfl rfl (Sil.move rfl rfl) ?_
            refine OL_sil rfl rfl rfl (Sil.indexOwn k rfl rfl rfl Try.underlying22 rfl rfl (by omega)) ?_
            refine OL_sil rfl rfl rfl (Sil.fieldLoc 1 rfl rfl Try.underlying58 rfl rfl) ?_
            refine OL_sil rfl rfl rfl (Sil.sqLoad 0 rfl rfl rfl Try.underlying3 rfl (rvsC_at hyk 1 _ rfl)) ?_
            refine OL_sil rfl rfl rfl (Sil.leq rfl rfl rfl) ?_
            refine OL_sil rfl rfl rfl (Sil.pick1 rfl rfl rfl) ?_
            refine OL_nil ?_
            (refine Cont.then_intro (And.intro (by (repeat' (first | exact trivial | refine ⟨rfl, ?_⟩))) (And.intro ?_ rfl)); first | exact slotV rfl (congrArg Value.bool (decide_eq_true (by omega)).symm) | exact slotV rfl (congrArg Value.bool (decide_eq_false (by omega)).symm) | exact slotV rfl (congrArg Value.bool (decide_eq_decide.2 (by omega))) | exact slotV rfl (congrArg Value.bool (decide_not.symm.trans (decide_eq_decide.2 (by omega)))))
          · refine OL_skip rfl rfl rfl ?_
            refine OL_skip rfl rfl rfl ?_
            refine OL_skip rfl rfl rfl ?_
            refine OL_skip rfl rfl rfl ?_
            refine OL_skip rfl rfl rfl ?_
            refine OL_skip rfl rfl rfl ?_
            refine OL_sil rfl rfl rfl (Sil.pick0 rfl rfl rfl) ?_
            refine OL_nil ?_
            (refine Cont.then_intro (And.intro (by (repeat' (first | exact trivial | refine ⟨rfl, ?_⟩))) (And.intro ?_ rfl)); first | exact slotV rfl (congrArg Value.bool (decide_eq_true (by omega)).symm) | exact slotV rfl (congrArg Value.bool (decide_eq_false (by omega)).symm) | exact slotV rfl (congrArg Value.bool (decide_eq_decide.2 (by omega))) | exact slotV rfl (congrArg Value.bool (decide_not.symm.trans (decide_eq_decide.2 (by omega)))))
        refine TC_if rfl (fun ht44 => ?_) (fun ht44 => ?_)
        · refine TC_region ?_
          refine OL_sil rfl rfl rfl (Sil.move rfl rfl) ?_
          refine OL_sil rfl rfl rfl (Sil.move rfl rfl) ?_
          refine OL_sil rfl rfl rfl (Sil.move rfl rfl) ?_
          refine OL_sil rfl rfl rfl (Sil.move rfl rfl) ?_
          refine OL_sil rfl rfl rfl (Sil.indexOwn k rfl rfl rfl Try.underlying22 rfl rfl (by omega)) ?_
          refine OL_sil rfl rfl rfl (Sil.fieldLoc 1 rfl rfl Try.underlying58 rfl rfl) ?_
          refine OL_sil rfl rfl rfl (Sil.sqLoad 0 rfl rfl rfl Try.underlying3 rfl (rvsC_at hyk 1 _ rfl)) ?_
          refine OL_sil rfl rfl rfl (Sil.sub rfl rfl rfl (by omega) (by omega)) ?_
          refine OL_sil rfl rfl rfl (Sil.move rfl rfl) ?_
          refine OL_sil rfl rfl rfl (Sil.andw (j := 15) rfl rfl rfl (by decide)) ?_
          refine OL_slot 54 (v := .int .i64 d) rfl (by rw [hd]) ?_
          refine OL_sil rfl rfl rfl (Sil.add rfl rfl rfl (by omega) (by omega)) ?_
          refine OL_sil rfl rfl rfl (Sil.rem rfl rfl rfl (by omega) (by omega)) ?_
          refine OL_sil rfl rfl rfl (Sil.add rfl rfl rfl (by omega) (by omega)) ?_
          refine OL_slot 57 (v := .int .i64 (ren d x.1.q)) rfl (congrArg _ (by unfold ren; rw [if_pos ht44])) ?_
          refine OL_sil rfl rfl rfl (Sil.indexOwn k rfl rfl rfl Try.underlying22 rfl rfl (by omega)) ?_
          refine OL_sil rfl rfl rfl (Sil.fieldLoc 1 rfl rfl Try.underlying58 rfl rfl) ?_
          refine OL_loud0 rfl rfl (LO.sqStoreAs 0 rfl rfl rfl rfl rfl rfl rfl (by show k * 3 + 1 < xm.length * 3; omega) (rvsC_set1 hyk (ren d x.1.q))) ?_
          rintro _ _ ⟨rfl, rfl⟩
          refine OL_nil ?_
          refine TC_region ?_
          refine OL_sil rfl rfl rfl (Sil.add rfl rfl rfl (by omega) (by omega)) ?_
          refine OL_sil rfl rfl rfl (Sil.move rfl rfl) ?_
          refine OL_nil ?_
          exact ⟨(k + 1, ys.set k (renE d x.1, x.2)), ⟨⟨by show k + 1 ≤ xm.length; omega, hrk.step hxk⟩, ⟨rfl, rfl, rfl, rfl, rfl, rfl, rfl, trivial⟩, List.Sublist.refl _⟩, by show xm.length - (k + 1) < xm.length - k; omega⟩
        · refine TC_skip ?_
          refine TC_region ?_
          refine OL_sil rfl rfl rfl (Sil.add rfl rfl rfl (by omega) (by omega)) ?_
          refine OL_sil rfl rfl rfl (Sil.move rfl rfl) ?_
          refine OL_nil ?_
          have hre : renE d x.1 = x.1 := by unfold renE ren; rw [if_neg ht44]
          exact ⟨(k + 1, ys), ⟨⟨by show k + 1 ≤ xm.length; omega, hrk.stay hxk hre⟩, ⟨rfl, rfl, rfl, rfl, rfl, rfl, rfl, trivial⟩, List.Sublist.refl _⟩, by show xm.length - (k + 1) < xm.length - k; omega⟩
      · have hys : ys.map (·.1) = es.map (renE d) := by rw [hrk.done (by omega), hxm]
        have hyl : ∀ y ∈ ys, Lies 40 rm y := fun y hy => by
          obtain ⟨j, hj⟩ := List.mem_iff_getElem?.1 hy
          obtain ⟨x, hxj⟩ : ∃ x, xm[j]? = some x := ⟨_, List.getElem?_eq_getElem (by have := ltOf hj; rw [hrk.1] at this; exact this)⟩
          have h1 := hrk.2 j x hxj
          rw [hj] at h1
          rw [if_pos (by have := ltOf hxj; omega)] at h1
          cases h1
          exact hlm x (List.mem_of_getElem? hxj)
        have hyn : ys.length = xm.length := hrk.1
        refine TC_own (h' := [sq am ys.length cm 58 3 (rvsC ys), bagR rm]) (fun w hw => by rw [hyn]; exact hw) ?_
        refine TC_slot 8 (v := .slice am (es.map (renE d)).length cm) rfl (by rw [List.length_map, hml]) ?_
        refine TC_exit ?_
        refine TC_seq ?_
        refine TC_region ?_
        refine OL_sil rfl rfl rfl (Sil.move rfl rfl) ?_
        refine OL_loud rfl rfl rfl (LO.calls rfl ent27 rfl (fun w hw => (histOf_gives (es.map (renE d)) am cm w (hys ▸ RcsAt.of_sq (hw.mine _ (List.mem_of_getElem? (i := 0) rfl)) (hw.mine _ (List.mem_of_getElem? (i := 1) rfl)) hyl)).mono (fun v h hR => hR.bad (by rw [ren_errC]; exact h0)))) ?_
        rintro _ _ ⟨_, ⟨rfl, rfl⟩, rfl⟩
        refine OL_sil rfl rfl rfl (Sil.move rfl rfl) ?_
        refine OL_sil rfl rfl rfl (Sil.extract rfl rfl rfl) ?_
        refine OL_sil rfl rfl rfl (Sil.extract rfl rfl rfl) ?_
        refine OL_sil rfl rfl rfl (Sil.extract rfl rfl rfl) ?_
        refine OL_sil rfl rfl rfl (Sil.assign rfl rfl) ?_
        refine OL_sil rfl rfl rfl (Sil.assign rfl rfl) ?_
        refine OL_sil rfl rfl rfl (Sil.assign rfl rfl) ?_
        refine OL_nil ?_
        rw [ren_errC, ren_plc]
        refine TC_seq ?_
        refine TC_seq ?_
        refine TC_region ?_
        refine OL_sil rfl rfl rfl (Sil.move rfl rfl) ?_
        refine OL_sil rfl rfl rfl (Sil.move rfl rfl) ?_
        refine OL_sil rfl rfl rfl (Sil.neq rfl rfl rfl) ?_
        refine OL_sil rfl rfl rfl (Sil.move rfl rfl) ?_
        refine OL_decn 70 rfl (fun ht70 => ?_) (fun ht70 => ?_)
        · exact absurd rfl ht70
        · refine OL_sil rfl rfl rfl (Sil.move rfl rfl) ?_
          refine OL_sil rfl rfl rfl (Sil.move rfl rfl) ?_
          refine OL_sil rfl rfl rfl (Sil.neq rfl rfl rfl) ?_
          refine OL_sil rfl rfl rfl (Sil.pick0 rfl rfl rfl) ?_
          refine OL_sil rfl rfl rfl (Sil.move rfl rfl) ?_
          refine OL_decn 75 rfl (fun ht75 => ?_) (fun ht75 => ?_)
          · exact absurd rfl ht75
          · refine OL_sil rfl rfl rfl (Sil.move rfl rfl) ?_
            refine OL_sil rfl rfl rfl (Sil.lenSl rfl rfl Try.underlying25) ?_
            refine OL_sil rfl rfl rfl (Sil.move rfl rfl) ?_
            refine OL_sil rfl rfl rfl (Sil.lenSl rfl rfl Try.underlying25) ?_
            refine OL_sil rfl rfl rfl (Sil.neq rfl rfl rfl) ?_
            refine OL_sil rfl rfl rfl (Sil.pick0 rfl rfl rfl) ?_
            refine OL_nil ?_
            refine TC_ifn rfl (fun ht81 => ?_) (fun ht81 => ?_)
            · exact absurd rfl ht81
            · refine TC_skip ?_
              refine TC_seq ?_
              refine TC_seq ?_
              refine TC_region ?_
              refine OL_sil rfl rfl rfl (Sil.move rfl rfl) ?_
              refine OL_sil rfl rfl rfl (Sil.lenSl rfl rfl Try.underlying25) ?_
              refine OL_sil rfl rfl rfl (Sil.move rfl rfl) ?_
              refine OL_nil ?_
              refine TC_block ?_
              refine TC_loop (fun _ : Unit => [(83, .int .i64 0), (84, .int .i64 0)]) (fun _ => []) (fun _ => True) (fun _ => 0) () ?_ ?_
              · exact ⟨trivial, ⟨rfl, rfl, trivial⟩, List.nil_sublist _⟩
              · intro _ _
                refine TC_seq ?_
                refine TC_region ?_
                refine OL_sil rfl rfl rfl (Sil.lss rfl rfl rfl) ?_
                refine OL_nil ?_
                refine TC_seq ?_
                refine TC_if rfl (fun ht85 => ?_) (fun ht85 => ?_)
                · exact absurd ht85 (by decide)
                · refine TC_exit ?_
                  refine TC_seq ?_
                  refine TC_region ?_
                  refine OL_sil rfl rfl rfl (Sil.assign rfl rfl) ?_
                  refine OL_nil ?_
                  refine TC_ret ?_
                  exact ret1 rfl rfl ⟨rfl, rfl⟩
theorem HistNames_gives (es : List RcD) (a : Option Addr) (cap : Nat) (n : Int) (w0 : World) (hx : RcsAt w0 a es) :
    Gives Try.prog 10 [.slice a es.length cap, .int .i64 n] w0 [] fun v h => v = .bool true ∧ h = [] := by
  by_cases h0 : errC es = 0
  · exact HistNames_ok es a cap n w0 hx h0
  · exact HistNames_bad es a cap n w0 hx h0
end Go.Proofs.Ytjnopbmanhialaa
