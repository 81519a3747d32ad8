/-
  Plain facts: how many transactions; what a beginning of a history says; what one more event does.
-/
import Derived.Test.YtjnopbmanhialaaHfI
namespace Go.Proofs.Ytjnopbmanhialaa
open Go.Cru

theorem err0 {es : List RcD} {i : Nat} {e : RcD} (he : es[i]? = some e) (h : errM es i = 0) :
    right e ∧ (e.p = 1 → opB es e.q i = false) ∧ (¬ e.p = 1 → opB es e.q i = true) := by
  have hr : right e := Decidable.byContradiction fun hn => by rw [errM_20 he hn] at h; cases h
  have ho : (decide (opB es e.q i = true) == decide (e.p = 1)) = false := by
    cases hb : (decide (opB es e.q i = true) == decide (e.p = 1)) with
    | false => rfl
    | true => rw [errM_21 he hr hb] at h; cases h
  refine ⟨hr, fun hp => ?_, fun hp => ?_⟩
  · cases hb : opB es e.q i with
    | false => rfl
    | true => rw [hb] at ho; simp [hp] at ho
  · cases hb : opB es e.q i with
    | true => rfl
    | false => rw [hb] at ho; simp [hp] at ho
theorem right_kind {e : RcD} (h : right e) : 1 ≤ e.p ∧ e.p ≤ 4 ∧ 1 ≤ e.q ∧ e.q ≤ 16 := by
  have := h.1
  unfold badH at this
  omega
/-- Events of kind k among the first i. -/
def cntK (es : List RcD) (k : Int) : Nat → Nat
  | 0 => 0
  | i + 1 => cntK es k i + (if (es[i]?).map RcD.p = some k then 1 else 0)
theorem cntK_succ {es : List RcD} {i : Nat} {e : RcD} (he : es[i]? = some e) (k : Int) : cntK es k (i + 1) = cntK es k i + (if e.p = k then 1 else 0) := by
  rw [cntK, he]
  simp
/-- An end of a transaction: who it is, what becomes of the list. -/
theorem end_step {es : List RcD} {i : Nat} {e : RcD} (he : es[i]? = some e) (h : errM es i = 0) (hp : ¬ e.p = 1) :
    ∃ m t, (txsM es i)[m]? = some t ∧ (t.2 : Int) = lastG es e.q i ∧ t.1.q = 0 ∧ t.1.p = e.q ∧ txsM es (i + 1) = (txsM es i).set m (stepT e (lastG es e.q i) t) := by
  obtain ⟨_, _, h2⟩ := err0 he h
  obtain ⟨hp0, ep, hep, hep1, hepq⟩ := opB_true (h2 hp)
  obtain ⟨hl1, hl2⟩ := lastG_lt es e.q i
  obtain ⟨t, ht, htp⟩ := tx_at es hep hep1 i (by omega)
  obtain ⟨_, _, e0, he0, _, hte, hst⟩ := tx_inv es i _ t ht
  rw [htp, hep] at he0
  cases he0
  have hst := hst.resolve_right (fun hh => by have := hh.2; rw [hepq, htp] at this; omega)
  refine ⟨_, t, ht, by omega, hst.1, hte.trans hepq, ?_⟩
  rw [txsM_end he hp]
  apply List.ext_getElem?
  intro k
  rw [List.getElem?_map]
  by_cases ek : (txsM es (lastG es e.q i).toNat).length = k
  · subst ek
    rw [List.getElem?_set_self (ltOf ht), ht]
    rfl
  · rw [List.getElem?_set_ne ek]
    cases hk : (txsM es i)[k]? with
    | none => rfl
    | some t' =>
      simp only [Option.map_some, Option.some.injEq]
      refine stepT_no fun hh => ?_
      obtain ⟨_, g2, _⟩ := tx_inv es i k t' hk
      exact ek (by rw [← g2, show t'.2 = (lastG es e.q i).toNat from by omega])
def doneB (t : RcD × Nat) : Bool := decide (t.1.q = 1)
def goneB (t : RcD × Nat) : Bool := decide (t.1.q = 2)
/-- As many transactions as Invokes, as many done as Oks, as many gone as Fails. -/
theorem counts (es : List RcD) : ∀ i : Nat, i ≤ es.length → (∀ j, j < i → errM es j = 0) → (txsM es i).length = cntK es 1 i ∧ (txsM es i).countP doneB = cntK es 2 i ∧ (txsM es i).countP goneB = cntK es 3 i
  | 0, _, _ => ⟨rfl, rfl, rfl⟩
  | i + 1, hi, h => by
    obtain ⟨c1, c2, c3⟩ := counts es i (by omega) fun j hj => h j (by omega)
    obtain ⟨e, he⟩ : ∃ e, es[i]? = some e := ⟨_, List.getElem?_eq_getElem (by omega)⟩
    rw [cntK_succ he, cntK_succ he, cntK_succ he]
    by_cases hp : e.p = 1
    · rw [txsM_inv he hp, List.length_append, List.countP_append, List.countP_append]
      simp [hp, c1, c2, c3, doneB, goneB]
    · obtain ⟨m, t, ht, hts, ht0, _, hset⟩ := end_step he (h i (by omega)) hp
      rw [hset, List.length_set, List.countP_set (ltOf ht), List.countP_set (ltOf ht), (List.getElem?_eq_some_iff.1 ht).2]
      by_cases h2 : e.p = 2
      · rw [stepT_2 hts h2]; simp [h2, c1, c2, c3, doneB, goneB, ht0]
      · by_cases h3 : e.p = 3
        · rw [stepT_3 hts h3]; simp [h3, c1, c2, c3, doneB, goneB, ht0]
        · rw [stepT_no (by omega)]; simp [hp, h2, h3, c1, c2, c3, doneB, goneB, ht0]

/-! ### two histories that say the same up to event i -/
def Agree (es es' : List RcD) (i : Nat) : Prop := ∀ j, j < i → es[j]? = es'[j]?
theorem Agree.last {es es' : List RcD} (c : Int) : ∀ {i : Nat}, Agree es es' i → lastG es c i = lastG es' c i
  | 0, _ => rfl
  | i + 1, h => by rw [lastG, lastG, h i (by omega), Agree.last c (i := i) fun j hj => h j (by omega)]
theorem Agree.opB {es es' : List RcD} {i : Nat} (h : Agree es es' i) (c : Int) : opB es c i = opB es' c i := by
  by_cases h0 : 0 ≤ lastG es c i
  · obtain ⟨ep, hep, _⟩ := lastG_at es c i h0
    have hl := (lastG_lt es c i).2
    rw [opB_pos h0 hep, opB_pos (h.last c ▸ h0) (by rw [← h.last c, ← h _ (by omega)]; exact hep)]
  · rw [opB_neg h0, opB_neg (by rw [← h.last c]; exact h0)]
theorem Agree.twP {es es' : List RcD} {i : Nat} (h : Agree es es' (i + 1)) : twP es i → twP es' i := by
  rintro ⟨j, k, j', hk, e, o, e', p, g1, g2, g3, g4, g5, g6, g7⟩
  exact ⟨j, k, j', hk, e, o, e', p, (h i (by omega)) ▸ g1, g2, g3, (h k (by omega)) ▸ g4, g5, g6, g7⟩
theorem Agree.symm {es es' : List RcD} {i : Nat} (h : Agree es es' i) : Agree es' es i := fun j hj => (h j hj).symm
theorem Agree.sub {es es' : List RcD} {i m : Nat} (h : Agree es es' i) (hm : m ≤ i) : Agree es es' m := fun j hj => h j (by omega)
theorem Agree.err {es es' : List RcD} {i : Nat} (h : Agree es es' (i + 1)) : errM es i = errM es' i := by
  have hi := h i (by omega)
  have h' : Agree es es' i := h.sub (by omega)
  cases he : es[i]? with
  | none => unfold errM; rw [← hi, he]
  | some e =>
    have he' : es'[i]? = some e := by rw [← hi]; exact he
    have ho := h'.opB e.q
    by_cases hr : right e
    · cases hb : (decide (Proofs.Ytjnopbmanhialaa.opB es e.q i = true) == decide (e.p = 1)) with
      | true => rw [errM_21 he hr hb, errM_21 he' hr (by rw [← ho]; exact hb)]
      | false =>
        have hb' := hb
        rw [ho] at hb'
        by_cases h1 : e.p = 1
        · rw [errM_23 he hr hb h1, errM_23 he' hr hb' h1]
          by_cases ht : Proofs.Ytjnopbmanhialaa.twP es i
          · rw [if_pos ht, if_pos (h.twP ht)]
          · rw [if_neg ht, if_neg (fun hh => ht (h.symm.twP hh))]
        · by_cases h2 : e.p ≠ 2 ∧ (e.ops.length : Int) > 0
          · rw [errM_22 he hr hb h1 h2, errM_22 he' hr hb' h1 h2]
          · by_cases h3 : e.p = 2
            · have hop : Proofs.Ytjnopbmanhialaa.opB es e.q i = true := by
                cases hb2 : Proofs.Ytjnopbmanhialaa.opB es e.q i with
                | true => rfl
                | false => rw [hb2] at hb; simp [h1] at hb
              obtain ⟨hp0, ep, hep, _⟩ := opB_true hop
              have hl := (lastG_lt es e.q i).2
              rw [errM_ans he hr hb h3 hep, errM_ans he' hr hb' h3 (by rw [← h'.last e.q, ← h' _ (by omega)]; exact hep)]
            · rw [errM_end he hr hb h1 h2 h3, errM_end he' hr hb' h1 h2 h3]
    · rw [errM_20 he hr, errM_20 he' hr]
theorem Agree.txs {es es' : List RcD} : ∀ {i : Nat}, Agree es es' i → txsM es i = txsM es' i
  | 0, _ => rfl
  | i + 1, h => by
    have ih := Agree.txs (i := i) (h.sub (by omega))
    rw [txsM, txsM, ← h i (by omega), ih]
    cases es[i]? with
    | none => rfl
    | some e => simp only; rw [(h.sub (show i ≤ i + 1 by omega)).last e.q]
theorem agree_take (es : List RcD) (n : Nat) : Agree (es.take n) es n := fun j hj => by rw [List.getElem?_take, if_pos hj]
theorem agree_snoc (es : List RcD) (e : RcD) : Agree (es ++ [e]) es es.length := fun _ hj => List.getElem?_append_left hj
/-- The first n events of a history are one. -/
theorem take_ok {es : List RcD} (h : errC es = 0) (n : Nat) : errC (es.take n) = 0 := by
  obtain ⟨hl, h1⟩ := errC_zero h
  have hlt : (es.take n).length ≤ es.length := by rw [List.length_take]; omega
  refine errC_ok (by omega) fun j hj => ?_
  have hjn : j < n := by rw [List.length_take] at hj; omega
  rw [((agree_take es n).sub (show j + 1 ≤ n by omega)).err]
  exact h1 j (by omega)
theorem take_txs (es : List RcD) (n : Nat) (hn : n ≤ es.length) : txsM (es.take n) (es.take n).length = txsM es n := by
  rw [List.length_take, Nat.min_eq_left hn]
  exact (agree_take es n).txs
theorem stepT_fst (e : RcD) (p : Int) (t : RcD × Nat) : (stepT e p t).1.p = t.1.p := by
  by_cases h : (t.2 : Int) = p ∧ (e.p = 2 ∨ e.p = 3)
  · rcases h.2 with h2 | h3
    · rw [stepT_2 h.1 h2]
    · rw [stepT_3 h.1 h3]
  · rw [stepT_no h]
/-- What is told of a transaction stays: who asked; the end, where it has ended. -/
theorem tx_stays {es : List RcD} {n k : Nat} {t : RcD × Nat} (ht : (txsM es n)[k]? = some t) : ∀ i : Nat, n ≤ i → i ≤ es.length → (∀ j, j < i → errM es j = 0) → ∃ t', (txsM es i)[k]? = some t' ∧ t'.1.p = t.1.p ∧ (t.1.q = 0 ∨ t'.1.q = t.1.q)
  | 0, h, _, _ => by obtain rfl : n = 0 := by omega
                     exact ⟨t, ht, rfl, .inr rfl⟩
  | i + 1, h, hi, he => by
    by_cases e1 : n = i + 1
    · subst e1; exact ⟨t, ht, rfl, .inr rfl⟩
    · obtain ⟨t1, h1, h2, h3⟩ := tx_stays ht i (by omega) (by omega) fun j hj => he j (by omega)
      obtain ⟨e, hee⟩ : ∃ e, es[i]? = some e := ⟨_, List.getElem?_eq_getElem (by omega)⟩
      by_cases hp : e.p = 1
      · exact ⟨t1, by rw [txsM_inv hee hp, List.getElem?_append_left (ltOf h1)]; exact h1, h2, h3⟩
      · obtain ⟨m, tm, hm, hms, hm0, hmp, hset⟩ := end_step hee (he i (by omega)) hp
        rw [hset]
        by_cases em : m = k
        · subst em
          rw [hm] at h1
          cases h1
          refine ⟨_, List.getElem?_set_self (ltOf hm), ?_, .inl (h3.elim id fun hh => by rw [← hh]; exact hm0)⟩
          rw [← h2]
          exact stepT_fst e _ t1
        · exact ⟨t1, by rw [List.getElem?_set_ne em]; exact h1, h2, h3⟩

/-! ### one event more -/
theorem snoc_at (es : List RcD) (e : RcD) : (es ++ [e])[es.length]? = some e := by simp
theorem snoc_err {es : List RcD} (h : errC es = 0) (e : RcD) (hl : es.length ≤ 399) (hb : errC (es ++ [e]) ≠ 0) : plc (es ++ [e]) = es.length ∧ 20 ≤ errC (es ++ [e]) ∧ errC (es ++ [e]) ≤ 24 := by
  obtain ⟨_, h1⟩ := errC_zero h
  have h2 : ∀ j, j < es.length → errM (es ++ [e]) j = 0 := fun j hj => by
    rw [((agree_snoc es e).sub (show j + 1 ≤ es.length by omega)).err]; exact h1 j hj
  have hle : ((es ++ [e]).length : Int) ≤ 400 := by simp; omega
  have h3 : errM (es ++ [e]) es.length ≠ 0 := fun h0 => hb (errC_ok (by omega) fun j hj => by
    simp at hj
    by_cases ej : j = es.length
    · rw [ej]; exact h0
    · exact h2 j (by omega))
  have hf := fstE_some h2 h3 (n := (es ++ [e]).length) (by simp)
  have hE : errC (es ++ [e]) = errM (es ++ [e]) es.length := by unfold errC; rw [if_neg (by omega), hf]
  have hP : plc (es ++ [e]) = es.length := by unfold plc; rw [if_neg (by omega), hf]
  rw [hE]
  refine ⟨hP, ?_⟩
  have he := snoc_at es e
  by_cases hr : right e
  · cases hbb : (decide (opB (es ++ [e]) e.q es.length = true) == decide (e.p = 1)) with
    | true => rw [errM_21 he hr hbb]; decide
    | false =>
      by_cases g1 : e.p = 1
      · rw [errM_23 he hr hbb g1] at h3 ⊢
        split
        · decide
        · rename_i hh; rw [if_neg hh] at h3; exact absurd rfl h3
      · by_cases g2 : e.p ≠ 2 ∧ (e.ops.length : Int) > 0
        · rw [errM_22 he hr hbb g1 g2]; decide
        · by_cases g3 : e.p = 2
          · have hop : opB (es ++ [e]) e.q es.length = true := by
              cases hb2 : opB (es ++ [e]) e.q es.length with
              | true => rfl
              | false => rw [hb2] at hbb; simp [g1] at hbb
            obtain ⟨_, ep, hep, _⟩ := opB_true hop
            rw [errM_ans he hr hbb g3 hep] at h3 ⊢
            have key : ∀ n, ansN ep.ops e.ops n = 0 ∨ ansN ep.ops e.ops n = 22 ∨ ansN ep.ops e.ops n = 24 := fun n => by
              induction n with
              | zero => exact .inl rfl
              | succ n ih =>
                rw [ansN]
                split
                · unfold ansE
                  split
                  · split
                    · simp
                    · split
                      · simp
                      · split
                        · split <;> simp
                        · simp
                  · simp
                · exact ih
            unfold ansF at h3 ⊢
            split
            · rename_i hh; rw [if_pos hh] at h3
              rcases key e.ops.length with k | k | k
              · exact absurd k h3
              · rw [k]; decide
              · rw [k]; decide
            · decide
          · rw [errM_end he hr hbb g1 g2 g3] at h3; exact absurd rfl h3
  · rw [errM_20 he hr]; decide
theorem snoc_txs {es : List RcD} (e : RcD) (h : errC (es ++ [e]) = 0) : (e.p = 1 → txsM (es ++ [e]) (es ++ [e]).length = txsM es es.length ++ [(⟨e.q, 0, e.ops⟩, es.length)]) ∧
    (¬ e.p = 1 → ∃ m t t', (txsM es es.length)[m]? = some t ∧ txsM (es ++ [e]) (es ++ [e]).length = (txsM es es.length).set m t' ∧ (e.p = 4 → t' = t) ∧ (¬ e.p = 4 → t'.1.q ≠ t.1.q) ∧ 1 ≤ e.p ∧ e.p ≤ 4) := by
  obtain ⟨_, h1⟩ := errC_zero h
  have hlen : (es ++ [e]).length = es.length + 1 := by simp
  have hag := (agree_snoc es e).txs
  refine ⟨fun hp => by rw [hlen, txsM_inv (snoc_at es e) hp, hag], fun hp => ?_⟩
  have h0 := h1 es.length (by omega)
  obtain ⟨m, t, ht, hts, ht0, _, hset⟩ := end_step (snoc_at es e) h0 hp
  rw [hag] at ht hset
  have hk := right_kind (err0 (snoc_at es e) h0).1
  refine ⟨m, t, _, ht, by rw [hlen]; exact hset, fun h4 => stepT_no (by omega), fun h4 => ?_, hk.1, hk.2.1⟩
  by_cases h2 : e.p = 2
  · rw [stepT_2 hts h2, ht0]; show (1 : Int) ≠ 0; decide
  · rw [stepT_3 hts (by omega), ht0]; show (2 : Int) ≠ 0; decide
end Go.Proofs.Ytjnopbmanhialaa
