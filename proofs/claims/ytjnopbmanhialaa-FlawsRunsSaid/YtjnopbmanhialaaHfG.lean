/-
  Plain facts of histories: where a transaction stands, which is open, what was written.
-/
import Derived.Test.YtjnopbmanhialaaHfF
namespace Go.Proofs.Ytjnopbmanhialaa
open Go.Cru

theorem lastG_mono (es : List RcD) (c : Int) (i : Nat) : lastG es c i ≤ lastG es c (i + 1) := by
  have := lastG_lt es c i
  rw [lastG]
  split <;> omega
theorem lastG_here {es : List RcD} {i : Nat} {e : RcD} (he : es[i]? = some e) : lastG es e.q (i + 1) = i := by
  rw [lastG, he]; exact if_pos rfl
theorem lastG_other {es : List RcD} {i : Nat} {e : RcD} (he : es[i]? = some e) {c : Int} (h : c ≠ e.q) : lastG es c (i + 1) = lastG es c i := by
  rw [lastG, he]
  exact if_neg (fun hh => h (Option.some.inj hh).symm)
/-- What is told of transaction k behind i events. -/
def txI (es : List RcD) (i k : Nat) (t : RcD × Nat) : Prop :=
  t.2 < i ∧ (txsM es t.2).length = k ∧ ∃ e0, es[t.2]? = some e0 ∧ e0.p = 1 ∧ t.1.p = e0.q ∧ ((t.1.q = 0 ∧ t.1.ops = e0.ops) ∨ ((t.1.q = 1 ∨ t.1.q = 2) ∧ (t.2 : Int) < lastG es e0.q i))
theorem tx_inv (es : List RcD) : ∀ (i k : Nat) (t : RcD × Nat), (txsM es i)[k]? = some t → txI es i k t
  | 0, k, t, h => by cases h
  | i + 1, k, t, h => by
    have older : ∀ t, txI es i k t → txI es (i + 1) k t := fun t ⟨h1, h2, e0, h3, h4, h5, h6⟩ => ⟨by omega, h2, e0, h3, h4, h5, h6.imp id fun ⟨g1, g2⟩ => ⟨g1, by have := lastG_mono es e0.q i; omega⟩⟩
    cases he : es[i]? with
    | none =>
      rw [txsM, he] at h
      exact older t (tx_inv es i k t h)
    | some e =>
      by_cases h1 : e.p = 1
      · rw [txsM_inv he h1] at h
        by_cases hk : k < (txsM es i).length
        · rw [List.getElem?_append_left hk] at h
          exact older t (tx_inv es i k t h)
        · have hlt := ltOf h
          simp only [List.length_append, List.length_singleton] at hlt
          obtain rfl : k = (txsM es i).length := by omega
          rw [List.getElem?_append_right (Nat.le_refl _)] at h
          simp at h
          subst h
          exact ⟨by show i < i + 1; omega, rfl, e, he, h1, rfl, .inl ⟨rfl, rfl⟩⟩
      · rw [txsM_end he h1, List.getElem?_map] at h
        obtain ⟨t0, ht0, rfl⟩ := Option.map_eq_some_iff.1 h
        have hi := tx_inv es i k t0 ht0
        by_cases hs : (t0.2 : Int) = lastG es e.q i
        · have hq : ∀ e0, es[t0.2]? = some e0 → e0.q = e.q := fun e0 h0 => by
            obtain ⟨ep, g1, g2⟩ := lastG_at es e.q i (by omega)
            rw [← hs, Int.toNat_natCast, h0] at g1
            cases g1; exact g2
          obtain ⟨g1, g2, e0, g3, g4, g5, _⟩ := hi
          have hl : (t0.2 : Int) < lastG es e0.q (i + 1) := by rw [hq e0 g3, lastG_here he]; omega
          by_cases h2 : e.p = 2
          · rw [stepT_2 hs h2]
            exact ⟨by show t0.2 < i + 1; omega, g2, e0, g3, g4, g5, .inr ⟨.inl rfl, hl⟩⟩
          · by_cases h3 : e.p = 3
            · rw [stepT_3 hs h3]
              exact ⟨by show t0.2 < i + 1; omega, g2, e0, g3, g4, g5, .inr ⟨.inr rfl, hl⟩⟩
            · rw [stepT_no (by omega)]
              exact older t0 (tx_inv es i k t0 ht0)
        · rw [stepT_no (fun hh => hs hh.1)]
          exact older t0 hi
theorem stepT_snd (e : RcD) (p : Int) (t : RcD × Nat) : (stepT e p t).2 = t.2 := by
  unfold stepT
  split
  · split
    · rfl
    · split <;> rfl
  · rfl
theorem tx_at (es : List RcD) {p : Nat} {e0 : RcD} (h0 : es[p]? = some e0) (h1 : e0.p = 1) : ∀ i : Nat, p < i → ∃ t, (txsM es i)[(txsM es p).length]? = some t ∧ t.2 = p
  | 0, h => by omega
  | i + 1, h => by
    by_cases hp : p = i
    · subst hp
      exact ⟨(⟨e0.q, 0, e0.ops⟩, p), by rw [txsM_inv h0 h1, List.getElem?_append_right (Nat.le_refl _)]; simp, rfl⟩
    · obtain ⟨t, g1, g2⟩ := tx_at es h0 h1 i (by omega)
      cases he : es[i]? with
      | none => exact ⟨t, by rw [txsM, he]; exact g1, g2⟩
      | some e =>
        by_cases h2 : e.p = 1
        · exact ⟨t, by rw [txsM_inv he h2, List.getElem?_append_left (ltOf g1)]; exact g1, g2⟩
        · exact ⟨_, by rw [txsM_end he h2, List.getElem?_map, g1]; rfl, by rw [stepT_snd, g2]⟩
/-- The open map behind i events. -/
def opF (es : List RcD) (i : Nat) : Int → Option Value := fun c => if opB es c i = true then some (.int .i64 ((txsM es (lastG es c i).toNat).length : Nat)) else none
theorem opB_here {es : List RcD} {i : Nat} {e : RcD} (he : es[i]? = some e) : opB es e.q (i + 1) = decide (e.p = 1) :=
  opB_pos (by rw [lastG_here he]; omega) (by rw [lastG_here he, Int.toNat_natCast]; exact he)
theorem opB_other {es : List RcD} {i : Nat} {e : RcD} (he : es[i]? = some e) {c : Int} (h : c ≠ e.q) : opB es c (i + 1) = opB es c i := by
  unfold opB; rw [lastG_other he h]
theorem opF_put {es : List RcD} {i : Nat} {e : RcD} (he : es[i]? = some e) (h : e.p = 1) : updK (opF es i) e.q (some (.int .i64 ((txsM es i).length : Nat))) = opF es (i + 1) := by
  funext c
  unfold updK opF
  by_cases hc : c = e.q
  · subst hc
    rw [if_pos rfl, opB_here he, lastG_here he, Int.toNat_natCast, if_pos (by simp [h])]
  · rw [if_neg hc, opB_other he hc, lastG_other he hc]
theorem opF_del {es : List RcD} {i : Nat} {e : RcD} (he : es[i]? = some e) (h : ¬ e.p = 1) : updK (opF es i) e.q none = opF es (i + 1) := by
  funext c
  unfold updK opF
  by_cases hc : c = e.q
  · subst hc
    rw [if_pos rfl, opB_here he, if_neg (by simp [h])]
  · rw [if_neg hc, opB_other he hc, lastG_other he hc]
theorem opF_some (es : List RcD) (c : Int) (i : Nat) : (opF es i c).isSome = opB es c i := by
  unfold opF
  cases opB es c i <;> rfl
/-- Was a value written by the first i events; by these and the first j operations of the next. -/
def wrO (o : OpD) (v : Int) : Bool := decide (o.k = 2 ∧ o.val = v)
def wrB (es : List RcD) (i : Nat) (v : Int) : Bool := (es.take i).any fun e => decide (e.p = 1) && e.ops.any fun o => wrO o v
def wrJ (es : List RcD) (i : Nat) (e : RcD) (j : Nat) (v : Int) : Bool := wrB es i v || (e.ops.take j).any fun o => wrO o v
def wrF (es : List RcD) (i : Nat) (e : RcD) (j : Nat) : Int → Option Value := fun v => if wrJ es i e j v = true then some (.bool true) else none
def wrG (es : List RcD) (i : Nat) : Int → Option Value := fun v => if wrB es i v = true then some (.bool true) else none
theorem wrF_zero (es : List RcD) (i : Nat) (e : RcD) : wrF es i e 0 = wrG es i := by
  funext v
  unfold wrF wrG wrJ
  simp
theorem wrF_put {es : List RcD} {i : Nat} {e : RcD} {j : Nat} {o : OpD} (ho : e.ops[j]? = some o) (h : o.k = 2) : updK (wrF es i e j) o.val (some (.bool true)) = wrF es i e (j + 1) := by
  funext v
  unfold updK wrF wrJ
  rw [List.take_add_one, ho, Option.toList, List.any_append, ← Bool.or_assoc]
  by_cases hv : v = o.val
  · rw [if_pos hv, if_pos (by simp [wrO, h, hv])]
  · rw [if_neg hv]
    have : ([o].any fun o => wrO o v) = false := by simp [wrO, Ne.symm hv]
    rw [this, Bool.or_false]
theorem wrF_stay {es : List RcD} {i : Nat} {e : RcD} {j : Nat} {o : OpD} (ho : e.ops[j]? = some o) (h : ¬ o.k = 2) : wrF es i e (j + 1) = wrF es i e j := by
  funext v
  unfold wrF wrJ
  rw [List.take_add_one, ho, Option.toList, List.any_append, ← Bool.or_assoc]
  have : ([o].any fun o => wrO o v) = false := by simp [wrO, h]
  rw [this, Bool.or_false]
theorem wrB_succ {es : List RcD} {i : Nat} {e : RcD} (he : es[i]? = some e) (v : Int) : wrB es (i + 1) v = (wrB es i v || (decide (e.p = 1) && e.ops.any fun o => wrO o v)) := by
  unfold wrB
  rw [List.take_add_one, he, Option.toList, List.any_append]
  simp
theorem wrF_end {es : List RcD} {i : Nat} {e : RcD} (he : es[i]? = some e) (h : e.p = 1) {j : Nat} (hj : e.ops.length ≤ j) : wrF es i e j = wrG es (i + 1) := by
  funext v
  unfold wrF wrG wrJ
  rw [wrB_succ he, List.take_of_length_le hj]
  simp [h]
theorem wrG_end {es : List RcD} {i : Nat} {e : RcD} (he : es[i]? = some e) (h : ¬ e.p = 1) : wrG es (i + 1) = wrG es i := by
  funext v
  unfold wrG
  rw [wrB_succ he]
  simp [h]
theorem wrF_get (es : List RcD) (i : Nat) (e : RcD) (j : Nat) (v : Int) : (wrF es i e j v).getD (.bool false) = .bool (wrJ es i e j v) := by
  unfold wrF
  cases wrJ es i e j v <;> rfl
theorem wrB_iff (es : List RcD) (i : Nat) (v : Int) : wrB es i v = true ↔ ∃ (k : Nat) (e : RcD) (j : Nat) (o : OpD), k < i ∧ es[k]? = some e ∧ e.p = 1 ∧ e.ops[j]? = some o ∧ o.k = 2 ∧ o.val = v := by
  unfold wrB
  rw [List.any_eq_true]
  constructor
  · rintro ⟨e, he, h⟩
    simp only [Bool.and_eq_true, decide_eq_true_eq, List.any_eq_true, wrO] at h
    obtain ⟨h1, o, ho, h2, h3⟩ := h
    obtain ⟨k, hk⟩ := List.mem_iff_getElem?.1 he
    obtain ⟨j, hj⟩ := List.mem_iff_getElem?.1 ho
    rw [List.getElem?_take] at hk
    split at hk
    · exact ⟨k, e, j, o, by assumption, hk, h1, hj, h2, h3⟩
    · cases hk
  · rintro ⟨k, e, j, o, hk, he, h1, ho, h2, h3⟩
    refine ⟨e, List.mem_of_getElem? (i := k) (by rw [List.getElem?_take, if_pos hk]; exact he), ?_⟩
    simp only [Bool.and_eq_true, decide_eq_true_eq, List.any_eq_true, wrO]
    exact ⟨h1, o, List.mem_of_getElem? ho, h2, h3⟩
theorem twP_of {es : List RcD} {i : Nat} {e : RcD} (he : es[i]? = some e) (h1 : e.p = 1) {j : Nat} {o : OpD} (ho : e.ops[j]? = some o) (h2 : o.k = 2) (h : wrJ es i e j o.val = true) : twP es i := by
  unfold wrJ at h
  rcases Bool.or_eq_true_iff.1 h with h | h
  · obtain ⟨k, e', j', o', g1, g2, g3, g4, g5, g6⟩ := (wrB_iff es i o.val).1 h
    exact ⟨j, k, j', by omega, e, o, e', o', he, ho, h2, g2, g3, g4, .inl g1, g5, g6⟩
  · obtain ⟨o', ho', h3⟩ := List.any_eq_true.1 h
    simp only [wrO, decide_eq_true_eq] at h3
    obtain ⟨j', hj'⟩ := List.mem_iff_getElem?.1 ho'
    rw [List.getElem?_take] at hj'
    split at hj'
    · exact ⟨j, i, j', by omega, e, o, e, o', he, ho, h2, he, h1, hj', .inr (by assumption), h3.1, h3.2⟩
    · cases hj'
theorem twP_no {es : List RcD} {i : Nat} {e : RcD} (he : es[i]? = some e) (h : ∀ j o, e.ops[j]? = some o → o.k = 2 → wrJ es i e j o.val = false) : ¬ twP es i := by
  rintro ⟨j, k, j', hk, e2, o, e', o', g1, g2, g3, g4, g5, g6, g7, g8, g9⟩
  rw [he] at g1; cases g1
  have hf := h j o g2 g3
  unfold wrJ at hf
  rw [Bool.or_eq_false_iff] at hf
  by_cases hki : k < i
  · have := (wrB_iff es i o.val).2 ⟨k, e', j', o', hki, g4, g5, g6, g8, g9⟩
    rw [hf.1] at this; cases this
  · obtain rfl : k = i := by omega
    rw [he] at g4; cases g4
    have hm : o' ∈ e.ops.take j := List.mem_of_getElem? (i := j') (by rw [List.getElem?_take, if_pos (by omega)]; exact g6)
    have := List.any_eq_false.1 hf.2 o' hm
    simp [wrO, g8, g9] at this
/-- One place is written, all others step to themselves. -/
theorem set_step {f : RcD × Nat → RcD × Nat} {ts : List (RcD × Nat)} {xs : List RcV} {m : Nat} {t : RcD × Nat} {y : RcV} (h : xs.map (·.1) = ts.map (·.1)) (ht : ts[m]? = some t) (hy : y.1 = (f t).1) (ho : ∀ k t', ts[k]? = some t' → k ≠ m → f t' = t') :
    (xs.set m y).map (·.1) = (ts.map f).map (·.1) := by
  have hl : xs.length = ts.length := by have := congrArg List.length h; simpa using this
  apply List.ext_getElem?
  intro k
  have hk := congrArg (fun l => l[k]?) h
  simp only [List.getElem?_map] at hk ⊢
  by_cases e : m = k
  · subst e
    rw [List.getElem?_set_self (by rw [hl]; exact ltOf ht), ht]
    simp [hy]
  · rw [List.getElem?_set_ne e, hk]
    cases hk2 : ts[k]? with
    | none => rfl
    | some t' => simp [ho k t' hk2 (Ne.symm e)]
theorem Lies.form {T : TypeId} {rs : List Res} {x : RcV} (h : Lies T rs x) : ∃ a c, x.2 = .slice a x.1.ops.length c := by
  rcases h with ⟨e, a, c, h1⟩ | ⟨b, c, h1, _⟩
  · exact ⟨a, c, by rw [h1, e]; rfl⟩
  · exact ⟨_, c, h1⟩
theorem OpsV.at {w : World} {a : Option Addr} {n c : Nat} {xs : List OpD} (h : OpsV w (.slice a n c) xs) : OpsAt w a xs := by
  obtain ⟨a', c', e, hx⟩ := h
  cases e
  exact hx
theorem lies_cl {T : TypeId} {p q : Int} {ops : List OpD} {ao : Option Addr} {c : Nat} {w : World} {rs : List Res} (hw : (sq ao ops.length c T 3 (opsC ops)).P (hf w)) : Lies T (rs ++ [sq ao ops.length c T 3 (opsC ops)]) (⟨p, q, ops⟩, .slice ao ops.length c) := by
  by_cases e : ops = []
  · subst e; exact .inl ⟨rfl, ao, c, rfl⟩
  · have : 0 < ops.length := List.length_pos_iff.2 e
    obtain ⟨g, rfl⟩ := sq_some hw (by omega)
    exact .inr ⟨g, c, rfl, by simp⟩
end Go.Proofs.Ytjnopbmanhialaa
