/-
  What a history is, by definition: the transactions, the first event that is wrong; the walk over the reference's Of.
-/
import Derived.Test.YtjnopbmanhialaaHfC
namespace Go.Cru
open Go
theorem flat_set {α β : Type} {s : Nat} {f : α → List β} (hf : ∀ a, (f a).length = s) : ∀ (xs : List α) (j i : Nat) (x x' : α) (v : β), xs[j]? = some x → i < s → f x' = (f x).set i v → (xs.flatMap f).set (j * s + i) v = (xs.set j x').flatMap f
  | [], _, _, _, _, _, h, _, _ => by cases h
  | y :: ys, 0, i, x, x', v, h, hi, hx => by
    simp at h; subst h
    rw [List.flatMap_cons, Nat.zero_mul, Nat.zero_add, List.set_append_left _ _ (by rw [hf]; exact hi), List.set_cons_zero, List.flatMap_cons, hx]
  | y :: ys, j + 1, i, x, x', v, h, hi, hx => by
    rw [List.flatMap_cons, List.set_append_right _ _ (by rw [hf, Nat.add_mul]; omega), hf, show (j + 1) * s + i - s = j * s + i from by rw [Nat.add_mul]; omega, List.set_cons_succ, List.flatMap_cons]
    rw [flat_set hf ys j i x x' v (by simpa using h) hi hx]
theorem rvsC_set1 {xs : List RcV} {j : Nat} {x : RcV} (hj : xs[j]? = some x) (q : Int) : (rvsC xs).set (j * 3 + 1) (.int .i64 q) = rvsC (xs.set j (⟨x.1.p, q, x.1.ops⟩, x.2)) :=
  flat_set (s := 3) (f := fun x : RcV => rcC x.1 x.2) (fun _ => rfl) xs j 1 x _ _ hj (by decide) rfl
theorem rvsC_set2 {xs : List RcV} {j : Nat} {x : RcV} (hj : xs[j]? = some x) (ops : List OpD) (u : Value) : (rvsC xs).set (j * 3 + 2) u = rvsC (xs.set j (⟨x.1.p, x.1.q, ops⟩, u)) :=
  flat_set (s := 3) (f := fun x : RcV => rcC x.1 x.2) (fun _ => rfl) xs j 2 x _ _ hj (by decide) rfl
end Go.Cru
namespace Go.Proofs.Ytjnopbmanhialaa
open Go.Cru

theorem lastG_lt (es : List RcD) (c : Int) : ∀ i : Nat, -1 ≤ lastG es c i ∧ lastG es c i < i
  | 0 => ⟨by simp [lastG], by simp [lastG]⟩
  | i + 1 => by
    have := lastG_lt es c i
    rw [lastG]
    split <;> omega
theorem lastG_at (es : List RcD) (c : Int) : ∀ i : Nat, 0 ≤ lastG es c i → ∃ ep, es[(lastG es c i).toNat]? = some ep ∧ ep.q = c
  | 0, h => by simp [lastG] at h
  | i + 1, h => by
    rw [lastG] at h ⊢
    split
    · rename_i hq
      obtain ⟨ep, h1, h2⟩ := Option.map_eq_some_iff.1 hq
      exact ⟨ep, by rw [Int.toNat_natCast]; exact h1, h2⟩
    · rename_i hq
      rw [if_neg hq] at h
      exact lastG_at es c i h
/-- Is a transaction of client c open ahead of event i? -/
def opB (es : List RcD) (c : Int) (i : Nat) : Bool := match es[(lastG es c i).toNat]? with
  | some ep => decide (0 ≤ lastG es c i) && decide (ep.p = 1)
  | none => false
theorem opB_neg {es : List RcD} {c : Int} {i : Nat} (h : ¬ 0 ≤ lastG es c i) : opB es c i = false := by
  unfold opB
  split
  · simp [h]
  · rfl
theorem opB_pos {es : List RcD} {c : Int} {i : Nat} {ep : RcD} (h : 0 ≤ lastG es c i) (he : es[(lastG es c i).toNat]? = some ep) : opB es c i = decide (ep.p = 1) := by
  unfold opB
  rw [he]
  simp [h]
theorem opB_true {es : List RcD} {c : Int} {i : Nat} (h : opB es c i = true) : 0 ≤ lastG es c i ∧ ∃ ep, es[(lastG es c i).toNat]? = some ep ∧ ep.p = 1 ∧ ep.q = c := by
  have h0 : 0 ≤ lastG es c i := Decidable.byContradiction fun hn => by rw [opB_neg hn] at h; cases h
  obtain ⟨ep, h1, h2⟩ := lastG_at es c i h0
  rw [opB_pos h0 h1] at h
  exact ⟨h0, ep, h1, by simpa using h, h2⟩
/-- Does an Invoke write a value that was written ahead: to be computed. -/
def twB (es : List RcD) (t : Nat) : Bool := match es[t]? with
  | none => false
  | some e => (List.range e.ops.length).any fun i => (List.range (t + 1)).any fun k => match es[k]? with
    | none => false
    | some e' => (List.range e'.ops.length).any fun j => match e.ops[i]?, e'.ops[j]? with
      | some o, some p => decide (o.k = 2 ∧ e'.p = 1 ∧ (k < t ∨ j < i) ∧ p.k = 2 ∧ p.val = o.val)
      | _, _ => false
theorem twB_iff (es : List RcD) (t : Nat) : twB es t = true ↔ twP es t := by
  constructor
  · intro h
    unfold twB at h
    split at h
    · cases h
    · rename_i e he
      obtain ⟨i, hi, h⟩ := List.any_eq_true.1 h
      obtain ⟨k, hk, h⟩ := List.any_eq_true.1 h
      split at h
      · cases h
      · rename_i e' he'
        obtain ⟨j, hj, h⟩ := List.any_eq_true.1 h
        split at h
        · rename_i o p ho hp
          simp only [decide_eq_true_eq] at h
          exact ⟨i, k, j, by have := List.mem_range.1 hk; omega, e, o, e', p, he, ho, h.1, he', h.2.1, hp, h.2.2.1, h.2.2.2⟩
        · cases h
  · rintro ⟨i, k, j, hkt, e, o, e', p, he, ho, h1, he', h2, hp, h3, h4⟩
    unfold twB
    rw [he]
    refine List.any_eq_true.2 ⟨i, List.mem_range.2 (ltOf ho), List.any_eq_true.2 ⟨k, List.mem_range.2 (by omega), ?_⟩⟩
    rw [he']
    refine List.any_eq_true.2 ⟨j, List.mem_range.2 (ltOf hp), ?_⟩
    rw [ho, hp]
    simp only [decide_eq_true_eq]
    exact ⟨h1, h2, h3, h4⟩
instance (es : List RcD) (t : Nat) : Decidable (twP es t) := decidable_of_iff _ (twB_iff es t)
/-- What is wrong with event i; 0: nothing. -/
def errM (es : List RcD) (i : Nat) : Int := match es[i]? with
  | none => 0
  | some e => if right e then
      if (decide (opB es e.q i = true) == decide (e.p = 1)) = true then 21
      else if e.p = 1 then (if twP es i then 23 else 0)
      else if e.p ≠ 2 ∧ (e.ops.length : Int) > 0 then 22
      else if e.p = 2 then match es[(lastG es e.q i).toNat]? with
        | some ep => ansF ep.ops e.ops
        | none => 0
      else 0
    else 20
/-- What becomes of transaction t by event e, an end of what began at p. -/
def stepT (e : RcD) (p : Int) (t : RcD × Nat) : RcD × Nat :=
  if (t.2 : Int) = p then (if e.p = 2 then (⟨t.1.p, 1, e.ops⟩, t.2) else if e.p = 3 then (⟨t.1.p, 2, t.1.ops⟩, t.2) else t) else t
/-- The transactions of the first i events, each with the place of its Invoke. -/
def txsM (es : List RcD) : Nat → List (RcD × Nat)
  | 0 => []
  | i + 1 => match es[i]? with
    | none => txsM es i
    | some e => if e.p = 1 then txsM es i ++ [(⟨e.q, 0, e.ops⟩, i)] else (txsM es i).map (stepT e (lastG es e.q i))
theorem txsM_inv {es : List RcD} {i : Nat} {e : RcD} (he : es[i]? = some e) (h : e.p = 1) : txsM es (i + 1) = txsM es i ++ [(⟨e.q, 0, e.ops⟩, i)] := by
  rw [txsM, he]; exact if_pos h
theorem txsM_end {es : List RcD} {i : Nat} {e : RcD} (he : es[i]? = some e) (h : ¬ e.p = 1) : txsM es (i + 1) = (txsM es i).map (stepT e (lastG es e.q i)) := by
  rw [txsM, he]; exact if_neg h
def fstE (es : List RcD) : Nat → Option Nat
  | 0 => none
  | n + 1 => match fstE es n with
    | some j => some j
    | none => if errM es n = 0 then none else some n
theorem fstE_none {es : List RcD} : ∀ {n : Nat}, (∀ j, j < n → errM es j = 0) → fstE es n = none
  | 0, _ => rfl
  | n + 1, h => by rw [fstE, fstE_none fun j hj => h j (by omega), if_pos (h n (by omega))]
theorem fstE_some {es : List RcD} {i : Nat} (h : ∀ j, j < i → errM es j = 0) (hi : errM es i ≠ 0) : ∀ {n : Nat}, i < n → fstE es n = some i
  | 0, hn => by omega
  | n + 1, hn => by
    by_cases e : i = n
    · subst e; rw [fstE, fstE_none h, if_neg hi]
    · rw [fstE, fstE_some h hi (by omega)]
theorem fstE_spec (es : List RcD) : ∀ n : Nat, (fstE es n = none ∧ ∀ j, j < n → errM es j = 0) ∨ ∃ i, i < n ∧ fstE es n = some i ∧ errM es i ≠ 0 ∧ ∀ j, j < i → errM es j = 0
  | 0 => .inl ⟨rfl, fun j h => by omega⟩
  | n + 1 => by
    rcases fstE_spec es n with ⟨h1, h2⟩ | ⟨i, h1, h2, h3, h4⟩
    · by_cases h : errM es n = 0
      · have h5 : ∀ j, j < n + 1 → errM es j = 0 := fun j hj => by
          by_cases e : j = n
          · rw [e]; exact h
          · exact h2 j (by omega)
        exact .inl ⟨fstE_none h5, h5⟩
      · exact .inr ⟨n, by omega, fstE_some h2 h (by omega), h, h2⟩
    · exact .inr ⟨i, by omega, fstE_some h4 h3 (by omega), h3, h4⟩
def errC (es : List RcD) : Int := if (es.length : Int) > 400 then 4 else match fstE es es.length with
  | some i => errM es i
  | none => 0
def plc (es : List RcD) : Int := if (es.length : Int) > 400 then 400 else match fstE es es.length with
  | some i => i
  | none => 0
/-- What is given back of a history: nothing and what is wrong, or its transactions. -/
def OfR (es : List RcD) (v : Value) (h : Mem) : Prop :=
  (errC es ≠ 0 ∧ v = .tuple #[.slice none 0 0, .int .i64 (plc es), .int .i64 (errC es)] ∧ h = []) ∨
  (errC es = 0 ∧ ∃ ao cap xs rs, v = .tuple #[.slice ao xs.length cap, .int .i64 0, .int .i64 0] ∧ xs.map (·.1) = (txsM es es.length).map (·.1) ∧ h = [sq ao xs.length cap 43 3 (rvsC xs), bagR rs] ∧ ∀ x ∈ xs, Lies 40 rs x)
theorem OfR.many {es : List RcD} (hl : (es.length : Int) > 400) : OfR es (.tuple #[.slice none 0 0, .int .i64 400, .int .i64 4]) [] := by
  have h1 : errC es = 4 := by unfold errC; rw [if_pos hl]
  have h2 : plc es = 400 := by unfold plc; rw [if_pos hl]
  exact .inl ⟨by rw [h1]; decide, by rw [h1, h2], rfl⟩
theorem OfR.err {es : List RcD} {i : Nat} {c : Int} (hl : ¬ (es.length : Int) > 400) (h : ∀ j, j < i → errM es j = 0) (hi : errM es i = c) (hc : c ≠ 0) (hn : i < es.length) : OfR es (.tuple #[.slice none 0 0, .int .i64 i, .int .i64 c]) [] := by
  have hf := fstE_some h (by rw [hi]; exact hc) hn
  have h1 : errC es = c := by unfold errC; rw [if_neg hl, hf]; exact hi
  have h2 : plc es = i := by unfold plc; rw [if_neg hl, hf]
  exact .inl ⟨by rw [h1]; exact hc, by rw [h1, h2], rfl⟩
theorem errC_ok {es : List RcD} (hl : ¬ (es.length : Int) > 400) (h : ∀ j, j < es.length → errM es j = 0) : errC es = 0 := by
  unfold errC; rw [if_neg hl, fstE_none h]
theorem errC_zero {es : List RcD} (h : errC es = 0) : es.length ≤ 400 ∧ ∀ j, j < es.length → errM es j = 0 := by
  unfold errC at h
  split at h
  · omega
  · rcases fstE_spec es es.length with ⟨_, h2⟩ | ⟨i, _, h2, h3, _⟩
    · exact ⟨by omega, h2⟩
    · rw [h2] at h; exact absurd h h3
/-- What is wrong, read off. -/
theorem errM_20 {es : List RcD} {i : Nat} {e : RcD} (he : es[i]? = some e) (h : ¬ right e) : errM es i = 20 := by unfold errM; rw [he]; exact if_neg h
theorem errM_21 {es : List RcD} {i : Nat} {e : RcD} (he : es[i]? = some e) (h : right e) (ho : (decide (opB es e.q i = true) == decide (e.p = 1)) = true) : errM es i = 21 := by
  unfold errM; rw [he]; simp only; rw [if_pos h, if_pos ho]
theorem errM_23 {es : List RcD} {i : Nat} {e : RcD} (he : es[i]? = some e) (h : right e) (ho : (decide (opB es e.q i = true) == decide (e.p = 1)) = false) (h1 : e.p = 1) : errM es i = if twP es i then 23 else 0 := by
  unfold errM; rw [he]; simp only; rw [if_pos h, if_neg (by rw [ho]; simp), if_pos h1]
theorem errM_22 {es : List RcD} {i : Nat} {e : RcD} (he : es[i]? = some e) (h : right e) (ho : (decide (opB es e.q i = true) == decide (e.p = 1)) = false) (h1 : ¬ e.p = 1) (h2 : e.p ≠ 2 ∧ (e.ops.length : Int) > 0) : errM es i = 22 := by
  unfold errM; rw [he]; simp only; rw [if_pos h, if_neg (by rw [ho]; simp), if_neg h1, if_pos h2]
theorem errM_ans {es : List RcD} {i : Nat} {e ep : RcD} (he : es[i]? = some e) (h : right e) (ho : (decide (opB es e.q i = true) == decide (e.p = 1)) = false) (h1 : e.p = 2) (hep : es[(lastG es e.q i).toNat]? = some ep) : errM es i = ansF ep.ops e.ops := by
  unfold errM; rw [he]; simp only; rw [if_pos h, if_neg (by rw [ho]; simp), if_neg (by omega), if_neg (by omega), if_pos h1, hep]
theorem errM_end {es : List RcD} {i : Nat} {e : RcD} (he : es[i]? = some e) (h : right e) (ho : (decide (opB es e.q i = true) == decide (e.p = 1)) = false) (h1 : ¬ e.p = 1) (h2 : ¬ (e.p ≠ 2 ∧ (e.ops.length : Int) > 0)) (h3 : ¬ e.p = 2) : errM es i = 0 := by
  unfold errM; rw [he]; simp only; rw [if_pos h, if_neg (by rw [ho]; simp), if_neg h1, if_neg h2, if_neg h3]
theorem noErr_succ {es : List RcD} {i : Nat} (h : ∀ j, j < i → errM es j = 0) (hi : errM es i = 0) : ∀ j, j < i + 1 → errM es j = 0 := fun j hj => by
  by_cases e : j = i
  · rw [e]; exact hi
  · exact h j (by omega)
end Go.Proofs.Ytjnopbmanhialaa
