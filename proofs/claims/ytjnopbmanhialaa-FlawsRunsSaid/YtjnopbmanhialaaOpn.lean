/-
  Arguments opened: structs of integers; slices of operations, events.
-/
import Derived.Test.YtjnopbmanhialaaKitG
import Derived.Deep.Slices
import Derived.Deep.Fields
import Derived.OpenShut
namespace Go.Cru
open Go Go.ChangeShapes Go.WideShapes Go.Deep

theorem exists_list {α : Type} (Pr : Nat → α → Prop) : ∀ n : Nat, (∀ i, i < n → ∃ a, Pr i a) → ∃ l : List α, l.length = n ∧ ∀ j a, l[j]? = some a → Pr j a
  | 0, _ => ⟨[], rfl, fun j a h => by cases h⟩
  | n + 1, h => by
    obtain ⟨l, hl, hp⟩ := exists_list Pr n fun i hi => h i (by omega)
    obtain ⟨a, ha⟩ := h n (by omega)
    refine ⟨l ++ [a], by simp [hl], fun j b hj => ?_⟩
    by_cases e : j < n
    · rw [List.getElem?_append_left (by omega)] at hj
      exact hp j b hj
    · have hlt := (List.getElem?_eq_some_iff.1 hj).1
      simp only [List.length_append, List.length_singleton] at hlt
      obtain rfl : j = l.length := by omega
      rw [List.getElem?_append_right (by omega)] at hj
      simp at hj
      subst hj
      rw [hl]; exact ha
theorem list_iv : ∀ l : List Value, (∀ v ∈ l, ∃ x : Int, v = .int .i64 x ∧ (Lit.int .i64 x).wf = true) → ∃ xs : List Int, l = iv xs ∧ ∀ x ∈ xs, (Lit.int .i64 x).wf = true
  | [], _ => ⟨[], rfl, by simp⟩
  | v :: l, h => by
    obtain ⟨x, rfl, hx⟩ := h v (by simp)
    obtain ⟨xs, rfl, hxs⟩ := list_iv l fun u hu => h u (by simp [hu])
    exact ⟨x :: xs, rfl, fun y hy => by
      rcases List.mem_cons.1 hy with rfl | hy
      · exact hx
      · exact hxs y hy⟩
section
variable {H : Type} {enc : TypeId × Value → H} {P : Program} {w : World} {base : Nat} {spare : Nat → Bool} {held : Bool} {fuel : Nat}
def intF (P : Program) (f : Field) : Bool := match P.underlying f.type with
  | some (.int .i64) => true
  | _ => false
theorem intF_und {f : Field} (h : intF P f = true) : P.underlying f.type = some (.int .i64) := by
  unfold intF at h
  split at h
  · assumption
  · cases h
/-- The reading of field j of a struct of one-cell fields. -/
theorem trod_field {t : TypeId} {fs : Array Field} {cs : List Value} {x : DataW H × List MemPlace} (hs : P.underlying t = some (.struct fs)) (hone : oneCellFields P fs = true) (hC : P.cellsOf t = fs.size) (h : DataW.trod enc P w base spare held fuel t cs = some x) :
    cs.length = fs.size ∧ ∃ n : Nat, ∀ (j : Nat) (f : Field), fs[j]? = some f → ∃ v y, cs[j]? = some v ∧ DataW.trod enc P w base spare held n f.type [v] = some y := by
  obtain ⟨xs, n, _, _, hlen, hxl, hf⟩ := DataW.trod_struct hs h
  refine ⟨hlen.trans hC, n, fun j f hj => ?_⟩
  have hjl : j < fs.size := (Array.getElem?_eq_some_iff.1 hj).1
  obtain ⟨ho, hk⟩ := hone_of hone j f hj
  have h1 := hf j f hj
  rw [ho, hk, List.drop_eq_getElem_cons (by omega)] at h1
  refine ⟨_, xs[j]'(by omega), List.getElem?_eq_getElem (by omega), ?_⟩
  rw [List.getElem?_eq_getElem (show j < xs.length by omega)] at h1
  exact h1
theorem trod_ints {t : TypeId} {fs : Array Field} {cs : List Value} {x : DataW H × List MemPlace} (hs : P.underlying t = some (.struct fs)) (hone : oneCellFields P fs = true) (hi : fs.toList.all (intF P) = true) (hC : P.cellsOf t = fs.size) (h : DataW.trod enc P w base spare held fuel t cs = some x) :
    ∃ xs : List Int, cs = iv xs ∧ xs.length = fs.size ∧ ∀ y ∈ xs, (Lit.int .i64 y).wf = true := by
  obtain ⟨hlen, n, hf⟩ := trod_field hs hone hC h
  obtain ⟨xs, rfl, hx⟩ := list_iv cs fun v hv => by
    obtain ⟨j, hj⟩ := List.mem_iff_getElem?.1 hv
    have hjl := ltOf hj
    have hfj : fs[j]? = some (fs[j]'(by omega)) := Array.getElem?_eq_getElem (by omega)
    obtain ⟨v', y, h1, h2⟩ := hf j _ hfj
    rw [hj] at h1; cases h1
    have hu := intF_und (List.all_eq_true.1 hi _ (Array.mem_toList_iff.2 (Array.getElem_mem (xs := fs) (i := j) (by omega))))
    obtain ⟨z, e1, _, e2⟩ := DataW.trod_int hu h2
    simp at e1
    exact ⟨z, e1, e2⟩
  exact ⟨xs, rfl, by simpa [iv] using hlen, hx⟩
/-- A struct of integers, by value. -/
theorem open_ints_struct {t : TypeId} {fs : Array Field} {r : Reach} {b0 : Nat} {v : Value} {d : DataW H} {p : List MemPlace} (hs : P.underlying t = some (.struct fs)) (hone : oneCellFields P fs = true) (hi : fs.toList.all (intF P) = true) (hC : P.cellsOf t = fs.size)
    (hv : Value.okWide P w r b0 t v) (h : DataW.Trod enc P w base spare held t v d p) : ∃ xs : List Int, v = agI xs ∧ xs.length = fs.size := by
  obtain ⟨cs, rfl, _⟩ := okWide_struct hs hv
  obtain ⟨fuel, hf⟩ := h
  obtain ⟨xs, e, hl, _⟩ := trod_ints hs hone hi hC hf
  exact ⟨xs, by unfold agI; rw [← e]; simp [Value.cells], hl⟩
/-- A slice of operations. -/
theorem trod_ops {t e : TypeId} {fs : Array Field} {u : Value} {x : DataW H × List MemPlace} (ht : P.underlying t = some (.slice e)) (he : P.underlying e = some (.struct fs)) (hone : oneCellFields P fs = true) (hi : fs.toList.all (intF P) = true) (hC : P.cellsOf e = fs.size) (h3 : fs.size = 3)
    (h : DataW.trod enc P w base spare held fuel t [u] = some x) : ∃ ops, OpsV w u ops := by
  rcases open_slice ht h with ⟨h0, _⟩ | ⟨a, len, cap, m, n, D, Pl, hcs, hb, hl, hm, hmm, _, hx⟩
  · simp at h0
    subst h0
    exact ⟨[], none, 0, rfl, Nat.zero_le _, fun j o hj => by cases hj⟩
  · simp at hcs
    subst hcs
    have hlm : len ≤ m := by rw [hmm]; split <;> omega
    obtain ⟨ops, hol, hop⟩ := exists_list (fun j (o : OpD) => RdC w (a.add (j * 3)) (iv o.is)) len fun i hi' => by
      obtain ⟨cs', hc, ht'⟩ := hx i (by omega)
      rw [hC, h3] at hc
      obtain ⟨xs, rfl, hxl, _⟩ := trod_ints he hone hi hC ht'
      rw [h3] at hxl
      match xs, hxl with
      | [p, q, r], _ =>
        obtain ⟨_, _, hat⟩ := World.cells?_some hc
        exact ⟨⟨p, q, r⟩, fun j v hj => by rw [hat j (by have := ltOf hj; exact this)]; exact hj⟩
    exact ⟨ops, some a, cap, by rw [hol], by rw [hol]; omega, fun j o hj => ⟨a, rfl, hop j o hj⟩⟩
/-- What a slice of operations stands in a struct with two integers ahead of it. -/
structure RcTy (P : Program) (t : TypeId) : Prop where
  ex : ∃ (fs o : Array Field), P.underlying t = some (.struct fs) ∧ oneCellFields P fs = true ∧ fs.size = 3 ∧ P.cellsOf t = fs.size ∧ (fs[0]?.map (intF P)) = some true ∧ (fs[1]?.map (intF P)) = some true ∧ ∃ (f2 : Field) (e : TypeId), fs[2]? = some f2 ∧ P.underlying f2.type = some (.slice e) ∧ P.underlying e = some (.struct o) ∧ oneCellFields P o = true ∧ o.toList.all (intF P) = true ∧ P.cellsOf e = o.size ∧ o.size = 3
theorem trod_rc {t : TypeId} {cs : List Value} {x : DataW H × List MemPlace} (ht : RcTy P t) (h : DataW.trod enc P w base spare held fuel t cs = some x) : ∃ (e : RcD) (u : Value), cs = rcC e u ∧ OpsV w u e.ops := by
  obtain ⟨fs, o, h1, h2, h3, h4, h5, h6, f2, e, h7, h8, h9, h10, h11, h12, h13⟩ := ht.ex
  obtain ⟨hlen, n, hf⟩ := trod_field h1 h2 h4 h
  rw [h3] at hlen
  match cs, hlen with
  | [c0, c1, c2], _ =>
    obtain ⟨f0, g0, g0'⟩ := Option.map_eq_some_iff.1 h5
    obtain ⟨f1, g1, g1'⟩ := Option.map_eq_some_iff.1 h6
    obtain ⟨v0, y0, e0, t0⟩ := hf 0 f0 g0
    obtain ⟨v1, y1, e1, t1⟩ := hf 1 f1 g1
    obtain ⟨v2, y2, e2, t2⟩ := hf 2 f2 h7
    simp at e0 e1 e2
    subst e0 e1 e2
    obtain ⟨p, k0, _⟩ := DataW.trod_int (intF_und g0') t0
    obtain ⟨q, k1, _⟩ := DataW.trod_int (intF_und g1') t1
    obtain ⟨ops, ho⟩ := trod_ops h8 h9 h10 h11 h12 h13 t2
    simp at k0 k1
    subst k0 k1
    exact ⟨⟨p, q, ops⟩, c2, rfl, ho⟩
/-- A record, by value. -/
theorem open_rc {t : TypeId} {r : Reach} {b0 : Nat} {v : Value} {d : DataW H} {p : List MemPlace} {fs : Array Field} (hs : P.underlying t = some (.struct fs)) (ht : RcTy P t)
    (hv : Value.okWide P w r b0 t v) (h : DataW.Trod enc P w base spare held t v d p) : ∃ (e : RcD) (u : Value), v = .agg (rcC e u).toArray ∧ OpsV w u e.ops := by
  obtain ⟨cs, rfl, _⟩ := okWide_struct hs hv
  obtain ⟨fuel, hf⟩ := h
  obtain ⟨e, u, hc, ho⟩ := trod_rc ht hf
  exact ⟨e, u, by rw [← hc]; simp [Value.cells], ho⟩
/-- A slice of records. -/
theorem open_rcs {t e : TypeId} {r : Reach} {b0 : Nat} {v : Value} {d : DataW H} {p : List MemPlace} (ht : P.underlying t = some (.slice e)) (he : RcTy P e) (hC : P.cellsOf e = 3)
    (hv : Value.okWide P w r b0 t v) (h : DataW.Trod enc P w base spare held t v d p) : ∃ (a : Option Addr) (cap : Nat) (es : List RcD), v = .slice a es.length cap ∧ RcsAt w a es ∧ es.length ≤ cap := by
  obtain ⟨a1, len1, cap1, rfl⟩ := okWide_slice ht hv
  obtain ⟨fuel, hf⟩ := h
  rcases open_slice ht hf with ⟨h0, _⟩ | ⟨a, len, cap, m, n, D, Pl, hcs, hb, hl, hm, hmm, _, hx⟩
  · simp [Value.cells] at h0
    obtain ⟨rfl, rfl, rfl⟩ := h0
    exact ⟨none, 0, [], rfl, ⟨Nat.zero_le _, fun j o hj => by cases hj⟩, Nat.le_refl _⟩
  · simp [Value.cells] at hcs
    obtain ⟨rfl, rfl, rfl⟩ := hcs
    have hlm : len1 ≤ m := by rw [hmm]; split <;> omega
    obtain ⟨es, hel, hep⟩ := exists_list (fun j (e : RcD) => ∃ u, RdC w (a.add (j * 3)) (rcC e u) ∧ OpsV w u e.ops) len1 fun i hi' => by
      obtain ⟨cs', hc, ht'⟩ := hx i (by omega)
      rw [hC] at hc
      obtain ⟨e', u, rfl, ho⟩ := trod_rc he ht'
      obtain ⟨_, _, hat⟩ := World.cells?_some hc
      exact ⟨e', u, fun j v hj => by rw [hat j (by have := ltOf hj; exact this)]; exact hj, ho⟩
    exact ⟨some a, cap1, es, by rw [hel], ⟨by rw [hel]; omega, fun j e' hj => by
      obtain ⟨u, h1, h2⟩ := hep j e' hj
      exact ⟨a, u, rfl, h1, h2⟩⟩, by rw [hel]; exact hl⟩
end
end Go.Cru
