/-
  A layer of judgements for walking a function's code: frames as lists of known slots, memory as a list of known resources. Nothing here speaks of one program.
-/
import Derived.OrdersHeld
import Derived.Tactics
import Derived.LoopN
import Derived.KernelRfl
import Derived.Below
namespace Go.Cru
open Go

/-! ### frames -/
abbrev Env := List (Nat × Value)
def fnd : Env → Nat → Option Value
  | [], _ => none
  | (s, v) :: r, t => match Nat.beq s t with
    | true => some v
    | false => fnd r t
def ev (l : Env) : Operand → Option Value
  | .tmp t => fnd l t
  | .const v => some v
  | .global g => some (.pointer (some ⟨g, 0, none⟩))
  | .func f => some (.func (.func f) #[] #[])
theorem slotN {l : Env} {t : Nat} {k : IntKind} {a b : Nat} (h : fnd l t = some (.int k (a : Int))) (e : a = b) : fnd l t = some (.int k (b : Int)) := e ▸ h
theorem slotI {l : Env} {t : Nat} {k : IntKind} {a b : Int} (h : fnd l t = some (.int k a)) (e : a = b) : fnd l t = some (.int k b) := e ▸ h
theorem slotV {l : Env} {t : Nat} {a b : Value} (h : fnd l t = some a) (e : a = b) : fnd l t = some b := e ▸ h
def nth {α : Type} : List α → Nat → Option α
  | [], _ => none
  | a :: _, 0 => some a
  | _ :: r, i + 1 => nth r i
theorem nth_eq {α : Type} : ∀ (l : List α) (i : Nat), nth l i = l[i]?
  | [], _ => rfl
  | _ :: _, 0 => rfl
  | _ :: r, i + 1 => by rw [nth, nth_eq r i]; rfl
structure Fr (n : Nat) (l : Env) (a : Act) : Prop where
  size : a.tmps.size = n
  defers : a.defers = []
  has : ∀ t v, fnd l t = some v → a.tmps[t]? = some v
def Sub : Env → Env → Prop
  | [], _ => True
  | (t, v) :: r, l => fnd l t = some v ∧ Sub r l
theorem fnd_cons (s : Nat) (v : Value) (r : Env) (t : Nat) : fnd ((s, v) :: r) t = if s = t then some v else fnd r t := by
  rw [fnd]
  cases h : Nat.beq s t
  · rw [if_neg (fun e => by rw [e, Nat.beq_refl] at h; cases h)]
  · rw [if_pos (Nat.eq_of_beq_eq_true h)]
theorem Sub.fnd {r l : Env} (h : Sub r l) : ∀ t v, fnd r t = some v → fnd l t = some v := by
  induction r with
  | nil => intro t v h; cases h
  | cons p r ih =>
    obtain ⟨s, u⟩ := p
    intro t v ht
    rw [fnd_cons] at ht
    split at ht
    · rename_i e; subst e; cases ht; exact h.1
    · exact ih h.2 t v ht
theorem Fr.weak {n : Nat} {l l' : Env} {a : Act} (h : Fr n l a) (hs : Sub l' l) : Fr n l' a :=
  ⟨h.size, h.defers, fun t v ht => h.has t v (hs.fnd t v ht)⟩
theorem Fr.eval {n : Nat} {l : Env} {a : Act} (h : Fr n l a) {x : Operand} {v : Value} (hx : ev l x = some v) : a.eval x = v := by
  cases x with
  | tmp t =>
    have := h.has t v hx
    simp [Act.eval, Array.getD_eq_getD_getElem?, this]
  | const c => cases hx; rfl
  | global g => cases hx; rfl
  | func f => cases hx; rfl
theorem Fr.put {n : Nat} {l : Env} {a : Act} (h : Fr n l a) {d : Nat} (hd : Nat.blt d n = true) (v : Value) : Fr n ((d, v) :: l) (a.put (some d) v) := by
  have hd' : d < a.tmps.size := by rw [h.size]; rw [Nat.blt_eq] at hd; exact hd
  refine ⟨by simp [Act.put, h.size], h.defers, fun t u ht => ?_⟩
  rw [fnd_cons] at ht
  split at ht
  · rename_i e; subst e; cases ht; simp [Act.put, hd']
  · rename_i e
    simp only [Act.put]
    rw [Array.getElem?_setIfInBounds_ne e]
    exact h.has t u ht
theorem Fr.cases_bool {n : Nat} {l : Env} {a : Act} (h : Fr n l a) {t : Nat} {v : Value} (hv : fnd l t = some v) : Fr n ((t, v) :: l) a :=
  ⟨h.size, h.defers, fun s u hs => by
    rw [fnd_cons] at hs
    split at hs
    · rename_i e; subst e; cases hs; exact h.has _ _ hv
    · exact h.has s u hs⟩

/-! ### memory -/
abbrev HF := Nat → Option Obj
def hf (w : World) : HF := fun k => w.heap[k]?
/-- A piece of memory: the blocks that it lies in, what is said of them; it hangs on nothing else, and the blocks are there. -/
structure Res where
  ids : List Nat
  P : HF → Prop
  loc : ∀ H H' : HF, (∀ i ∈ ids, H' i = H i) → P H → P H'
  ex : ∀ H : HF, P H → ∀ i ∈ ids, H i ≠ none
abbrev Mem := List Res
/-- From w0 on: what was there is as it was, but for the blocks of 'bor'; the resources of 'h' hold, lie in blocks of their own, new ones or lent ones. -/
structure Own (w0 : World) (bor : List Nat) (h : Mem) (w : World) : Prop where
  os : w.os = w0.os
  tape : w.tape = w0.tape
  output : w.output = w0.output
  size : w0.heap.size ≤ w.heap.size
  old : ∀ k, k < w0.heap.size → k ∉ bor → w.heap[k]? = w0.heap[k]?
  mine : ∀ r ∈ h, r.P (hf w)
  nd : (h.flatMap Res.ids).Nodup
  fr : ∀ r ∈ h, ∀ i ∈ r.ids, w0.heap.size ≤ i ∨ i ∈ bor
structure Sta (w0 : World) (bor : List Nat) (hs : Mem) (w : World) : Prop where
  size : w0.heap.size ≤ w.heap.size
  old : ∀ k, k < w0.heap.size → k ∉ bor → w.heap[k]? = w0.heap[k]?
  mine : ∀ r ∈ hs, r.P (hf w)
theorem Own.lt {w0 w : World} {bor : List Nat} {h : Mem} (o : Own w0 bor h w) : ∀ r ∈ h, ∀ i ∈ r.ids, i < w.heap.size := by
  intro r hr i hi
  have h1 := r.ex _ (o.mine r hr) i hi
  rcases Nat.lt_or_ge i w.heap.size with h2 | h2
  · exact h2
  · exact absurd (Array.getElem?_eq_none h2) h1
theorem Own.sta {w0 w : World} {bor : List Nat} {h hs : Mem} (o : Own w0 bor h w) (hsub : ∀ r ∈ hs, r ∈ h) : Sta w0 bor hs w :=
  ⟨o.size, o.old, fun r hr => o.mine r (hsub r hr)⟩
theorem flatMap_sub {h h' : Mem} (hs : h'.Sublist h) : (h'.flatMap Res.ids).Sublist (h.flatMap Res.ids) := by
  induction hs with
  | slnil => exact .slnil
  | cons a _ ih => rw [List.flatMap_cons]; exact ih.trans (List.sublist_append_right _ _)
  | cons_cons a _ ih => rw [List.flatMap_cons, List.flatMap_cons]; exact (List.Sublist.refl _).append ih
theorem Own.drop {w0 w : World} {bor : List Nat} {h h' : Mem} (o : Own w0 bor h w) (hs : h'.Sublist h) : Own w0 bor h' w :=
  ⟨o.os, o.tape, o.output, o.size, o.old, fun r hr => o.mine r (hs.subset hr), o.nd.sublist (flatMap_sub hs), fun r hr => o.fr r (hs.subset hr)⟩
theorem Own.drawn {w0 w : World} {bor : List Nat} {h : Mem} (o : Own w0 bor h w) (n : Nat) : Own w0 bor h { w with drawn := n } :=
  ⟨o.os, o.tape, o.output, o.size, o.old, o.mine, o.nd, o.fr⟩
theorem Own.start (w : World) : Own w [] [] w := ⟨rfl, rfl, rfl, Nat.le_refl _, fun _ _ _ => rfl, by simp, by simp, by simp⟩
/-- What was said of old memory holds still. -/
theorem Own.data {w0 w : World} {bor : List Nat} {h : Mem} (o : Own w0 bor h w) {r : Res} (hr : r.P (hf w0)) (hb : ∀ i ∈ r.ids, i ∉ bor) : r.P (hf w) := by
  refine r.loc _ _ (fun i hi => ?_) hr
  have h1 := r.ex _ hr i hi
  refine o.old i ?_ (hb i hi)
  rcases Nat.lt_or_ge i w0.heap.size with h2 | h2
  · exact h2
  · exact absurd (Array.getElem?_eq_none h2) h1
theorem Sta.data {w0 w : World} {bor : List Nat} {h : Mem} (o : Sta w0 bor h w) {r : Res} (hr : r.P (hf w0)) (hb : ∀ i ∈ r.ids, i ∉ bor) : r.P (hf w) := by
  refine r.loc _ _ (fun i hi => ?_) hr
  have h1 := r.ex _ hr i hi
  refine o.old i ?_ (hb i hi)
  rcases Nat.lt_or_ge i w0.heap.size with h2 | h2
  · exact h2
  · exact absurd (Array.getElem?_eq_none h2) h1
theorem Own.below {w0 w : World} {h : Mem} (o : Own w0 [] h w) : Go.RowKit.Below w0.heap.size w0 w := ⟨o.os, o.tape, o.output, o.size, fun k hk => o.old k hk (by simp)⟩
/-- A new block. -/
theorem Own.new {w0 w : World} {bor : List Nat} {h : Mem} (o : Own w0 bor h w) (ob : Obj) (r : Res) (hi : r.ids = [w.heap.size]) (hr : r.P (hf { w with heap := w.heap.push ob })) :
    Own w0 bor (h ++ [r]) { w with heap := w.heap.push ob } := by
  have hlt := o.lt
  have hold : ∀ k, k < w.heap.size → (w.heap.push ob)[k]? = w.heap[k]? := fun k hk => by rw [Array.getElem?_push, if_neg (by omega)]
  refine ⟨o.os, o.tape, o.output, by simp only [Array.size_push]; exact Nat.le_succ_of_le o.size, fun k hk hb => ?_, fun s hs => ?_, ?_, fun s hs i hi' => ?_⟩
  · show (w.heap.push ob)[k]? = _
    rw [hold k (Nat.lt_of_lt_of_le hk o.size)]
    exact o.old k hk hb
  · rcases List.mem_append.1 hs with hs | hs
    · exact s.loc _ _ (fun i hi' => hold i (hlt s hs i hi')) (o.mine s hs)
    · rw [List.mem_singleton.1 hs]; exact hr
  · rw [List.flatMap_append, List.flatMap_singleton, hi]
    refine List.nodup_append.2 ⟨o.nd, by simp, fun a ha b hb' => ?_⟩
    obtain ⟨s, hs, has⟩ := List.mem_flatMap.1 ha
    have := hlt s hs a has
    rw [List.mem_singleton.1 hb']
    omega
  · rcases List.mem_append.1 hs with hs | hs
    · exact o.fr s hs i hi'
    · rw [List.mem_singleton.1 hs, hi, List.mem_singleton] at hi'
      exact .inl (hi' ▸ o.size)
theorem flatMap_set (h : Mem) (i : Nat) (r r' : Res) (hi : h[i]? = some r) (hid : r'.ids = r.ids) : (h.set i r').flatMap Res.ids = h.flatMap Res.ids := by
  induction h generalizing i with
  | nil => rfl
  | cons s h ih =>
    cases i with
    | zero => simp at hi; subst hi; simp [List.flatMap_cons, hid]
    | succ i => simp only [List.set_cons_succ, List.flatMap_cons]; rw [ih i (by simpa using hi)]
theorem mem_set_of (h : Mem) (i : Nat) (r' s : Res) (hs : s ∈ h.set i r') : s = r' ∨ ∃ j, j ≠ i ∧ h[j]? = some s := by
  obtain ⟨j, hj⟩ := List.mem_iff_getElem?.1 hs
  rw [List.getElem?_set] at hj
  split at hj
  · split at hj
    · exact .inl (by simpa using hj.symm)
    · cases hj
  · rename_i hne; exact .inr ⟨j, fun e => hne e.symm, hj⟩
theorem nodup_flatMap_at (h : Mem) (hn : (h.flatMap Res.ids).Nodup) {i j : Nat} {r s : Res} (hi : h[i]? = some r) (hj : h[j]? = some s) (hne : j ≠ i) : ∀ k ∈ s.ids, k ∉ r.ids := by
  induction h generalizing i j with
  | nil => cases hi
  | cons q h ih =>
    rw [List.flatMap_cons] at hn
    obtain ⟨h1, h2, h3⟩ := List.nodup_append.1 hn
    cases i with
    | zero =>
      cases j with
      | zero => exact absurd rfl hne
      | succ j =>
        simp at hi; subst hi
        intro k hk hq
        exact h3 k hq k (List.mem_flatMap.2 ⟨s, List.mem_of_getElem? (by simpa using hj), hk⟩) rfl
    | succ i =>
      cases j with
      | zero =>
        simp at hj; subst hj
        intro k hk hq
        exact h3 k hk k (List.mem_flatMap.2 ⟨r, List.mem_of_getElem? (by simpa using hi), hq⟩) rfl
      | succ j => exact ih h2 (by simpa using hi) (by simpa using hj) (fun e => hne (by rw [e]))
/-- Resource number i is written: only its blocks turn. -/
theorem Own.set {w0 w w' : World} {bor : List Nat} {h : Mem} (o : Own w0 bor h w) {i : Nat} {r r' : Res} (hi : h[i]? = some r) (hid : r'.ids = r.ids)
    (hos : w'.os = w.os) (htape : w'.tape = w.tape) (hout : w'.output = w.output) (hsize : w'.heap.size = w.heap.size) (hk : ∀ k, k ∉ r.ids → w'.heap[k]? = w.heap[k]?) (hr : r'.P (hf w')) : Own w0 bor (h.set i r') w' := by
  have hmem := List.mem_of_getElem? hi
  refine ⟨hos.trans o.os, htape.trans o.tape, hout.trans o.output, by rw [hsize]; exact o.size, fun k hk' hb => ?_, fun s hs => ?_, by rw [flatMap_set h i r r' hi hid]; exact o.nd, fun s hs j hj => ?_⟩
  · rw [hk k (fun hkr => (o.fr r hmem k hkr).elim (fun h1 => by omega) hb)]
    exact o.old k hk' hb
  · rcases mem_set_of h i r' s hs with rfl | ⟨j, hne, hj⟩
    · exact hr
    · exact s.loc _ _ (fun k hks => hk k (nodup_flatMap_at h o.nd hi hj hne k hks)) (o.mine s (List.mem_of_getElem? hj))
  · rcases mem_set_of h i r' s hs with rfl | ⟨k, hne, hk'⟩
    · exact o.fr r hmem j (hid ▸ hj)
    · exact o.fr s (List.mem_of_getElem? hk') j hj
/-- Said otherwise of the same memory. -/
theorem Own.recast {w0 w : World} {bor : List Nat} {h : Mem} (o : Own w0 bor h w) {i : Nat} {r r' : Res} (hi : h[i]? = some r) (hid : r'.ids = r.ids) (hr : ∀ H, r.P H → r'.P H) : Own w0 bor (h.set i r') w :=
  o.set hi hid rfl rfl rfl rfl (fun _ _ => rfl) (hr _ (o.mine r (List.mem_of_getElem? hi)))
/-- Behind a call that was lent nothing. -/
theorem Own.call {w0 w w' : World} {bor : List Nat} {h h1 : Mem} (o : Own w0 bor h w) (c : Own w [] h1 w') : Own w0 bor (h ++ h1) w' := by
  have hlt := o.lt
  refine ⟨c.os.trans o.os, c.tape.trans o.tape, c.output.trans o.output, Nat.le_trans o.size c.size, fun k hk hb => ?_, fun s hs => ?_, ?_, fun s hs i hi => ?_⟩
  · rw [c.old k (Nat.lt_of_lt_of_le hk o.size) (by simp)]
    exact o.old k hk hb
  · rcases List.mem_append.1 hs with hs | hs
    · exact s.loc _ _ (fun i hi => c.old i (hlt s hs i hi) (by simp)) (o.mine s hs)
    · exact c.mine s hs
  · rw [List.flatMap_append]
    refine List.nodup_append.2 ⟨o.nd, c.nd, fun a ha b hb => ?_⟩
    obtain ⟨s, hs, has⟩ := List.mem_flatMap.1 ha
    obtain ⟨t, ht, hbt⟩ := List.mem_flatMap.1 hb
    have h1 := hlt s hs a has
    rcases c.fr t ht b hbt with h2 | h2
    · omega
    · cases h2
  · rcases List.mem_append.1 hs with hs | hs
    · exact o.fr s hs i hi
    · rcases c.fr s hs i hi with h2 | h2
      · exact .inl (Nat.le_trans o.size h2)
      · cases h2
/-- Behind a call that was lent resource number i, and gave it back as r'. -/
theorem Own.call_lent {w0 w w' : World} {bor : List Nat} {h h1 : Mem} (o : Own w0 bor h w) {i : Nat} {r r' : Res} (hi : h[i]? = some r) (hid : r'.ids = r.ids) (c : Own w r.ids (r' :: h1) w') :
    Own w0 bor (h.set i r' ++ h1) w' := by
  have hlt := o.lt
  have hmem := List.mem_of_getElem? hi
  have hr'1 := c.nd
  rw [List.flatMap_cons, hid] at hr'1
  obtain ⟨n1, n2, n3⟩ := List.nodup_append.1 hr'1
  have hnew : ∀ t ∈ h1, ∀ b ∈ t.ids, w.heap.size ≤ b := fun t ht b hb => by
    rcases c.fr t (List.mem_cons_of_mem _ ht) b hb with h2 | h2
    · exact h2
    · exact absurd rfl (n3 b h2 b (List.mem_flatMap.2 ⟨t, ht, hb⟩))
  refine ⟨c.os.trans o.os, c.tape.trans o.tape, c.output.trans o.output, Nat.le_trans o.size c.size, fun k hk hb => ?_, fun s hs => ?_, ?_, fun s hs j hj => ?_⟩
  · rw [c.old k (Nat.lt_of_lt_of_le hk o.size) (fun hkr => (o.fr r hmem k hkr).elim (fun h1 => by omega) hb)]
    exact o.old k hk hb
  · rcases List.mem_append.1 hs with hs | hs
    · rcases mem_set_of h i r' s hs with rfl | ⟨j, hne, hj⟩
      · exact c.mine _ (by simp)
      · refine s.loc _ _ (fun k hks => c.old k (hlt s (List.mem_of_getElem? hj) k hks) (nodup_flatMap_at h o.nd hi hj hne k hks)) (o.mine s (List.mem_of_getElem? hj))
    · exact c.mine s (List.mem_cons_of_mem _ hs)
  · rw [List.flatMap_append, flatMap_set h i r r' hi hid]
    refine List.nodup_append.2 ⟨o.nd, n2, fun a ha b hb => ?_⟩
    obtain ⟨s, hs, has⟩ := List.mem_flatMap.1 ha
    obtain ⟨t, ht, hbt⟩ := List.mem_flatMap.1 hb
    have h1 := hlt s hs a has
    have h2 := hnew t ht b hbt
    omega
  · rcases List.mem_append.1 hs with hs | hs
    · rcases mem_set_of h i r' s hs with rfl | ⟨k, hne, hk'⟩
      · exact o.fr r hmem j (hid ▸ hj)
      · exact o.fr s (List.mem_of_getElem? hk') j hj
    · exact .inl (Nat.le_trans o.size (hnew s hs j hj))

/-! ### any order: what holds of memory till an operation of 'kill' has been carried out -/
section
variable {P : Program} {ops : Array Oper} {Q : Exit → Act → World → Prop} {S : World → Prop} {kill : Nat → Bool}
/-- Whatever order is picked; behind each operation that is no killer S holds. -/
def Any (P : Program) (ops : Array Oper) (Q : Exit → Act → World → Prop) (S : World → Prop) (kill : Nat → Bool) : Nat → Array Bool → Act → World → Prop
  | 0, listed, a, w => Region.ready .any ops listed = [] ∧ Q .normal a w
  | fuel + 1, listed, a, w =>
    (Region.ready .any ops listed = [] → Q .normal a w) ∧
    ∀ i ∈ Region.ready .any ops listed, wpOp P ops Q i (fun a' w' => (kill i = true ∨ S w') ∧ Any P ops Q S kill fuel (listed.setIfInBounds i true) a' w') a w
theorem Any.wpAny : ∀ (fuel : Nat) (listed : Array Bool) (a : Act) (w : World), Any P ops Q S kill fuel listed a w → wpAny P .any ops Q fuel listed a w
  | 0, _, _, _, h => h
  | fuel + 1, _, _, _, h => ⟨h.1, fun i hi => wpOp_mono (fun a' w' k => Any.wpAny fuel _ a' w' k.2) (h.2 i hi)⟩
/-- Every killer waits for operation i. -/
def killWaits (ops : Array Oper) (kill : Nat → Bool) (i : Nat) : Bool :=
  (List.range ops.size).all fun j => !kill j || j == i || match ops[j]? with
    | some o => o.after.any fun e => Region.binds .any e && e.on == i
    | none => true
theorem Any.take {i : Nat} {oi : Oper} {v : Value} (hi : ops[i]? = some oi) (hsel : Region.noSelect ops = true) (hkw : killWaits ops kill i = true)
    (hQ : ∀ c a w, Q (.panic c) (a.put oi.dst v) w → Q (.panic c) a w) :
    ∀ (fuel : Nat) (listed : Array Bool) (a : Act) (w : World),
      (∀ j oj, ops[j]? = some oj → j ≠ i → listed.getD j true = false → (∀ e ∈ oj.after, Region.binds .any e = true → e.on ≠ i) → oi.apart ops oj = true) →
      i ∈ Region.ready .any ops listed → YieldsIf P ops S oi v a → S w →
      Any P ops Q S kill fuel (listed.setIfInBounds i true) (a.put oi.dst v) w → Any P ops Q S kill (fuel + 1) listed a w := by
  intro fuel
  induction fuel with
  | zero =>
    intro listed a w _ hr hy hS H
    refine ⟨fun e => (by rw [e] at hr; cases hr), fun j hj => ?_⟩
    by_cases hji : j = i
    · subst hji; exact hy.wpOp hi hS ⟨.inr hS, H⟩
    · have hmem := ready_mono hj hji
      rw [H.1] at hmem
      cases hmem
  | succ fuel ih =>
    intro listed a w hfree hr hy hS H
    refine ⟨fun e => (by rw [e] at hr; cases hr), fun j hj => ?_⟩
    by_cases hji : j = i
    · subst hji; exact hy.wpOp hi hS ⟨.inr hS, H⟩
    · have hstep := H.2 j (ready_mono hj hji)
      obtain ⟨hjun, oj, hoj, hall⟩ := mem_ready.1 hj
      have hiun := (mem_ready.1 hr).1
      have hnot : ∀ e ∈ oj.after, Region.binds .any e = true → e.on ≠ i := fun e he hb heq => by
        have hl := hall e he hb
        rw [heq] at hl
        cases hg : listed[i]? with
        | none => simp [hg] at hl
        | some b => simp [hg] at hl hiun; rw [hl] at hiun; cases hiun
      have hnk : kill j = false := by
        cases hk : kill j with
        | false => rfl
        | true =>
          have hjl : j < ops.size := (Array.getElem?_eq_some_iff.1 hoj).1
          have := List.all_eq_true.1 hkw j (List.mem_range.2 hjl)
          simp only [hk, Bool.not_true, Bool.false_or, Bool.or_eq_true, beq_iff_eq, hji, false_or, hoj] at this
          obtain ⟨e, he, hb⟩ := Array.any_eq_true'.1 this
          simp only [Bool.and_eq_true, beq_iff_eq] at hb
          exact absurd hb.2 (hnot e he hb.1)
      have hnext := wpOp_putIf hoj (hfree j oj hoj hji hjun hnot) (fun cs b => Region.noSelect_spec hsel i oi cs b hi) (fun cs b => Region.noSelect_spec hsel j oj cs b hoj) hQ hy hstep
      refine wpOp_mono (fun a' w' k => ?_) hnext
      obtain ⟨k1, k2, k3⟩ := k
      have hS' : S w' := k2.resolve_left (by rw [hnk]; simp)
      refine ⟨.inr hS', ih (listed.setIfInBounds j true) a' w' (fun m om hm hmi hun hno => hfree m om hm hmi ?_ hno) (ready_mono hr (Ne.symm hji)) k1 hS' ?_⟩
      · by_cases hjm : j = m
        · subst hjm; exact hjun
        · rw [getD_set_ne true hjm] at hun; exact hun
      · rw [Array.setIfInBounds_comm _ _ hji]
        exact k3
end

/-! ### operations -/
section
variable (P : Program) (n : Nat) (w0 : World) (bor : List Nat)
/-- The operation yields v and leaves the world as it is, wherever the resources hs hold. -/
def Sil (hs : Mem) (l : Env) (o : Oper) (v : Value) : Prop :=
  ∀ a w, Fr n l a → Sta w0 bor hs w → (execOp a.eval o).run P w = .ok (.value v) w
/-- The operation goes on with one of the outcomes R. -/
def LO (h : Mem) (l : Env) (o : Oper) (R : Value → Mem → Prop) : Prop :=
  ∀ a w, Fr n l a → Own w0 bor h w → ∀ (K : Act → World → Prop) (Q : Exit → Act → World → Prop), (∀ v w' h', R v h' → Own w0 bor h' w' → K (a.put o.dst v) w') → o.wp P a w K Q
def OL (ops : Array Oper) (Q : Exit → Act → World → Prop) (rest : List Oper) (l : Env) (h : Mem) : Prop :=
  ∀ a w, Fr n l a → Own w0 bor h w → wpList P ops Q rest a w
abbrev Cont := Exit → Env → Mem → Prop
def lift (K : Cont) : Exit → Act → World → Prop
  | .panic _, _, _ => False
  | .outgrown, _, _ => False
  | e, a, w => ∃ l h, Fr n l a ∧ Own w0 bor h w ∧ K e l h
def DL (ops : Array Oper) (K : Cont) (hs : Mem) (kill : Nat → Bool) (fuel : Nat) (listed : Array Bool) (l : Env) (h : Mem) : Prop :=
  ∀ a w, Fr n l a → Own w0 bor h w → Any P ops (lift n w0 bor K) (Sta w0 bor hs) kill fuel listed a w
def DS (ops : Array Oper) (K : Cont) (hs : Mem) (kill : Nat → Bool) (fuel : Nat) (listed : Array Bool) (j : Nat) (l : Env) (h : Mem) : Prop :=
  ∀ a w, Fr n l a → Own w0 bor h w → wpOp P ops (lift n w0 bor K) j (fun a' w' => (kill j = true ∨ Sta w0 bor hs w') ∧ Any P ops (lift n w0 bor K) (Sta w0 bor hs) kill fuel listed a' w') a w
def TC (c : Code) (K : Cont) (l : Env) (h : Mem) : Prop :=
  ∀ a w, Fr n l a → Own w0 bor h w → c.wp P (lift n w0 bor K) a w
end
/-- Is the operation carried out? -/
def want (ops : Array Oper) (l : Env) (o : Oper) : Option Bool :=
  match o.guard with
  | none => some true
  | some (j, b) =>
    match (ops[j]?).bind (·.dst) with
    | none => none
    | some t => match fnd l t with
      | some (.bool c) => some (c == b)
      | some (.tuple _) => some false
      | _ => none
section
variable {P : Program} {n : Nat} {w0 : World} {bor : List Nat} {ops : Array Oper} {l : Env} {h hs : Mem} {o : Oper} {v : Value} {d : Nat} {K : Cont} {Q : Exit → Act → World → Prop} {rest : List Oper}
theorem want_spec {a : Act} {b : Bool} (hf : Fr n l a) (hw : want ops l o = some b) : Region.wanted o (yielded ops a.tmps) = b := by
  unfold want at hw
  unfold Region.wanted
  split at hw
  · rename_i hg; rw [hg]; simpa using hw
  · rename_i j b' hg
    rw [hg]
    simp only [yielded]
    split at hw
    · cases hw
    · rename_i t ht
      rw [ht]
      split at hw
      · rename_i c hc
        rw [Option.bind_some, hf.has _ _ hc]
        have hw' : (c == b') = b := by simpa using hw
        rw [← hw']
        cases c <;> cases b' <;> rfl
      · rename_i c hc
        rw [Option.bind_some, hf.has _ _ hc]
        have hw' : false = b := by simpa using hw
        subst hw'
        simp
      · cases hw
theorem OL_nil (hq : K .normal l h) : OL P n w0 bor ops (lift n w0 bor K) [] l h := fun _ _ hf ho => ⟨l, h, hf, ho, hq⟩
theorem OL_nil' (hq : ∀ a w, Fr n l a → Own w0 bor h w → Q .normal a w) : OL P n w0 bor ops Q [] l h := hq
theorem OL_sil (hw : want ops l o = some true) (hd : o.dst = some d) (hlt : Nat.blt d n = true) (hs : Sil P n w0 bor h l o v)
    (hk : OL P n w0 bor ops Q rest ((d, v) :: l) h) : OL P n w0 bor ops Q (o :: rest) l h := by
  intro a w hf ho
  unfold wpList
  rw [if_pos (want_spec hf hw)]
  refine .inl ?_
  unfold Oper.wp
  rw [hs a w hf (ho.sta fun _ h => h)]
  have := hk _ _ (hf.put hlt v) ho
  simp only [Oper.upon, hd]
  exact this
theorem OL_skip (hw : want ops l o = some false) (hd : o.dst = some d) (hlt : Nat.blt d n = true)
    (hk : OL P n w0 bor ops Q rest ((d, undef) :: l) h) : OL P n w0 bor ops Q (o :: rest) l h := by
  intro a w hf ho
  unfold wpList
  rw [if_neg (by rw [want_spec hf hw]; simp)]
  rw [hd]
  exact hk _ _ (hf.put hlt _) ho
theorem OL_skip0 (hw : want ops l o = some false) (hd : o.dst = none)
    (hk : OL P n w0 bor ops Q rest l h) : OL P n w0 bor ops Q (o :: rest) l h := by
  intro a w hf ho
  unfold wpList
  rw [if_neg (by rw [want_spec hf hw]; simp)]
  rw [hd]
  exact hk _ _ hf ho
theorem OL_loud {R : Value → Mem → Prop} (hw : want ops l o = some true) (hd : o.dst = some d) (hlt : Nat.blt d n = true) (hs : LO P n w0 bor h l o R)
    (hk : ∀ v h', R v h' → OL P n w0 bor ops Q rest ((d, v) :: l) h') : OL P n w0 bor ops Q (o :: rest) l h := by
  intro a w hf ho
  unfold wpList
  rw [if_pos (want_spec hf hw)]
  refine .inl (hs a w hf ho _ _ fun v w' h' hR ho' => ?_)
  rw [hd]
  exact hk v h' hR _ _ (hf.put hlt v) ho'
theorem OL_loud0 {R : Value → Mem → Prop} (hw : want ops l o = some true) (hd : o.dst = none) (hs : LO P n w0 bor h l o R)
    (hk : ∀ v h', R v h' → OL P n w0 bor ops Q rest l h') : OL P n w0 bor ops Q (o :: rest) l h := by
  intro a w hf ho
  unfold wpList
  rw [if_pos (want_spec hf hw)]
  refine .inl (hs a w hf ho _ _ fun v w' h' hR ho' => ?_)
  rw [hd]
  exact hk v h' hR _ _ hf ho'
/-- Part on a bool that stands in a slot. -/
theorem OL_cases (t : Nat) {b : Bool} (ht : fnd l t = some (.bool b)) (h1 : b = true → OL P n w0 bor ops Q rest ((t, .bool true) :: l) h) (h0 : b = false → OL P n w0 bor ops Q rest ((t, .bool false) :: l) h) :
    OL P n w0 bor ops Q rest l h := fun a w hf ho => by
  cases b with
  | true => exact h1 rfl a w (hf.cases_bool ht) ho
  | false => exact h0 rfl a w (hf.cases_bool ht) ho
theorem OL_dec (t : Nat) {p : Prop} [Decidable p] (ht : fnd l t = some (.bool (decide p))) (h1 : p → OL P n w0 bor ops Q rest ((t, .bool true) :: l) h) (h0 : ¬ p → OL P n w0 bor ops Q rest ((t, .bool false) :: l) h) :
    OL P n w0 bor ops Q rest l h :=
  OL_cases t ht (fun e => h1 (of_decide_eq_true e)) (fun e => h0 (of_decide_eq_false e))
theorem OL_weak {l' : Env} {h' : Mem} (hs : Sub l' l) (hh : h'.Sublist h) (hk : OL P n w0 bor ops Q rest l' h') : OL P n w0 bor ops Q rest l h :=
  fun a w hf ho => hk a w (hf.weak hs) (ho.drop hh)
theorem OL_decn (t : Nat) {p : Prop} [Decidable p] (ht : fnd l t = some (.bool (!decide p))) (h1 : ¬ p → OL P n w0 bor ops Q rest ((t, .bool true) :: l) h) (h0 : p → OL P n w0 bor ops Q rest ((t, .bool false) :: l) h) :
    OL P n w0 bor ops Q rest l h :=
  OL_cases t ht (fun e => h1 (by simpa using e)) (fun e => h0 (by simpa using e))
/-- Say something otherwise, or learn something of the world. -/
theorem OL_own {h' : Mem} (hh : ∀ w, Own w0 bor h w → Own w0 bor h' w) (hk : OL P n w0 bor ops Q rest l h') : OL P n w0 bor ops Q rest l h :=
  fun a w hf ho => hk a w hf (hh w ho)
theorem OL_know {p : Prop} (hp : ∀ w, Own w0 bor h w → p) (hk : p → OL P n w0 bor ops Q rest l h) : OL P n w0 bor ops Q rest l h :=
  fun a w hf ho => hk (hp w ho) a w hf ho
/-- A slot's value, spelled otherwise. -/
theorem OL_slot (t : Nat) {u v : Value} (ht : fnd l t = some u) (huv : u = v) (hk : OL P n w0 bor ops Q rest ((t, v) :: l) h) : OL P n w0 bor ops Q rest l h :=
  fun a w hf ho => hk a w (hf.cases_bool (huv ▸ ht)) ho

/-! ### a region that draws its order -/
variable {kill : Nat → Bool}
theorem lift_panic (c : List PanicEntry) (a a' : Act) (w w' : World) (hq : lift n w0 bor K (.panic c) a w) : lift n w0 bor K (.panic c) a' w' := hq.elim
/-- May operation i be taken now? -/
def mayTake (ops : Array Oper) (kill : Nat → Bool) (listed : Array Bool) (i : Nat) : Bool :=
  Region.noSelect ops && Region.free .any ops listed i && (Region.ready .any ops listed).contains i && killWaits ops kill i
theorem mayTake_spec {listed : Array Bool} {i : Nat} (hm : mayTake ops kill listed i = true) : Region.noSelect ops = true ∧ Region.free .any ops listed i = true ∧ i ∈ Region.ready .any ops listed ∧ killWaits ops kill i = true := by
  simp only [mayTake, Bool.and_eq_true] at hm
  exact ⟨hm.1.1.1, hm.1.1.2, by simpa using hm.1.2, hm.2⟩
theorem DL_take {fuel : Nat} {listed : Array Bool} (i : Nat) (hi : ops[i]? = some o) (hm : mayTake ops kill listed i = true)
    (hw : want ops l o = some true) (hd : o.dst = some d) (hlt : Nat.blt d n = true) (hsil : Sil P n w0 bor hs l o v) (hsub : ∀ r ∈ hs, r ∈ h)
    (hk : DL P n w0 bor ops K hs kill fuel (listed.setIfInBounds i true) ((d, v) :: l) h) : DL P n w0 bor ops K hs kill (fuel + 1) listed l h := by
  intro a w hf ho
  obtain ⟨m1, m2, m3, m4⟩ := mayTake_spec hm
  refine Any.take hi m1 m4 (fun c a' w' hq => lift_panic c _ _ _ _ hq) (v := v) fuel listed a w (Region.free_spec hi m2) m3 (.inl ⟨want_spec hf hw, fun w' hS => hsil a w' hf hS⟩) (ho.sta hsub) ?_
  rw [hd]
  exact hk _ _ (hf.put hlt v) ho
theorem DL_takeSkip {fuel : Nat} {listed : Array Bool} (i : Nat) (hi : ops[i]? = some o) (hm : mayTake ops kill listed i = true)
    (hw : want ops l o = some false) (hd : o.dst = some d) (hlt : Nat.blt d n = true) (hsub : ∀ r ∈ hs, r ∈ h)
    (hk : DL P n w0 bor ops K hs kill fuel (listed.setIfInBounds i true) ((d, undef) :: l) h) : DL P n w0 bor ops K hs kill (fuel + 1) listed l h := by
  intro a w hf ho
  obtain ⟨m1, m2, m3, m4⟩ := mayTake_spec hm
  refine Any.take hi m1 m4 (fun c a' w' hq => lift_panic c _ _ _ _ hq) (v := undef) fuel listed a w (Region.free_spec hi m2) m3 (.inr ⟨want_spec hf hw, rfl⟩) (ho.sta hsub) ?_
  rw [hd]
  exact hk _ _ (hf.put hlt _) ho
theorem DL_all {fuel : Nat} {listed : Array Bool} (rs : List Nat) (hr : Region.ready .any ops listed = rs) (hne : rs ≠ [])
    (hk : ∀ j ∈ rs, DS P n w0 bor ops K hs kill fuel (listed.setIfInBounds j true) j l h) : DL P n w0 bor ops K hs kill (fuel + 1) listed l h :=
  fun a w hf ho => ⟨fun h0 => absurd (hr ▸ h0) hne, fun j hj => hk j (hr ▸ hj) a w hf ho⟩
theorem DL_one {fuel : Nat} {listed : Array Bool} (j : Nat) (hr : Region.ready .any ops listed = [j])
    (hk : DS P n w0 bor ops K hs kill fuel (listed.setIfInBounds j true) j l h) : DL P n w0 bor ops K hs kill (fuel + 1) listed l h :=
  DL_all [j] hr (by simp) fun i hi => by rw [List.mem_singleton.1 hi]; exact hk
theorem DL_two {fuel : Nat} {listed : Array Bool} (j k : Nat) (hr : Region.ready .any ops listed = [j, k])
    (hj : DS P n w0 bor ops K hs kill fuel (listed.setIfInBounds j true) j l h) (hk : DS P n w0 bor ops K hs kill fuel (listed.setIfInBounds k true) k l h) : DL P n w0 bor ops K hs kill (fuel + 1) listed l h :=
  DL_all [j, k] hr (by simp) fun i hi => by
    rcases List.mem_cons.1 hi with rfl | hi
    · exact hj
    · rw [List.mem_singleton.1 hi]; exact hk
theorem DS_loud {fuel : Nat} {listed : Array Bool} {j : Nat} {R : Value → Mem → Prop} (hj : ops[j]? = some o) (hw : want ops l o = some true) (hd : o.dst = some d) (hlt : Nat.blt d n = true)
    (hlo : LO P n w0 bor h l o R) (hk : ∀ v h', R v h' → (kill j = true ∨ ∀ r ∈ hs, r ∈ h') ∧ DL P n w0 bor ops K hs kill fuel listed ((d, v) :: l) h') : DS P n w0 bor ops K hs kill fuel listed j l h := by
  intro a w hf ho
  unfold wpOp
  simp only [hj]
  rw [if_pos (want_spec hf hw)]
  refine .inl (hlo a w hf ho _ _ fun v w' h' hR ho' => ?_)
  rw [hd]
  obtain ⟨h1, h2⟩ := hk v h' hR
  exact ⟨h1.imp id ho'.sta, h2 _ _ (hf.put hlt v) ho'⟩
theorem DS_loud0 {fuel : Nat} {listed : Array Bool} {j : Nat} {R : Value → Mem → Prop} (hj : ops[j]? = some o) (hw : want ops l o = some true) (hd : o.dst = none)
    (hlo : LO P n w0 bor h l o R) (hk : ∀ v h', R v h' → (kill j = true ∨ ∀ r ∈ hs, r ∈ h') ∧ DL P n w0 bor ops K hs kill fuel listed l h') : DS P n w0 bor ops K hs kill fuel listed j l h := by
  intro a w hf ho
  unfold wpOp
  simp only [hj]
  rw [if_pos (want_spec hf hw)]
  refine .inl (hlo a w hf ho _ _ fun v w' h' hR ho' => ?_)
  rw [hd]
  obtain ⟨h1, h2⟩ := hk v h' hR
  exact ⟨h1.imp id ho'.sta, h2 _ _ hf ho'⟩
theorem DS_skip0 {fuel : Nat} {listed : Array Bool} {j : Nat} (hj : ops[j]? = some o) (hw : want ops l o = some false) (hd : o.dst = none) (hsub : kill j = true ∨ ∀ r ∈ hs, r ∈ h)
    (hk : DL P n w0 bor ops K hs kill fuel listed l h) : DS P n w0 bor ops K hs kill fuel listed j l h := by
  intro a w hf ho
  unfold wpOp
  simp only [hj]
  rw [if_neg (by rw [want_spec hf hw]; simp), hd]
  exact ⟨hsub.imp id ho.sta, hk _ _ hf ho⟩
theorem DL_done {fuel : Nat} {listed : Array Bool} (hr : Region.ready .any ops listed = []) (hk : K .normal l h) : DL P n w0 bor ops K hs kill fuel listed l h :=
  fun _ _ hf ho => match fuel with
    | 0 => ⟨hr, l, h, hf, ho, hk⟩
    | _ + 1 => ⟨fun _ => ⟨l, h, hf, ho, hk⟩, by rw [hr]; simp⟩
theorem DL_cases {fuel : Nat} {listed : Array Bool} (t : Nat) {b : Bool} (ht : fnd l t = some (.bool b)) (h1 : b = true → DL P n w0 bor ops K hs kill fuel listed ((t, .bool true) :: l) h) (h0 : b = false → DL P n w0 bor ops K hs kill fuel listed ((t, .bool false) :: l) h) :
    DL P n w0 bor ops K hs kill fuel listed l h := fun a w hf ho => by
  cases b with
  | true => exact h1 rfl a w (hf.cases_bool ht) ho
  | false => exact h0 rfl a w (hf.cases_bool ht) ho
theorem DL_dec {fuel : Nat} {listed : Array Bool} (t : Nat) {p : Prop} [Decidable p] (ht : fnd l t = some (.bool (decide p))) (h1 : p → DL P n w0 bor ops K hs kill fuel listed ((t, .bool true) :: l) h) (h0 : ¬ p → DL P n w0 bor ops K hs kill fuel listed ((t, .bool false) :: l) h) :
    DL P n w0 bor ops K hs kill fuel listed l h :=
  DL_cases t ht (fun e => h1 (of_decide_eq_true e)) (fun e => h0 (of_decide_eq_false e))
theorem DL_decn {fuel : Nat} {listed : Array Bool} (t : Nat) {p : Prop} [Decidable p] (ht : fnd l t = some (.bool (!decide p))) (h1 : ¬ p → DL P n w0 bor ops K hs kill fuel listed ((t, .bool true) :: l) h) (h0 : p → DL P n w0 bor ops K hs kill fuel listed ((t, .bool false) :: l) h) :
    DL P n w0 bor ops K hs kill fuel listed l h :=
  DL_cases t ht (fun e => h1 (by simpa using e)) (fun e => h0 (by simpa using e))
theorem DL_slot {fuel : Nat} {listed : Array Bool} (t : Nat) {u v : Value} (ht : fnd l t = some u) (huv : u = v) (hk : DL P n w0 bor ops K hs kill fuel listed ((t, v) :: l) h) : DL P n w0 bor ops K hs kill fuel listed l h :=
  fun a w hf ho => hk a w (hf.cases_bool (huv ▸ ht)) ho
theorem DL_know {fuel : Nat} {listed : Array Bool} {p : Prop} (hp : ∀ w, Own w0 bor h w → p) (hk : p → DL P n w0 bor ops K hs kill fuel listed l h) : DL P n w0 bor ops K hs kill fuel listed l h :=
  fun a w hf ho => hk (hp w ho) a w hf ho

/-! ### code -/
theorem lift_mono {K K' : Cont} (hk : ∀ e l h, K e l h → K' e l h) : ∀ e a w, lift n w0 bor K e a w → lift n w0 bor K' e a w := by
  intro e a w hq
  cases e <;> first
    | exact hq
    | (obtain ⟨l, h, h1, h2, h3⟩ := hq; exact ⟨l, h, h1, h2, hk _ _ _ h3⟩)
def Cont.then (K : Cont) (N : Env → Mem → Prop) : Cont
  | .normal, l, h => N l h
  | e, l, h => K e l h
def Cont.inBlock (K : Cont) (id : Nat) : Cont
  | .exit id', l, h => match Nat.beq id' id with
    | true => K .normal l h
    | false => K (.exit id') l h
  | e, l, h => K e l h
attribute [reducible] Cont.then Cont.inBlock
theorem TC_seq {x y : Code} (hx : TC P n w0 bor x (K.then (TC P n w0 bor y K)) l h) : TC P n w0 bor (.seq x y) K l h := by
  intro a w hf ho
  refine wp_seq (wp_mono (hx a w hf ho) fun e a' w' hq => ?_)
  cases e with
  | normal => obtain ⟨l', h', h1, h2, h3⟩ := hq; exact h3 a' w' h1 h2
  | _ => exact hq
theorem TC_skip (hk : K .normal l h) : TC P n w0 bor .skip K l h := fun _ _ hf ho => wp_skip ⟨l, h, hf, ho, hk⟩
theorem TC_exit {id : Nat} (hk : K (.exit id) l h) : TC P n w0 bor (.exit id) K l h := fun _ _ hf ho => wp_exit ⟨l, h, hf, ho, hk⟩
theorem TC_ret (hk : K .ret l h) : TC P n w0 bor .ret K l h := fun _ _ hf ho => wp_ret ⟨l, h, hf, ho, hk⟩
theorem TC_block {id : Nat} {c : Code} (hk : TC P n w0 bor c (K.inBlock id) l h) : TC P n w0 bor (.block id c) K l h := by
  intro a w hf ho
  refine wp_block (wp_mono (hk a w hf ho) fun e a' w' hq => ?_)
  cases e with
  | exit id' =>
    obtain ⟨l', h', h1, h2, h3⟩ := hq
    simp only [Exit.inBlock]
    simp only [Cont.inBlock] at h3
    split
    · rename_i e; subst e; rw [Nat.beq_refl] at h3; exact ⟨l', h', h1, h2, h3⟩
    · rename_i e
      cases hb : Nat.beq id' id with
      | true => exact absurd (Nat.eq_of_beq_eq_true hb) e
      | false => rw [hb] at h3; exact ⟨l', h', h1, h2, h3⟩
  | _ => exact hq
theorem TC_cond {c : Operand} {x y : Code} {b : Bool} (hc : ev l c = some (.bool b)) (h1 : b = true → TC P n w0 bor x K l h) (h0 : b = false → TC P n w0 bor y K l h) : TC P n w0 bor (.cond c x y) K l h :=
  fun a w hf ho => wp_cond_split (hf.eval hc) (fun e => h1 e a w hf ho) (fun e => h0 e a w hf ho)
theorem TC_if {c : Operand} {x y : Code} {p : Prop} [Decidable p] (hc : ev l c = some (.bool (decide p))) (h1 : p → TC P n w0 bor x K l h) (h0 : ¬ p → TC P n w0 bor y K l h) : TC P n w0 bor (.cond c x y) K l h :=
  TC_cond hc (fun e => h1 (of_decide_eq_true e)) (fun e => h0 (of_decide_eq_false e))
theorem TC_ifn {c : Operand} {x y : Code} {p : Prop} [Decidable p] (hc : ev l c = some (.bool (!decide p))) (h1 : ¬ p → TC P n w0 bor x K l h) (h0 : p → TC P n w0 bor y K l h) : TC P n w0 bor (.cond c x y) K l h :=
  TC_cond hc (fun e => h1 (by simpa using e)) (fun e => h0 (by simpa using e))
theorem TC_yes {c : Operand} {x y : Code} (hc : ev l c = some (.bool true)) (hk : TC P n w0 bor x K l h) : TC P n w0 bor (.cond c x y) K l h :=
  fun a w hf ho => wp_cond_true (hf.eval hc) (hk a w hf ho)
theorem TC_no {c : Operand} {x y : Code} (hc : ev l c = some (.bool false)) (hk : TC P n w0 bor y K l h) : TC P n w0 bor (.cond c x y) K l h :=
  fun a w hf ho => wp_cond_false (hf.eval hc) (hk a w hf ho)
theorem TC_region {id : Nat} {os : List Oper} (hk : OL P n w0 bor os.toArray (lift n w0 bor K) os l h) : TC P n w0 bor (.region id os.toArray false) K l h :=
  fun a w hf ho => wp_region_lit (hk a w hf ho)
theorem TC_draw {id : Nat} (hm : P.follows .mixedOrders = true) (kill : Nat → Bool) (hk : DL P n w0 bor ops K h kill ops.size (Array.replicate ops.size false) l h) : TC P n w0 bor (.region id ops true) K l h :=
  fun a _ hf ho => wp_region_any hm (Any.wpAny _ _ _ _ (hk a _ hf (ho.drawn _)))
theorem TC_weak {c : Code} {l' : Env} {h' : Mem} (hs : Sub l' l) (hh : h'.Sublist h) (hk : TC P n w0 bor c K l' h') : TC P n w0 bor c K l h :=
  fun a w hf ho => hk a w (hf.weak hs) (ho.drop hh)
theorem TC_own {c : Code} {h' : Mem} (hh : ∀ w, Own w0 bor h w → Own w0 bor h' w) (hk : TC P n w0 bor c K l h') : TC P n w0 bor c K l h :=
  fun a w hf ho => hk a w hf (hh w ho)
theorem TC_know {c : Code} {p : Prop} (hp : ∀ w, Own w0 bor h w → p) (hk : p → TC P n w0 bor c K l h) : TC P n w0 bor c K l h :=
  fun a w hf ho => hk (hp w ho) a w hf ho
theorem TC_slot {c : Code} (t : Nat) {u v : Value} (ht : fnd l t = some u) (huv : u = v) (hk : TC P n w0 bor c K ((t, v) :: l) h) : TC P n w0 bor c K l h :=
  fun a w hf ho => hk a w (hf.cases_bool (huv ▸ ht)) ho
/-- What is known where the ways meet again. -/
structure At {σ : Type} (L : σ → Env) (H : σ → Mem) (Pr : σ → Prop) (l : Env) (h : Mem) (x : σ) : Prop where
  pr : Pr x
  sub : Sub (L x) l
  mem : (H x).Sublist h
theorem TC_cut {c : Code} {σ : Type} (L : σ → Env) (H : σ → Mem) (Pr : σ → Prop) (hc : TC P n w0 bor c (K.then fun l h => ∃ x, At L H Pr l h x) l h) (hk : ∀ x, Pr x → K .normal (L x) (H x)) : TC P n w0 bor c K l h := by
  intro a w hf ho
  refine wp_mono (hc a w hf ho) fun e a' w' hq => ?_
  cases e with
  | normal => obtain ⟨l', h', h1, h2, x, hx⟩ := hq; exact ⟨_, _, h1.weak hx.sub, h2.drop hx.mem, hk x hx.pr⟩
  | _ => exact hq
/-- A loop of at most so many rounds, round by round. -/
def TR (P : Program) (n : Nat) (w0 : World) (bor : List Nat) (c : Code) (K : Cont) : Nat → Env → Mem → Prop
  | 0, _, _ => False
  | m + 1, l, h => TC P n w0 bor c (K.then (TR P n w0 bor c K m)) l h
theorem TR_succ {c : Code} {m : Nat} (hk : TC P n w0 bor c (K.then (TR P n w0 bor c K m)) l h) : TR P n w0 bor c K (m + 1) l h := hk
theorem TC_rounds {c : Code} (m : Nat) (hk : TR P n w0 bor c K m l h) : TC P n w0 bor (.loop c) K l h := by
  intro a w hf ho
  refine wp_loop_rounds m ?_
  have key : ∀ m l h, TR P n w0 bor c K m l h → ∀ a w, Fr n l a → Own w0 bor h w → Code.rounds P c (lift n w0 bor K) m a w := by
    intro m
    induction m with
    | zero => intro l h hr; exact hr.elim
    | succ m ih =>
      intro l h hr a w hf ho
      refine wp_mono (hr a w hf ho) fun e a' w' hq => ?_
      cases e with
      | normal => obtain ⟨l', h', h1, h2, h3⟩ := hq; exact ih l' h' h3 a' w' h1 h2
      | _ => exact hq
  exact key m l h hk a w hf ho
/-- A loop: what holds at every round's head, for some x; a number that every round lowers. -/
theorem TC_loop {c : Code} {σ : Type} (L : σ → Env) (H : σ → Mem) (Pr : σ → Prop) (μ : σ → Nat) (x0 : σ) (h0 : At L H Pr l h x0)
    (round : ∀ x, Pr x → TC P n w0 bor c (K.then fun l h => ∃ x', At L H Pr l h x' ∧ μ x' < μ x) (L x) (H x)) : TC P n w0 bor (.loop c) K l h := by
  intro a w hf ho b k cs
  have key : ∀ m x, μ x = m → ∀ a w, Pr x → Fr n (L x) a → Own w0 bor (H x) w →
      ∃ e a' w', lift n w0 bor K e a' w' ∧ Arrives P (lone (b.at a (.code c :: .inLoop c :: k)) cs w) b k cs e a' w' := by
    intro m
    induction m using Nat.strongRecOn with
    | _ m ih =>
      intro x hx a w hp hf ho
      obtain ⟨e, a1, w1, hq, harr⟩ := round x hp a w hf ho b (.inLoop c :: k) cs
      cases e with
      | normal =>
        obtain ⟨l', h', h1, h2, x', hx', hlt⟩ := hq
        obtain ⟨e2, a2, w2, hq2, harr2⟩ := ih (μ x') (hx ▸ hlt) x' rfl a1 w1 hx'.pr (h1.weak hx'.sub) (h2.drop hx'.mem)
        exact ⟨e2, a2, w2, hq2, .of_steps (Steps.trans harr (.one step_inLoop)) harr2⟩
      | exit id => exact ⟨.exit id, a1, w1, hq, .pass (x := .inLoop c) rfl (fun _ _ => .inl (by simp)) harr⟩
      | goto l => exact ⟨.goto l, a1, w1, hq, .pass (x := .inLoop c) rfl (fun _ _ => .inl (by simp)) harr⟩
      | ret => exact ⟨.ret, a1, w1, hq, .pass (x := .inLoop c) rfl (fun _ _ => .inl (by simp)) harr⟩
      | panic ch => exact hq.elim
      | outgrown => exact hq.elim
  obtain ⟨e, a', w', hq, harr⟩ := key _ x0 rfl a w h0.pr (hf.weak h0.sub) (ho.drop h0.mem)
  exact ⟨e, a', w', hq, .of_steps (.one step_loop) harr⟩
end

/-! ### functions -/
section
variable {P : Program} {n : Nat} {w0 : World} {bor : List Nat} {l : Env} {h hs : Mem} {o : Oper} {v : Value}
def argE : Nat → List Value → Env
  | _, [] => []
  | i, v :: vs => (i, v) :: argE (i + 1) vs
theorem fnd_argE (vs : List Value) : ∀ (i t : Nat) (v : Value), fnd (argE i vs) t = some v → i ≤ t ∧ vs[t - i]? = some v := by
  induction vs with
  | nil => intro i t v h; cases h
  | cons u vs ih =>
    intro i t v h
    rw [argE, fnd_cons] at h
    split at h
    · rename_i e; subst e; cases h; simp
    · rename_i e
      obtain ⟨h1, h2⟩ := ih (i + 1) t v h
      refine ⟨by omega, ?_⟩
      rw [show t - i = (t - (i + 1)) + 1 from by omega]
      simpa using h2
def ResOK (P : Program) (n : Nat) (w0 : World) (bor : List Nat) (fn : Func) (l : Env) (h : Mem) (v : Value) : Prop :=
  ∀ a w, Fr n l a → Own w0 bor h w → (results fn a.tmps).run P w = .ok v w
def retK (P : Program) (n : Nat) (w0 : World) (bor : List Nat) (fn : Func) (R : Value → Mem → Prop) : Cont
  | .normal, l, h => ∃ v h0, ResOK P n w0 bor fn l h v ∧ h0.Sublist h ∧ R v h0
  | .ret, l, h => ∃ v h0, ResOK P n w0 bor fn l h v ∧ h0.Sublist h ∧ R v h0
  | _, _, _ => False
/-- What a call gives: a value and memory of which R holds, the rest as it was. -/
def Gives (P : Program) (f : FuncId) (vs : List Value) (w0 : World) (bor : List Nat) (R : Value → Mem → Prop) : Prop :=
  Calls P f vs.toArray w0 fun e w' => ∃ v h', e = .returned v ∧ R v h' ∧ Own w0 bor h' w'
theorem gives_of {f : FuncId} {fn : Func} {c : Code} {vs : List Value} {R : Value → Mem → Prop} (hf : P.funcs[f]? = some fn) (hb : fn.body = some c) (hn : fn.ntmps = n) (hl : Nat.ble vs.length n = true)
    (ho : Own w0 bor h w0) (ht : TC P n w0 bor c (retK P n w0 bor fn R) (argE 0 vs) h) : Gives P f vs w0 bor R := by
  refine calls_of_wp hf hb (wp_mono (ht _ w0 ⟨?_, rfl, fun t v htv => ?_⟩ ho) fun e a w hq => ?_)
  · have := Nat.le_of_ble_eq_true hl
    simp [hn]; omega
  · obtain ⟨_, h2⟩ := fnd_argE vs 0 t v htv
    have hlt := (List.getElem?_eq_some_iff.1 h2).1
    rw [Nat.sub_zero] at h2 hlt
    show (vs.toArray ++ _)[t]? = _
    rw [Array.getElem?_append_left (by simpa using hlt)]
    simpa using h2
  · cases e with
    | normal => obtain ⟨l', h', h1, h2, v, h0, hv, hs, hR⟩ := hq; exact ⟨h1.defers, v, hv a w h1 h2, v, h0, rfl, hR, h2.drop hs⟩
    | ret => obtain ⟨l', h', h1, h2, v, h0, hv, hs, hR⟩ := hq; exact ⟨h1.defers, v, hv a w h1 h2, v, h0, rfl, hR, h2.drop hs⟩
    | exit id => obtain ⟨l', h', h1, h2, h3⟩ := hq; exact h3.elim
    | goto id => obtain ⟨l', h', h1, h2, h3⟩ := hq; exact h3.elim
    | panic c => exact hq.elim
    | outgrown => exact hq.elim
/-- What a law's row asks of its walk. -/
theorem Gives.law {f : FuncId} {vs : List Value} (hg : Gives P f vs w0 [] fun v h => v = .bool true ∧ h = []) : Calls P f vs.toArray w0 fun e w' => e = .returned (.bool true) ∧ Go.RowKit.Below w0.heap.size w0 w' :=
  Calls.mono hg fun _ _ ⟨_, _, he, ⟨hv, _⟩, ho⟩ => ⟨by rw [he, hv], ho.below⟩
theorem wf_u64 {a : Int} (h : (Lit.int .u64 a).wf = true) : ∃ n : Nat, a = n ∧ n < 18446744073709551616 := by
  simp [Lit.wf, IntKind.min, IntKind.max, IntKind.signed, IntKind.bits] at h
  obtain ⟨n, rfl⟩ := Int.eq_ofNat_of_zero_le h.1
  exact ⟨n, rfl, by omega⟩
theorem wf_i64 {a : Int} (h : (Lit.int .i64 a).wf = true) : -9223372036854775808 ≤ a ∧ a ≤ 9223372036854775807 := by
  simpa [Lit.wf, IntKind.min, IntKind.max, IntKind.signed, IntKind.bits] using h
theorem Gives.mono {f : FuncId} {vs : List Value} {R R' : Value → Mem → Prop} (hg : Gives P f vs w0 bor R) (hr : ∀ v h, R v h → R' v h) : Gives P f vs w0 bor R' :=
  Calls.mono hg fun _ _ ⟨v, h', he, hR, ho⟩ => ⟨v, h', he, hr _ _ hR, ho⟩
theorem ret0 {fn : Func} {R : Value → Mem → Prop} {h0 : Mem} (hr : fn.results = #[]) (hs : h0.Sublist h) (hR : R (.tuple #[]) h0) : retK P n w0 bor fn R .ret l h :=
  ⟨_, h0, fun a w _ _ => by simp [results, hr], hs, hR⟩
theorem end0 {fn : Func} {R : Value → Mem → Prop} {h0 : Mem} (hr : fn.results = #[]) (hs : h0.Sublist h) (hR : R (.tuple #[]) h0) : retK P n w0 bor fn R .normal l h :=
  ⟨_, h0, fun a w _ _ => by simp [results, hr], hs, hR⟩
theorem ret1h {fn : Func} {R : Value → Mem → Prop} {h0 : Mem} {t : Nat} (hr : fn.results = #[.tmp t]) (ht : fnd l t = some v) (hs : h0.Sublist h) (hR : R v h0) : retK P n w0 bor fn R .ret l h :=
  ⟨v, h0, fun a w hf _ => by simp [results, hr, Array.getD_eq_getD_getElem?, hf.has t v ht], hs, hR⟩
theorem ret1 {fn : Func} {R : Value → Mem → Prop} {t : Nat} (hr : fn.results = #[.tmp t]) (ht : fnd l t = some v) (hR : R v []) : retK P n w0 bor fn R .ret l h := ret1h hr ht (List.nil_sublist _) hR
theorem ret2h {fn : Func} {R : Value → Mem → Prop} {h0 : Mem} {t u : Nat} {v1 v2 : Value} (hr : fn.results = #[.tmp t, .tmp u]) (ht : fnd l t = some v1) (hu : fnd l u = some v2) (hs : h0.Sublist h) (hR : R (.tuple #[v1, v2]) h0) : retK P n w0 bor fn R .ret l h :=
  ⟨_, h0, fun a w hf _ => by simp [results, hr, Array.getD_eq_getD_getElem?, hf.has t v1 ht, hf.has u v2 hu], hs, hR⟩
theorem ret2 {fn : Func} {R : Value → Mem → Prop} {t u : Nat} {v1 v2 : Value} (hr : fn.results = #[.tmp t, .tmp u]) (ht : fnd l t = some v1) (hu : fnd l u = some v2) (hR : R (.tuple #[v1, v2]) []) : retK P n w0 bor fn R .ret l h := ret2h hr ht hu (List.nil_sublist _) hR
theorem ret3h {fn : Func} {R : Value → Mem → Prop} {h0 : Mem} {t u s : Nat} {v1 v2 v3 : Value} (hr : fn.results = #[.tmp t, .tmp u, .tmp s]) (ht : fnd l t = some v1) (hu : fnd l u = some v2) (hs : fnd l s = some v3) (hs' : h0.Sublist h) (hR : R (.tuple #[v1, v2, v3]) h0) : retK P n w0 bor fn R .ret l h :=
  ⟨_, h0, fun a w hf _ => by simp [results, hr, Array.getD_eq_getD_getElem?, hf.has t v1 ht, hf.has u v2 hu, hf.has s v3 hs], hs', hR⟩

/-! ### silent operations -/
theorem andThen_ok {α β : Type} (a : α) (w : World) (f : α → Sem β) (P : Program) : ((Sem.pure a).bind f).run P w = (f a).run P w := rfl
theorem Sil.copy {x : Operand} (ho : o.op = .move x ∨ o.op = .assign x) (hx : ev l x = some v) : Sil P n w0 bor hs l o v := by
  intro a w hf _
  have := hf.eval hx
  unfold execOp
  rcases ho with ho | ho <;> (simp only [ho, this]; rfl)
theorem Sil.move {x : Operand} (ho : o.op = .move x) (hx : ev l x = some v) : Sil P n w0 bor hs l o v := Sil.copy (.inl ho) hx
theorem Sil.assign {x : Operand} (ho : o.op = .assign x) (hx : ev l x = some v) : Sil P n w0 bor hs l o v := Sil.copy (.inr ho) hx
/-- An operation that is reckoned from its operands alone. -/
theorem Sil.of {s : Sem Value} (he : ∀ a : Act, Fr n l a → execOp a.eval o = (do pure (.value (← s)))) (hs' : ∀ w, Sta w0 bor hs w → s.run P w = .ok v w) : Sil P n w0 bor hs l o v := by
  intro a w hf hS
  rw [he a hf]
  have := hs' w hS
  show (s.bind fun v => Sem.pure (Next.value v)).run P w = _
  rw [show (s.bind fun v => Sem.pure (Next.value v)).run P w = (s >>= fun v => pure (Next.value v)).run P w from rfl, Sem.run_bind, this]
  rfl
theorem Sil.pick1 {c x y : Operand} (ho : o.op = .pick c x y) (hc : ev l c = some (.bool true)) (hx : ev l x = some v) : Sil P n w0 bor hs l o v := by
  intro a w hf _
  unfold execOp
  simp only [ho, hf.eval hc, hf.eval hx]
  rfl
theorem Sil.pick0 {c x y : Operand} (ho : o.op = .pick c x y) (hc : ev l c = some (.bool false)) (hy : ev l y = some v) : Sil P n w0 bor hs l o v := by
  intro a w hf _
  unfold execOp
  simp only [ho, hf.eval hc, hf.eval hy]
  rfl
theorem Sil.bin {op : BinOp} {t t' : TypeId} {x y : Operand} {k k' : IntKind} {i j : Int} (ho : o.op = .binOp op t x y t') (hx : ev l x = some (.int k i)) (hy : ev l y = some (.int k' j))
    (hv : ∀ w, (binOp op t (.int k i) (.int k' j)).run P w = .ok v w) : Sil P n w0 bor hs l o v :=
  Sil.of (s := binOp op t (.int k i) (.int k' j)) (fun a hf => by
    unfold execOp
    simp only [ho, hf.eval hx, hf.eval hy]
    have : eqGuard op t x y (.int k i) (.int k' j) = pure () := by
      unfold eqGuard
      cases op <;> rfl
    rw [this]
    rfl) (fun w _ => hv w)
theorem Sil.addw {t t' : TypeId} {x y : Operand} {k : IntKind} {i j : Int} (ho : o.op = .binOp .add t x y t') (hx : ev l x = some (.int k i)) (hy : ev l y = some (.int k j)) : Sil P n w0 bor hs l o (.int k (k.wrap (i + j))) :=
  Sil.bin ho hx hy fun w => by simp [binOp, Op.intArith]
theorem Sil.subw {t t' : TypeId} {x y : Operand} {k : IntKind} {i j : Int} (ho : o.op = .binOp .sub t x y t') (hx : ev l x = some (.int k i)) (hy : ev l y = some (.int k j)) : Sil P n w0 bor hs l o (.int k (k.wrap (i - j))) :=
  Sil.bin ho hx hy fun w => by simp [binOp, Op.intArith]
theorem Sil.mulw {t t' : TypeId} {x y : Operand} {k : IntKind} {i j : Int} (ho : o.op = .binOp .mul t x y t') (hx : ev l x = some (.int k i)) (hy : ev l y = some (.int k j)) : Sil P n w0 bor hs l o (.int k (k.wrap (i * j))) :=
  Sil.bin ho hx hy fun w => by simp [binOp, Op.intArith]
theorem wrap_i64 {x : Int} (h0 : -9223372036854775808 ≤ x) (h1 : x ≤ 9223372036854775807) : IntKind.i64.wrap x = x := by
  simp only [IntKind.wrap, IntKind.bits, IntKind.signed, Bool.true_and]
  split
  · rename_i h; have h := of_decide_eq_true h; omega
  · rename_i h; have h : ¬ (x % (2 ^ 64 : Int) ≥ (2 ^ (64 - 1) : Int)) := fun e => h (decide_eq_true e); omega
theorem wrap_u64 {x : Int} (h0 : 0 ≤ x) (h1 : x ≤ 18446744073709551615) : IntKind.u64.wrap x = x := by
  simp only [IntKind.wrap, IntKind.bits, IntKind.signed, Bool.false_and, Bool.false_eq_true, if_false]
  omega
theorem wrap_u64_mod (x : Int) : IntKind.u64.wrap x = x % 18446744073709551616 := by
  simp [IntKind.wrap, IntKind.bits, IntKind.signed]
theorem Sil.add {t t' : TypeId} {x y : Operand} {i j : Int} (ho : o.op = .binOp .add t x y t') (hx : ev l x = some (.int .i64 i)) (hy : ev l y = some (.int .i64 j)) (h0 : -9223372036854775808 ≤ i + j) (h1 : i + j ≤ 9223372036854775807) : Sil P n w0 bor hs l o (.int .i64 (i + j)) := by
  have := Sil.addw (P := P) (n := n) (w0 := w0) (bor := bor) (hs := hs) ho hx hy
  rwa [wrap_i64 h0 h1] at this
theorem Sil.sub {t t' : TypeId} {x y : Operand} {i j : Int} (ho : o.op = .binOp .sub t x y t') (hx : ev l x = some (.int .i64 i)) (hy : ev l y = some (.int .i64 j)) (h0 : -9223372036854775808 ≤ i - j) (h1 : i - j ≤ 9223372036854775807) : Sil P n w0 bor hs l o (.int .i64 (i - j)) := by
  have := Sil.subw (P := P) (n := n) (w0 := w0) (bor := bor) (hs := hs) ho hx hy
  rwa [wrap_i64 h0 h1] at this
theorem Sil.mul {t t' : TypeId} {x y : Operand} {i j : Int} (ho : o.op = .binOp .mul t x y t') (hx : ev l x = some (.int .i64 i)) (hy : ev l y = some (.int .i64 j)) (h0 : -9223372036854775808 ≤ i * j) (h1 : i * j ≤ 9223372036854775807) : Sil P n w0 bor hs l o (.int .i64 (i * j)) := by
  have := Sil.mulw (P := P) (n := n) (w0 := w0) (bor := bor) (hs := hs) ho hx hy
  rwa [wrap_i64 h0 h1] at this
/-- uint64: numbers of Nat. -/
theorem Sil.addu {t t' : TypeId} {x y : Operand} {i j : Nat} (ho : o.op = .binOp .add t x y t') (hx : ev l x = some (.int .u64 i)) (hy : ev l y = some (.int .u64 j)) : Sil P n w0 bor hs l o (.int .u64 (((i + j) % 18446744073709551616 : Nat) : Int)) := by
  have := Sil.addw (P := P) (n := n) (w0 := w0) (bor := bor) (hs := hs) ho hx hy
  rwa [wrap_u64_mod, show ((i : Int) + j) % 18446744073709551616 = (((i + j) % 18446744073709551616 : Nat) : Int) from by omega] at this
theorem Sil.addun {t t' : TypeId} {x y : Operand} {i j : Nat} (ho : o.op = .binOp .add t x y t') (hx : ev l x = some (.int .u64 i)) (hy : ev l y = some (.int .u64 j)) (hb : i + j < 18446744073709551616) : Sil P n w0 bor hs l o (.int .u64 ((i + j : Nat) : Int)) := by
  have := Sil.addu (P := P) (n := n) (w0 := w0) (bor := bor) (hs := hs) ho hx hy
  rwa [Nat.mod_eq_of_lt hb] at this
theorem Sil.mulu {t t' : TypeId} {x y : Operand} {i j : Nat} (ho : o.op = .binOp .mul t x y t') (hx : ev l x = some (.int .u64 i)) (hy : ev l y = some (.int .u64 j)) : Sil P n w0 bor hs l o (.int .u64 (((i * j) % 18446744073709551616 : Nat) : Int)) := by
  have := Sil.mulw (P := P) (n := n) (w0 := w0) (bor := bor) (hs := hs) ho hx hy
  rwa [wrap_u64_mod, show ((i : Int) * j) % 18446744073709551616 = (((i * j) % 18446744073709551616 : Nat) : Int) from by rw [Int.natCast_emod, Int.natCast_mul]; rfl] at this
theorem Sil.mulun {t t' : TypeId} {x y : Operand} {i j : Nat} (ho : o.op = .binOp .mul t x y t') (hx : ev l x = some (.int .u64 i)) (hy : ev l y = some (.int .u64 j)) (hb : i * j < 18446744073709551616) : Sil P n w0 bor hs l o (.int .u64 ((i * j : Nat) : Int)) := by
  have := Sil.mulu (P := P) (n := n) (w0 := w0) (bor := bor) (hs := hs) ho hx hy
  rwa [Nat.mod_eq_of_lt hb] at this
theorem Sil.quou {t t' : TypeId} {x y : Operand} {i j : Nat} (ho : o.op = .binOp .quo t x y t') (hx : ev l x = some (.int .u64 i)) (hy : ev l y = some (.int .u64 j)) (hj : 0 < j) (hi : i < 18446744073709551616) : Sil P n w0 bor hs l o (.int .u64 ((i / j : Nat) : Int)) :=
  Sil.bin ho hx hy fun w => by
    have hj' : ¬ (j : Int) = 0 := by omega
    have h1 : i / j ≤ i := Nat.div_le_self _ _
    have h2 : ((i : Int).tdiv (j : Int)) = ((i / j : Nat) : Int) := by rw [Int.tdiv_eq_ediv_of_nonneg (by omega)]; rfl
    simp only [binOp, Op.intDiv, ne_eq, not_true_eq_false, if_false, hj']
    rw [h2]
    generalize i / j = q at *
    rw [wrap_u64 (by omega) (by omega)]
    rfl
theorem Sil.remu {t t' : TypeId} {x y : Operand} {i j : Nat} (ho : o.op = .binOp .rem t x y t') (hx : ev l x = some (.int .u64 i)) (hy : ev l y = some (.int .u64 j)) (hj : 0 < j) : Sil P n w0 bor hs l o (.int .u64 ((i % j : Nat) : Int)) :=
  Sil.bin ho hx hy fun w => by
    have hj' : ¬ (j : Int) = 0 := by omega
    have h2 : ((i : Int).tmod (j : Int)) = ((i % j : Nat) : Int) := by rw [Int.tmod_eq_emod_of_nonneg (by omega)]; rfl
    simp only [binOp, Op.intDiv, ne_eq, not_true_eq_false, if_false, hj']
    rw [h2]
    rfl
theorem Sil.rem {t t' : TypeId} {x y : Operand} {i j : Int} (ho : o.op = .binOp .rem t x y t') (hx : ev l x = some (.int .i64 i)) (hy : ev l y = some (.int .i64 j)) (hj : 0 < j) (hi : 0 ≤ i) : Sil P n w0 bor hs l o (.int .i64 (i % j)) :=
  Sil.bin ho hx hy fun w => by
    have hj' : ¬ j = 0 := by omega
    simp only [binOp, Op.intDiv, ne_eq, not_true_eq_false, if_false, hj']
    rw [Int.tmod_eq_emod_of_nonneg hi]
    rfl
theorem Sil.quo {t t' : TypeId} {x y : Operand} {i j : Int} (ho : o.op = .binOp .quo t x y t') (hx : ev l x = some (.int .i64 i)) (hy : ev l y = some (.int .i64 j)) (hj : 0 < j) (hi : 0 ≤ i) (hm : i ≤ 9223372036854775807) : Sil P n w0 bor hs l o (.int .i64 (i / j)) :=
  Sil.bin ho hx hy fun w => by
    have hj' : ¬ j = 0 := by omega
    have h1 : i / j ≤ i := Int.ediv_le_self _ hi
    have h2 : 0 ≤ i / j := Int.ediv_nonneg hi (by omega)
    simp only [binOp, Op.intDiv, ne_eq, not_true_eq_false, if_false, hj']
    rw [Int.tdiv_eq_ediv_of_nonneg hi, wrap_i64 (by omega) (by omega)]
    rfl
theorem Sil.lss {t t' : TypeId} {x y : Operand} {k : IntKind} {i j : Int} (ho : o.op = .binOp .lss t x y t') (hx : ev l x = some (.int k i)) (hy : ev l y = some (.int k j)) : Sil P n w0 bor hs l o (.bool (decide (i < j))) :=
  Sil.bin ho hx hy fun w => by simp [binOp, Op.intCmp]
theorem Sil.leq {t t' : TypeId} {x y : Operand} {k : IntKind} {i j : Int} (ho : o.op = .binOp .leq t x y t') (hx : ev l x = some (.int k i)) (hy : ev l y = some (.int k j)) : Sil P n w0 bor hs l o (.bool (decide (i ≤ j))) :=
  Sil.bin ho hx hy fun w => by simp [binOp, Op.intCmp]
theorem Sil.gtr {t t' : TypeId} {x y : Operand} {k : IntKind} {i j : Int} (ho : o.op = .binOp .gtr t x y t') (hx : ev l x = some (.int k i)) (hy : ev l y = some (.int k j)) : Sil P n w0 bor hs l o (.bool (decide (j < i))) :=
  Sil.bin ho hx hy fun w => by simp [binOp, Op.intCmp]
theorem Sil.geq {t t' : TypeId} {x y : Operand} {k : IntKind} {i j : Int} (ho : o.op = .binOp .geq t x y t') (hx : ev l x = some (.int k i)) (hy : ev l y = some (.int k j)) : Sil P n w0 bor hs l o (.bool (decide (j ≤ i))) :=
  Sil.bin ho hx hy fun w => by simp [binOp, Op.intCmp]
theorem Sil.eql {t t' : TypeId} {x y : Operand} {k : IntKind} {i j : Int} (ho : o.op = .binOp .eql t x y t') (hx : ev l x = some (.int k i)) (hy : ev l y = some (.int k j)) : Sil P n w0 bor hs l o (.bool (decide (i = j))) :=
  Sil.bin ho hx hy fun w => by
    have : (i == j) = decide (i = j) := by by_cases e : i = j <;> simp [e]
    simp [binOp, Op.intCmp, this]
theorem Sil.neq {t t' : TypeId} {x y : Operand} {k : IntKind} {i j : Int} (ho : o.op = .binOp .neq t x y t') (hx : ev l x = some (.int k i)) (hy : ev l y = some (.int k j)) : Sil P n w0 bor hs l o (.bool (!decide (i = j))) :=
  Sil.bin ho hx hy fun w => by
    have : (i != j) = !decide (i = j) := by by_cases e : i = j <;> simp [e]
    simp [binOp, Op.intCmp, this]
theorem Sil.not {t : TypeId} {x : Operand} {b : Bool} (ho : o.op = .unOp .not t x) (hx : ev l x = some (.bool b)) : Sil P n w0 bor hs l o (.bool (!b)) :=
  Sil.of (s := Op.unary .not (.bool b)) (fun a hf => by unfold execOp; simp only [ho, hf.eval hx]) (fun w _ => by simp [Op.unary])
end

/-! ### memory: reading -/
def cellF (H : HF) (a : Addr) : Option Value :=
  match H a.block with
  | some (.cells c _ _) => if a.spot.isSome then none else c[a.off]?
  | _ => none
theorem cell_hf (w : World) (a : Addr) : w.cell? a = cellF (hf w) a := rfl
theorem cellF_eq {H H' : HF} {a : Addr} (h : H' a.block = H a.block) : cellF H' a = cellF H a := by simp [cellF, h]
def blk (b : Nat) (o : Obj) : Res :=
  ⟨[b], fun H => H b = some o, fun H H' hh h => by rw [hh b (by simp)]; exact h, fun H h i hi => by rw [List.mem_singleton.1 hi, h]; simp⟩
theorem add_add (a : Addr) (m k : Nat) : (a.add m).add k = a.add (m + k) := by
  unfold Addr.add
  split <;> split <;> simp_all
  · omega
theorem add_lit (b m k : Nat) : (⟨b, m, none⟩ : Addr).add k = ⟨b, m + k, none⟩ := by
  unfold Addr.add
  split
  · rename_i e; subst e; rfl
  · rfl
theorem add_zero (a : Addr) : a.add 0 = a := rfl
/-- What one type is. -/
structure Ty (P : Program) (T : TypeId) (d : TypeDesc) (s : Nat) : Prop where
  und : P.underlying T = some d
  size : (P.info? T).map (·.size) = some s
def aggB : TypeDesc → Bool
  | .struct _ => true
  | .array _ _ => true
  | _ => false
theorem run_underlying' {P : Program} {T : TypeId} {d : TypeDesc} (h : P.underlying T = some d) (w : World) : (underlying T).run P w = .ok d w := by
  simp [underlying, program, Sem.run, h, Bind.bind, Sem.bind, Pure.pure]
theorem run_sizeOf {P : Program} {T : TypeId} {s : Nat} (h : (P.info? T).map (·.size) = some s) (w : World) : (sizeOf T).run P w = .ok s w := by
  cases hi : P.info? T with
  | none => rw [hi] at h; cases h
  | some i =>
    rw [hi] at h
    simp [sizeOf, typeInfo, program, Sem.run, hi, Bind.bind, Sem.bind, Pure.pure]
    simpa using h
theorem run_isAgg {P : Program} {T : TypeId} {d : TypeDesc} (h : P.underlying T = some d) (w : World) : (isAgg T).run P w = .ok (aggB d) w := by
  unfold isAgg
  rw [Sem.run_bind, run_underlying' h]
  cases d <;> rfl
theorem run_load1 {P : Program} {w : World} {a : Addr} {v : Value} (h : w.cell? a = some v) : (load a).run P w = .ok v w := by
  simp [load, Sem.run, h]
theorem run_loadCellsFrom {P : Program} {w : World} {a : Addr} : ∀ (n i : Nat) (acc : Array Value) (cs : List Value), cs.length = n → (∀ j v, cs[j]? = some v → w.cell? (a.add (i + j)) = some v) →
    (loadCellsFrom a i n acc).run P w = .ok (acc ++ cs.toArray) w := by
  intro n
  induction n with
  | zero => intro i acc cs hl _; rw [List.eq_nil_of_length_eq_zero hl]; simp [loadCellsFrom, Pure.pure]
  | succ n ih =>
    intro i acc cs hl hc
    match cs, hl with
    | c :: cs, hl =>
      unfold loadCellsFrom
      have h0 : w.cell? (a.add i) = some c := hc 0 c (by simp)
      rw [Sem.run_bind, run_load1 h0]
      simp only [Result.andThen_ok]
      rw [ih (i + 1) (acc.push c) cs (by simpa using hl) (fun j v hj => by rw [show i + 1 + j = i + (j + 1) from by omega]; exact hc (j + 1) v (by simpa using hj))]
      simp
theorem run_loadVar1 {P : Program} {T : TypeId} {d : TypeDesc} {w : World} {a : Addr} {v : Value} (h : P.underlying T = some d) (hd : aggB d = false) (hc : w.cell? a = some v) : (loadVar T a).run P w = .ok v w := by
  unfold loadVar
  rw [Sem.run_bind, run_isAgg h, Result.andThen_ok, hd]
  exact run_load1 hc
theorem run_loadVarN {P : Program} {T : TypeId} {d : TypeDesc} {s : Nat} {w : World} {a : Addr} {cs : List Value} (h : Ty P T d s) (hd : aggB d = true) (hl : cs.length = s) (hc : ∀ j v, cs[j]? = some v → w.cell? (a.add j) = some v) :
    (loadVar T a).run P w = .ok (.agg cs.toArray) w := by
  unfold loadVar
  rw [Sem.run_bind, run_isAgg h.und, Result.andThen_ok, hd, if_pos rfl, Sem.run_bind, run_sizeOf h.size, Result.andThen_ok]
  unfold loadCells
  rw [Sem.run_bind, run_loadCellsFrom s 0 #[] cs hl (fun j v hj => by rw [Nat.zero_add]; exact hc j v hj), Result.andThen_ok]
  simp [Pure.pure]
section
variable {P : Program} {n : Nat} {w0 : World} {bor : List Nat} {l : Env} {h hs : Mem} {o : Oper} {v : Value}
theorem Sta.cell {w : World} (hS : Sta w0 bor hs w) {a : Addr} (hc : w0.cell? a = some v) (hb : a.block ∉ bor) : w.cell? a = some v := by
  rw [cell_hf] at *
  rw [← hc]
  refine cellF_eq (hS.old a.block ?_ hb)
  rcases Nat.lt_or_ge a.block w0.heap.size with h1 | h1
  · exact h1
  · rw [cellF, show hf w0 a.block = none from Array.getElem?_eq_none h1] at hc; cases hc
theorem Sta.own {w : World} (hS : Sta w0 bor hs w) {i b off : Nat} {cs : Array Value} {T : TypeId} {fr : Nat × Nat} (hi : hs[i]? = some (blk b (.cells cs T fr))) : w.cell? ⟨b, off, none⟩ = cs[off]? := by
  have : hf w b = some (.cells cs T fr) := hS.mine _ (List.mem_of_getElem? hi)
  rw [cell_hf]
  simp [cellF, this]
theorem Sil.load {x : Operand} {T : TypeId} {d : TypeDesc} {a : Addr} (ho : o.op = .load T x) (hx : ev l x = some (.pointer (some a))) (hT : P.underlying T = some d) (hd : aggB d = false) (hc : ∀ w, Sta w0 bor hs w → w.cell? a = some v) : Sil P n w0 bor hs l o v :=
  Sil.of (s := Instr.loadAt T (.pointer (some a))) (fun a' hf => by unfold execOp; simp only [ho, hf.eval hx]) (fun w hS => by
    unfold Instr.loadAt Instr.sureAddr
    exact run_loadVar1 hT hd (hc w hS))
theorem Sil.loadN {x : Operand} {T : TypeId} {d : TypeDesc} {s : Nat} {a : Addr} {cs : List Value} (ho : o.op = .load T x) (hx : ev l x = some (.pointer (some a))) (hT : Ty P T d s) (hd : aggB d = true) (hl : cs.length = s)
    (hc : ∀ w, Sta w0 bor hs w → ∀ j v, cs[j]? = some v → w.cell? (a.add j) = some v) : Sil P n w0 bor hs l o (.agg cs.toArray) :=
  Sil.of (s := Instr.loadAt T (.pointer (some a))) (fun a' hf => by unfold execOp; simp only [ho, hf.eval hx]) (fun w hS => by
    unfold Instr.loadAt Instr.sureAddr
    exact run_loadVarN hT hd hl (hc w hS))
/-- A cell of old memory. -/
theorem Sil.old {x : Operand} {T : TypeId} {d : TypeDesc} {a : Addr} (ho : o.op = .load T x) (hx : ev l x = some (.pointer (some a))) (hT : P.underlying T = some d) (hd : aggB d = false) (hc : w0.cell? a = some v) (hb : a.block ∉ bor) : Sil P n w0 bor hs l o v :=
  Sil.load ho hx hT hd fun _ hS => hS.cell hc hb
theorem Sil.oldN {x : Operand} {T : TypeId} {d : TypeDesc} {s : Nat} {a : Addr} {cs : List Value} (ho : o.op = .load T x) (hx : ev l x = some (.pointer (some a))) (hT : Ty P T d s) (hd : aggB d = true) (hl : cs.length = s)
    (hc : ∀ j v, cs[j]? = some v → w0.cell? (a.add j) = some v) (hb : ∀ j, (a.add j).block ∉ bor) : Sil P n w0 bor hs l o (.agg cs.toArray) :=
  Sil.loadN ho hx hT hd hl fun _ hS j v hj => hS.cell (hc j v hj) (hb j)
/-- A cell of a block of one's own. -/
theorem Sil.own {x : Operand} {T : TypeId} {d : TypeDesc} {b off : Nat} {cs : Array Value} {T' : TypeId} {fr : Nat × Nat} (i : Nat) (ho : o.op = .load T x) (hx : ev l x = some (.pointer (some ⟨b, off, none⟩))) (hi : hs[i]? = some (blk b (.cells cs T' fr)))
    (hT : P.underlying T = some d) (hd : aggB d = false) (hc : cs[off]? = some v) : Sil P n w0 bor hs l o v :=
  Sil.load ho hx hT hd fun w hS => by rw [hS.own hi]; exact hc
/-- The same of a block whose cells are written out. -/
theorem Sil.ownL {x : Operand} {T : TypeId} {d : TypeDesc} {b off : Nat} {cs : List Value} {T' : TypeId} {fr : Nat × Nat} (i : Nat) (ho : o.op = .load T x) (hx : ev l x = some (.pointer (some ⟨b, off, none⟩))) (hi : hs[i]? = some (blk b (.cells cs.toArray T' fr)))
    (hT : P.underlying T = some d) (hd : aggB d = false) (hc : nth cs off = some v) : Sil P n w0 bor hs l o v :=
  Sil.own i ho hx hi hT hd (by rw [nth_eq] at hc; simpa using hc)
/-- The whole of a block of one's own. -/
theorem Sil.whole {x : Operand} {T : TypeId} {d : TypeDesc} {s b : Nat} {cs : Array Value} {T' : TypeId} {fr : Nat × Nat} (i : Nat) (ho : o.op = .load T x) (hx : ev l x = some (.pointer (some ⟨b, 0, none⟩))) (hi : hs[i]? = some (blk b (.cells cs T' fr)))
    (hT : Ty P T d s) (hd : aggB d = true) (hc : cs.size = s) : Sil P n w0 bor hs l o (.agg cs) := by
  have := Sil.loadN (P := P) (n := n) (w0 := w0) (bor := bor) (hs := hs) (l := l) (o := o) (cs := cs.toList) ho hx hT hd (by simpa using hc) fun w hS j v hj => by
    rw [add_lit, Nat.zero_add, hS.own hi]
    simpa using hj
  simpa using this
/-- A struct or an array that lies in the midst of a block of one's own. -/
theorem Sil.ownN {x : Operand} {T : TypeId} {d : TypeDesc} {s b off : Nat} {cs : Array Value} {vs : List Value} {T' : TypeId} {fr : Nat × Nat} (i : Nat) (ho : o.op = .load T x) (hx : ev l x = some (.pointer (some ⟨b, off, none⟩))) (hi : hs[i]? = some (blk b (.cells cs T' fr)))
    (hT : Ty P T d s) (hd : aggB d = true) (hl : vs.length = s) (hc : ∀ j v, vs[j]? = some v → cs[off + j]? = some v) : Sil P n w0 bor hs l o (.agg vs.toArray) :=
  Sil.loadN ho hx hT hd hl fun w hS j v hj => by rw [add_lit, hS.own hi]; exact hc j v hj

/-- A result that lies in a block of its own: an array, a struct. -/
theorem retC {fn : Func} {R : Value → Mem → Prop} {h0 : Mem} {t T : Nat} {d : TypeDesc} {s b : Nat} {cs : Array Value} {T' : TypeId} {fr : Nat × Nat} (i : Nat) (hr : fn.results = #[.cell t T]) (ht : fnd l t = some (.pointer (some ⟨b, 0, none⟩))) (hi : h[i]? = some (blk b (.cells cs T' fr)))
    (hT : Ty P T d s) (hd : aggB d = true) (hc : cs.size = s) (hs : h0.Sublist h) (hR : R (.agg cs) h0) : retK P n w0 bor fn R .ret l h := by
  refine ⟨.agg cs, h0, fun a w hf ho => ?_, hs, hR⟩
  have hl : (loadVar T ⟨b, 0, none⟩).run P w = .ok (.agg cs.toList.toArray) w := run_loadVarN hT hd (by simpa using hc) fun j v hj => by
    rw [add_lit, Nat.zero_add, (ho.sta fun _ h => h).own hi]
    simpa using hj
  simp [results, hr, Array.getD_eq_getD_getElem?, hf.has t _ ht, asAddr, hl]

/-- A slice of integers, as it reads: f. -/
def IntSl (w : World) (a : Option Addr) (len : Nat) (f : Nat → Int) : Prop := ∀ i, i < len → ∃ x, a = some x ∧ w.cell? (x.add i) = some (.int .i64 (f i))
theorem add_block (a : Addr) (n : Nat) : (a.add n).block = a.block := by unfold Addr.add; split <;> rfl
theorem IntSl.at {w w' : World} {a : Option Addr} {len : Nat} {f : Nat → Int} (hd : IntSl w a len f) (ho : Own w bor h w') (hb : ∀ x, a = some x → x.block ∉ bor) : IntSl w' a len f := fun i hi => by
  obtain ⟨x, hx, hc⟩ := hd i hi
  exact ⟨x, hx, (ho.sta (hs := []) (by simp)).cell hc (by rw [add_block]; exact hb x hx)⟩

theorem cell_lt {w : World} {a : Addr} {v : Value} (hc : w.cell? a = some v) : a.block < w.heap.size := by
  rcases Nat.lt_or_ge a.block w.heap.size with h1 | h1
  · exact h1
  · rw [cell_hf, cellF, show hf w a.block = none from Array.getElem?_eq_none h1] at hc; cases hc
theorem Own.fresh {w : World} (ho : Own w0 [] h w) {r : Res} (hr : r ∈ h) {b : Nat} (hb : b ∈ r.ids) : w0.heap.size ≤ b := (ho.fr r hr b hb).resolve_right (by simp)
/-- A new block is none of an old slice's. -/
theorem IntSl.apart {a : Option Addr} {len : Nat} {f : Nat → Int} (hd : IntSl w0 a len f) {b : Nat} (hb : w0.heap.size ≤ b) : ∀ x, a = some x → 0 < len → x.block ≠ b := fun x hx hl => by
  obtain ⟨y, hy, hc⟩ := hd 0 hl
  have := cell_lt hc
  rw [add_block] at this
  rw [hx] at hy
  cases hy
  omega

/-! ### addresses, and what is reckoned without memory -/
theorem Sil.nilCheck {x : Operand} {a : Addr} (ho : o.op = .nilCheck x) (hx : ev l x = some (.pointer (some a))) : Sil P n w0 bor hs l o (.pointer (some a)) := by
  intro a' w hf _
  unfold execOp
  simp only [ho, hf.eval hx]
  rfl
theorem Sil.fieldAddr {x : Operand} {T : TypeId} {s off ft : Nat} {a : Addr} {fs : Array Field} (f : Nat) (ho : o.op = .fieldAddr T x f) (hx : ev l x = some (.pointer (some a))) (hT : P.underlying T = some (.struct fs))
    (hf' : (fs[f]?).map (fun g => (g.type, g.offset)) = some (ft, off)) (hs' : (P.info? ft).map (·.size) = some (s + 1)) : Sil P n w0 bor hs l o (.pointer (some (a.add off))) :=
  Sil.of (s := Instr.fieldAt T (.pointer (some a)) f) (fun a' hf => by unfold execOp; simp only [ho, hf.eval hx]) (fun w _ => by
    unfold Instr.fieldAt
    rw [Sem.run_bind, run_underlying' hT, Result.andThen_ok]
    cases hg : fs[f]? with
    | none => rw [hg] at hf'; cases hf'
    | some g =>
      rw [hg] at hf'
      simp only [Option.map_some, Option.some.injEq, Prod.mk.injEq] at hf'
      obtain ⟨h1, h2⟩ := hf'
      subst h1 h2
      simp only [hg]
      show ((fieldPlace a g >>= fun p => pure (Value.pointer (some p))) : Sem Value).run P w = _
      unfold fieldPlace
      rw [Sem.run_bind, Sem.run_bind, run_sizeOf hs', Result.andThen_ok, if_neg (Nat.succ_ne_zero s)]
      rfl)
theorem Sil.indexArr {x y : Operand} {T e : TypeId} {len s : Nat} {a : Addr} {k : IntKind} (j : Nat) {i : Int} (ho : o.op = .indexAddr T x y) (hx : ev l x = some (.pointer (some a))) (hy : ev l y = some (.int k i)) (hT : P.underlying T = some (.array len e))
    (hs' : (P.info? e).map (·.size) = some s) (hi : i = (j : Int)) (hj : j < len) : Sil P n w0 bor hs l o (.pointer (some (a.add (j * s)))) :=
  Sil.of (s := Instr.indexAt T (.pointer (some a)) (.int k i)) (fun a' hf => by unfold execOp; simp only [ho, hf.eval hx, hf.eval hy]) (fun w _ => by
    unfold Instr.indexAt
    subst hi
    simp only [asIntOf]
    show (((underlying T >>= fun d => _) : Sem Value)).run P w = _
    rw [Sem.run_bind, run_underlying' hT, Result.andThen_ok]
    have h0 : (0 : Int) ≤ (j : Int) ∧ (j : Int) < (len : Int) := by omega
    simp only [Instr.sureAddr]
    show ((underlying T >>= fun d => _) : Sem Value).run P w = _
    rw [Sem.run_bind, run_underlying' hT, Result.andThen_ok]
    simp only [h0, and_self, if_true]
    show ((sizeOf e >>= fun s => pure (Value.pointer (some (a.add ((j : Int).toNat * s))))) : Sem Value).run P w = _
    rw [Sem.run_bind, run_sizeOf hs', Result.andThen_ok]
    rfl)
end
section
variable {P : Program} {n : Nat} {w0 : World} {bor : List Nat} {l : Env} {h hs : Mem} {o : Oper} {v : Value}
theorem Sil.indexSl {x y : Operand} {T e : TypeId} {len cap s : Nat} {a : Addr} {k : IntKind} (j : Nat) {i : Int} (ho : o.op = .indexAddr T x y) (hx : ev l x = some (.slice (some a) len cap)) (hy : ev l y = some (.int k i)) (hT : P.underlying T = some (.slice e))
    (hs' : (P.info? e).map (·.size) = some s) (hi : i = (j : Int)) (hj : j < len) : Sil P n w0 bor hs l o (.pointer (some (a.add (j * s)))) :=
  Sil.of (s := Instr.indexAt T (.slice (some a) len cap) (.int k i)) (fun a' hf => by unfold execOp; simp only [ho, hf.eval hx, hf.eval hy]) (fun w _ => by
    unfold Instr.indexAt
    subst hi
    simp only [asIntOf]
    show (((underlying T >>= fun d => _) : Sem Value)).run P w = _
    rw [Sem.run_bind, run_underlying' hT, Result.andThen_ok]
    have h0 : (0 : Int) ≤ (j : Int) ∧ (j : Int) < (len : Int) := by omega
    show ((underlying T >>= fun d => _) : Sem Value).run P w = _
    rw [Sem.run_bind, run_underlying' hT, Result.andThen_ok]
    simp only [h0, and_self, if_true]
    show ((sizeOf e >>= fun s => pure (Value.pointer (some (a.add ((j : Int).toNat * s))))) : Sem Value).run P w = _
    rw [Sem.run_bind, run_sizeOf hs', Result.andThen_ok]
    rfl)
/-- The same at a slice that begins at a block's head: the address written out. -/
theorem Sil.indexOwn {x y : Operand} {T e : TypeId} {b len cap s : Nat} {k : IntKind} (j : Nat) {i : Int} (ho : o.op = .indexAddr T x y) (hx : ev l x = some (.slice (some ⟨b, 0, none⟩) len cap)) (hy : ev l y = some (.int k i)) (hT : P.underlying T = some (.slice e))
    (hs' : (P.info? e).map (·.size) = some s) (hi : i = (j : Int)) (hj : j < len) : Sil P n w0 bor hs l o (.pointer (some ⟨b, j * s, none⟩)) := by
  have := Sil.indexSl (n := n) (w0 := w0) (bor := bor) (hs := hs) j ho hx hy hT hs' hi hj
  rwa [add_lit, Nat.zero_add] at this
theorem Sil.indexLoc {x y : Operand} {T e : TypeId} {len s b : Nat} {k : IntKind} (j : Nat) {i : Int} (ho : o.op = .indexAddr T x y) (hx : ev l x = some (.pointer (some ⟨b, 0, none⟩))) (hy : ev l y = some (.int k i)) (hT : P.underlying T = some (.array len e))
    (hs' : (P.info? e).map (·.size) = some s) (hi : i = (j : Int)) (hj : j < len) : Sil P n w0 bor hs l o (.pointer (some ⟨b, j * s, none⟩)) := by
  have := Sil.indexArr (n := n) (w0 := w0) (bor := bor) (hs := hs) j ho hx hy hT hs' hi hj
  rwa [add_lit, Nat.zero_add] at this
/-- Elements of one cell. -/
theorem Sil.indexLoc1 {x y : Operand} {T e : TypeId} {len b : Nat} {k : IntKind} (j : Nat) {i : Int} (ho : o.op = .indexAddr T x y) (hx : ev l x = some (.pointer (some ⟨b, 0, none⟩))) (hy : ev l y = some (.int k i)) (hT : P.underlying T = some (.array len e))
    (hs' : (P.info? e).map (·.size) = some 1) (hi : i = (j : Int)) (hj : j < len) : Sil P n w0 bor hs l o (.pointer (some ⟨b, j, none⟩)) := by
  have := Sil.indexLoc (n := n) (w0 := w0) (bor := bor) (hs := hs) j ho hx hy hT hs' hi hj
  rwa [Nat.mul_one] at this
theorem Sil.indexOwn1 {x y : Operand} {T e : TypeId} {b len cap : Nat} {k : IntKind} (j : Nat) {i : Int} (ho : o.op = .indexAddr T x y) (hx : ev l x = some (.slice (some ⟨b, 0, none⟩) len cap)) (hy : ev l y = some (.int k i)) (hT : P.underlying T = some (.slice e))
    (hs' : (P.info? e).map (·.size) = some 1) (hi : i = (j : Int)) (hj : j < len) : Sil P n w0 bor hs l o (.pointer (some ⟨b, j, none⟩)) := by
  have := Sil.indexOwn (n := n) (w0 := w0) (bor := bor) (hs := hs) j ho hx hy hT hs' hi hj
  rwa [Nat.mul_one] at this
theorem Sil.indexSl1 {x y : Operand} {T e : TypeId} {len cap : Nat} {a : Addr} {k : IntKind} (j : Nat) {i : Int} (ho : o.op = .indexAddr T x y) (hx : ev l x = some (.slice (some a) len cap)) (hy : ev l y = some (.int k i)) (hT : P.underlying T = some (.slice e))
    (hs' : (P.info? e).map (·.size) = some 1) (hi : i = (j : Int)) (hj : j < len) : Sil P n w0 bor hs l o (.pointer (some (a.add j))) := by
  have := Sil.indexSl (n := n) (w0 := w0) (bor := bor) (hs := hs) j ho hx hy hT hs' hi hj
  rwa [Nat.mul_one] at this
theorem Sil.fieldLoc {x : Operand} {T : TypeId} {s off ft b m : Nat} {fs : Array Field} (f : Nat) (ho : o.op = .fieldAddr T x f) (hx : ev l x = some (.pointer (some ⟨b, m, none⟩))) (hT : P.underlying T = some (.struct fs))
    (hf' : (fs[f]?).map (fun g => (g.type, g.offset)) = some (ft, off)) (hs' : (P.info? ft).map (·.size) = some (s + 1)) : Sil P n w0 bor hs l o (.pointer (some ⟨b, m + off, none⟩)) := by
  have := Sil.fieldAddr (n := n) (w0 := w0) (bor := bor) (hs := hs) f ho hx hT hf' hs'
  rwa [add_lit] at this
theorem Sil.fieldAdd {x : Operand} {T : TypeId} {s off ft m : Nat} {a : Addr} {fs : Array Field} (f : Nat) (ho : o.op = .fieldAddr T x f) (hx : ev l x = some (.pointer (some (a.add m)))) (hT : P.underlying T = some (.struct fs))
    (hf' : (fs[f]?).map (fun g => (g.type, g.offset)) = some (ft, off)) (hs' : (P.info? ft).map (·.size) = some (s + 1)) : Sil P n w0 bor hs l o (.pointer (some (a.add (m + off)))) := by
  have := Sil.fieldAddr (n := n) (w0 := w0) (bor := bor) (hs := hs) f ho hx hT hf' hs'
  rwa [add_add] at this
theorem Sil.extract {x : Operand} {i : Nat} {vs : List Value} (ho : o.op = .extract x i) (hx : ev l x = some (.tuple vs.toArray)) (hv : nth vs i = some v) : Sil P n w0 bor hs l o v :=
  Sil.of (s := Instr.extract (.tuple vs.toArray) i) (fun a hf => by unfold execOp; simp only [ho, hf.eval hx]) (fun w _ => by rw [nth_eq] at hv; simp [Instr.extract, hv])
theorem Sil.convw {x : Operand} {S T : TypeId} {k k' : IntKind} {i : Int} {d : TypeDesc} (ho : o.op = .convert S T x) (hx : ev l x = some (.int k i)) (hS : P.underlying S = some d) (hT : P.underlying T = some (.int k')) : Sil P n w0 bor hs l o (.int k' (k'.wrap i)) :=
  Sil.of (s := convert S T (.int k i)) (fun a hf => by unfold execOp; simp only [ho, hf.eval hx]) (fun w _ => by
    unfold convert
    rw [Sem.run_bind, run_underlying' hS, Result.andThen_ok, Sem.run_bind, run_underlying' hT, Result.andThen_ok]
    cases d <;> rfl)
theorem Sil.conv {x : Operand} {S T : TypeId} {k k' : IntKind} {i : Int} {d : TypeDesc} (ho : o.op = .convert S T x) (hx : ev l x = some (.int k i)) (hS : P.underlying S = some d) (hT : P.underlying T = some (.int k')) (hi : k'.wrap i = i) : Sil P n w0 bor hs l o (.int k' i) := by
  have := Sil.convw (n := n) (w0 := w0) (bor := bor) (hs := hs) ho hx hS hT
  rwa [hi] at this
/-- A builtin whose answer hangs on its operands alone. -/
theorem Sil.builtin1 {b : Builtin} {x : Operand} {ts : Array TypeId} {u : Value} {s : Sem Value} (ho : o.op = .call { callee := .builtin b, args := #[x], argTypes := ts }) (hx : ev l x = some u)
    (hb : ∀ c, builtin b ts o.type c #[u] = (do pure (.value (← s)))) (hv : ∀ w, s.run P w = .ok v w) : Sil P n w0 bor hs l o v :=
  Sil.of (s := s) (fun a hf => by
    unfold execOp
    simp only [ho, resolve]
    simp only [List.map_toArray, List.map_cons, List.map_nil, hf.eval hx]
    exact hb _) (fun w _ => hv w)
theorem Sil.builtin2 {b : Builtin} {x y : Operand} {ts : Array TypeId} {u u' : Value} {s : Sem Value} (ho : o.op = .call { callee := .builtin b, args := #[x, y], argTypes := ts }) (hx : ev l x = some u) (hy : ev l y = some u')
    (hb : ∀ c, builtin b ts o.type c #[u, u'] = (do pure (.value (← s)))) (hv : ∀ w, s.run P w = .ok v w) : Sil P n w0 bor hs l o v :=
  Sil.of (s := s) (fun a hf => by
    unfold execOp
    simp only [ho, resolve]
    simp only [List.map_toArray, List.map_cons, List.map_nil, hf.eval hx, hf.eval hy]
    exact hb _) (fun w _ => hv w)
theorem Sil.lenSl {x : Operand} {T e : TypeId} {a : Option Addr} {len cap : Nat} (ho : o.op = .call { callee := .builtin .len, args := #[x], argTypes := #[T] }) (hx : ev l x = some (.slice a len cap)) (hT : P.underlying T = some (.slice e)) : Sil P n w0 bor hs l o (.int .i64 len) :=
  Sil.builtin1 (s := Builtin.len_ #[T] o.type #[.slice a len cap]) ho hx (fun _ => rfl) fun w => by
    unfold Builtin.len_
    show ((underlying T >>= fun d => _) : Sem Value).run P w = _
    rw [Sem.run_bind, run_underlying' hT, Result.andThen_ok]
    rfl
theorem Sil.maxI {x y : Operand} {ts : Array TypeId} {k k' : IntKind} {i j : Int} (ho : o.op = .call { callee := .builtin .max, args := #[x, y], argTypes := ts }) (hx : ev l x = some (.int k i)) (hy : ev l y = some (.int k' j)) : Sil P n w0 bor hs l o (.int k (max i j)) :=
  Sil.builtin2 (s := Builtin.max_ ts o.type #[.int k i, .int k' j]) ho hx hy (fun _ => rfl) fun w => by
    have : (if j > i then j else i) = max i j := by omega
    simp [Builtin.max_, Builtin.max2, this]
theorem Sil.minI {x y : Operand} {ts : Array TypeId} {k k' : IntKind} {i j : Int} (ho : o.op = .call { callee := .builtin .min, args := #[x, y], argTypes := ts }) (hx : ev l x = some (.int k i)) (hy : ev l y = some (.int k' j)) : Sil P n w0 bor hs l o (.int k (min i j)) :=
  Sil.builtin2 (s := Builtin.min_ ts o.type #[.int k i, .int k' j]) ho hx hy (fun _ => rfl) fun w => by
    have : (if j < i then j else i) = min i j := by omega
    simp [Builtin.min_, Builtin.min2, this]
/-- A field of a struct that is a value. -/
theorem Sil.field {x : Operand} {T : TypeId} {off ft : Nat} {fs : Array Field} {cs : List Value} {d : TypeDesc} (f : Nat) (ho : o.op = .field T x f) (hx : ev l x = some (.agg cs.toArray)) (hT : P.underlying T = some (.struct fs))
    (hf' : (fs[f]?).map (fun g => (g.type, g.offset)) = some (ft, off)) (hF : P.underlying ft = some d) (hd : aggB d = false) (hv : nth cs off = some v) : Sil P n w0 bor hs l o v :=
  Sil.of (s := Instr.field T (.agg cs.toArray) f) (fun a' hf => by unfold execOp; simp only [ho, hf.eval hx]) (fun w _ => by
    unfold Instr.field
    rw [Sem.run_bind, run_underlying' hT, Result.andThen_ok]
    cases hg : fs[f]? with
    | none => rw [hg] at hf'; cases hf'
    | some g =>
      rw [hg] at hf'
      simp only [Option.map_some, Option.some.injEq, Prod.mk.injEq] at hf'
      obtain ⟨h1, h2⟩ := hf'
      subst h1 h2
      simp only [hg]
      show (part g.type cs.toArray g.offset).run P w = _
      unfold part
      rw [nth_eq] at hv
      have hv' : cs.toArray[g.offset]? = some v := by simpa using hv
      rw [Sem.run_bind, run_isAgg hF, Result.andThen_ok, hd, if_neg (by simp), hv']
      rfl)
theorem Sil.index {x y : Operand} {T e : TypeId} {len : Nat} {cs : Array Value} {k : IntKind} {d : TypeDesc} (j : Nat) {i : Int} (ho : o.op = .index T x y) (hx : ev l x = some (.agg cs)) (hy : ev l y = some (.int k i)) (hT : P.underlying T = some (.array len e))
    (he : Ty P e d 1) (hd : aggB d = false) (hi : i = (j : Int)) (hj : j < len) (hv : cs[j]? = some v) : Sil P n w0 bor hs l o v :=
  Sil.of (s := Instr.index T (.agg cs) (.int k i)) (fun a' hf => by unfold execOp; simp only [ho, hf.eval hx, hf.eval hy]) (fun w _ => by
    unfold Instr.index
    subst hi
    simp only [asIntOf]
    show (((underlying T >>= fun d => _) : Sem Value)).run P w = _
    rw [Sem.run_bind, run_underlying' hT, Result.andThen_ok]
    have h0 : (0 : Int) ≤ (j : Int) ∧ (j : Int) < (len : Int) := by omega
    simp only [h0, and_self, if_true]
    show ((sizeOf e >>= fun s => part e cs ((j : Int).toNat * s)) : Sem Value).run P w = _
    rw [Sem.run_bind, run_sizeOf he.size, Result.andThen_ok, Nat.mul_one]
    unfold part
    rw [Sem.run_bind, run_isAgg he.und, Result.andThen_ok, hd, if_neg (by simp), show (j : Int).toNat = j from rfl, hv]
    rfl)
theorem Sil.build {T : TypeId} {ps : List (Nat × Operand)} {vs : List (Nat × Value)} {cs : Array Value} (ho : o.op = .build T ps.toArray) (hp : ps.map (fun p => (p.1, ev l p.2)) = vs.map (fun p => (p.1, some p.2)))
    (hb : ∀ w, (Instr.build T vs.toArray).run P w = .ok (.agg cs) w) : Sil P n w0 bor hs l o (.agg cs) :=
  Sil.of (s := Instr.build T vs.toArray) (fun a hf => by
    have : ps.map (fun p => (p.1, a.eval p.2)) = vs := by
      clear hb ho
      induction ps generalizing vs with
      | nil => cases vs with
        | nil => rfl
        | cons _ _ => cases hp
      | cons p ps ih => cases vs with
        | nil => cases hp
        | cons v vs =>
          simp only [List.map_cons, List.cons.injEq, Prod.mk.injEq] at hp ⊢
          refine ⟨?_, ih hp.2⟩
          rw [hf.eval hp.1.2, hp.1.1]
    unfold execOp
    simp only [ho, List.map_toArray, this]) (fun w _ => hb w)

theorem run_sizes (w : World) : ∀ (fl : List Field) (ss : List Nat), fl.map (fun f => (P.info? f.type).map (·.size)) = ss.map some → (fl.mapM fun f => (do pure (f.offset, ← sizeOf f.type) : Sem (Nat × Nat))).run P w = .ok ((fl.map (·.offset)).zip ss) w
  | [], ss, h => by
    cases ss with
    | nil => rfl
    | cons _ _ => cases h
  | f :: fl, ss, h => by
    cases ss with
    | nil => cases h
    | cons s ss =>
      simp only [List.map_cons, List.cons.injEq] at h
      rw [List.mapM_cons, Sem.run_bind, Sem.run_bind, run_sizeOf h.1, Result.andThen_ok, Sem.run_pure, Result.andThen_ok, Sem.run_bind, run_sizes w fl ss h.2, Result.andThen_ok]
      rfl
/-- A struct, made of its parts. -/
theorem run_buildS {T : TypeId} {fl : List Field} {z : Value} {ss : List Nat} {vs : List (Nat × Value)} {cs : Array Value} (hT : P.underlying T = some (.struct fl.toArray)) (hz : (P.info? T).bind (·.zero) = some z)
    (hs : fl.map (fun f => (P.info? f.type).map (·.size)) = ss.map some) (hf : Instr.fill (fun i => ((fl.map (·.offset)).zip ss).toArray[i]?) z.cells vs = some cs) (w : World) : (Instr.build T vs.toArray).run P w = .ok (.agg cs) w := by
  have hzero : (zeroValue T).run P w = .ok z w := by
    cases hi : P.info? T with
    | none => rw [hi] at hz; cases hz
    | some i =>
      rw [hi] at hz
      have hz' : i.zero = some z := hz
      simp [zeroValue, typeInfo, program, Sem.run, hi, hz', Bind.bind, Sem.bind, Pure.pure]
  unfold Instr.build
  rw [Sem.run_bind, hzero, Result.andThen_ok, Sem.run_bind, run_underlying' hT, Result.andThen_ok]
  simp only [List.mapM_toArray]
  rw [Sem.run_bind, Sem.run_map, run_sizes w fl ss hs]
  simp only [Result.andThen_ok, hf]
  rfl
theorem Sil.buildS {T : TypeId} {fl : List Field} {z : Value} {ss : List Nat} {ps : List (Nat × Operand)} {vs : List (Nat × Value)} {cs : Array Value} (ho : o.op = .build T ps.toArray) (hp : ps.map (fun p => (p.1, ev l p.2)) = vs.map (fun p => (p.1, some p.2)))
    (hT : P.underlying T = some (.struct fl.toArray)) (hz : (P.info? T).bind (·.zero) = some z)
    (hs' : fl.map (fun f => (P.info? f.type).map (·.size)) = ss.map some) (hf : Instr.fill (fun i => ((fl.map (·.offset)).zip ss).toArray[i]?) z.cells vs = some cs) : Sil P n w0 bor hs l o (.agg cs) :=
  Sil.build ho hp (run_buildS hT hz hs' hf)

/-! ### loud operations -/
def oneC : Value → Bool
  | .agg _ => false
  | .tuple _ => false
  | _ => true
theorem run_store1 {P : Program} {w : World} {a : Addr} {v u : Value} (hv : oneC v = true) (hc : w.cell? a = some u) (hfz : w.frozen? a = false) : (store a v).run P w = .ok () (w.setCell a v) := by
  cases v <;> simp_all [store, Sem.run, oneC]
def putCells (cs : Array Value) (off : Nat) : List Value → Array Value
  | [] => cs
  | v :: vs => putCells (cs.setIfInBounds off v) (off + 1) vs
theorem size_putCells : ∀ (vs : List Value) (cs : Array Value) (off : Nat), (putCells cs off vs).size = cs.size
  | [], _, _ => rfl
  | v :: vs, cs, off => by rw [putCells, size_putCells vs]; simp
theorem get_putCells : ∀ (vs : List Value) (cs : Array Value) (off j : Nat), off + vs.length ≤ cs.size → (putCells cs off vs)[j]? = if off ≤ j ∧ j < off + vs.length then vs[j - off]? else cs[j]?
  | [], cs, off, j, _ => by rw [putCells, if_neg (by simp only [List.length_nil]; omega)]
  | v :: vs, cs, off, j, h => by
    simp only [List.length_cons] at h ⊢
    rw [putCells, get_putCells vs _ _ _ (by simp only [Array.size_setIfInBounds]; omega), Array.getElem?_setIfInBounds]
    by_cases e : off = j
    · subst e
      rw [if_neg (by omega), if_pos rfl, if_pos (by omega), if_pos (by omega), Nat.sub_self]
      rfl
    · by_cases h2 : off + 1 ≤ j ∧ j < off + 1 + vs.length
      · rw [if_pos h2, if_pos (by omega), show j - off = (j - (off + 1)) + 1 from by omega]
        rfl
      · rw [if_neg h2, if_neg e, if_neg (by omega)]
theorem putCells_all (cs cs' : Array Value) (h : cs'.size = cs.size) : putCells cs 0 cs'.toList = cs' := by
  apply Array.ext_getElem?
  intro j
  rw [get_putCells _ _ _ _ (by simp [h])]
  split
  · simp
  · rename_i hj
    rw [Array.length_toList] at hj
    rw [Array.getElem?_eq_none (by omega), Array.getElem?_eq_none (by omega)]
theorem hf_setCell (w : World) (b off : Nat) (v : Value) (cs : Array Value) (T : TypeId) (fr : Nat × Nat) (hb : hf w b = some (.cells cs T fr)) : hf (w.setCell ⟨b, off, none⟩ v) = fun k => if k = b then some (.cells (cs.setIfInBounds off v) T fr) else hf w k := by
  funext k
  simp only [hf, World.setCell, Array.getElem?_modify]
  by_cases e : k = b
  · have hb' : w.heap[b]? = some (.cells cs T fr) := hb
    rw [if_pos e, if_pos e.symm, e, hb']
    rfl
  · rw [if_neg e, if_neg (fun e' => e e'.symm)]
theorem run_storeCells {P : Program} : ∀ (vs : List Value) (i : Nat) (w : World) (b off : Nat) (cs : Array Value) (T : TypeId), (∀ v ∈ vs, oneC v = true) → hf w b = some (.cells cs T (0, 0)) → off + i + vs.length ≤ cs.size →
    ∃ w', (storeCells ⟨b, off, none⟩ vs i).run P w = .ok () w' ∧ w'.os = w.os ∧ w'.tape = w.tape ∧ w'.output = w.output ∧ w'.heap.size = w.heap.size ∧ hf w' = fun k => if k = b then some (.cells (putCells cs (off + i) vs) T (0, 0)) else hf w k
  | [], i, w, b, off, cs, T, _, hb, _ => ⟨w, rfl, rfl, rfl, rfl, rfl, by funext k; by_cases e : k = b; (rw [if_pos e, e, hb]; rfl); rw [if_neg e]⟩
  | v :: vs, i, w, b, off, cs, T, h1, hb, hl => by
    have hlt : off + i < cs.size := by simp only [List.length_cons] at hl; omega
    have hc : w.cell? ⟨b, off + i, none⟩ = some cs[off + i] := by rw [cell_hf]; simp [cellF, hb, hlt]
    have hz : w.frozen? ⟨b, off + i, none⟩ = false := by
      have hb' : w.heap[b]? = some (.cells cs T (0, 0)) := hb
      simp [World.frozen?, hb']
    have hset := hf_setCell w b (off + i) v cs T (0, 0) hb
    obtain ⟨w', hr, e1, e2, e3, e4, e5⟩ := run_storeCells (P := P) vs (i + 1) (w.setCell ⟨b, off + i, none⟩ v) b off (cs.setIfInBounds (off + i) v) T (fun u hu => h1 u (by simp [hu])) (by rw [hset]; simp) (by simp only [List.length_cons] at hl; simp only [Array.size_setIfInBounds]; omega)
    refine ⟨w', ?_, e1, e2, e3, e4.trans (by simp [World.setCell]), ?_⟩
    · unfold storeCells
      rw [Sem.run_bind, add_lit, run_store1 (h1 v (by simp)) hc hz, Result.andThen_ok]
      exact hr
    · rw [e5, hset]
      funext k
      simp only [putCells, Nat.add_assoc]
      split <;> rfl
theorem LO.store {x y : Operand} {T : TypeId} {s b off : Nat} {cs : Array Value} {T' : TypeId} (i : Nat) (ho : o.op = .store T x y) (hx : ev l x = some (.pointer (some ⟨b, off, none⟩))) (hy : ev l y = some v) (hi : h[i]? = some (blk b (.cells cs T' (0, 0))))
    (hT : (P.info? T).map (·.size) = some s) (hl : v.cells.size = s) (h1 : ∀ u ∈ v.cells.toList, oneC u = true) (hfit : off + s ≤ cs.size) :
    LO P n w0 bor h l o fun u h' => u = undef ∧ h' = h.set i (blk b (.cells (putCells cs off v.cells.toList) T' (0, 0))) := by
  intro a w hf ho' K Q hk
  have hb : Go.Cru.hf w b = some (.cells cs T' (0, 0)) := ho'.mine _ (List.mem_of_getElem? hi)
  obtain ⟨w', hr, e1, e2, e3, e4, e5⟩ := run_storeCells (P := P) v.cells.toList 0 w b off cs T' h1 hb (by rw [Array.length_toList]; omega)
  have hrun : (execOp a.eval o).run P w = .ok .skip w' := by
    unfold execOp
    simp only [ho, hf.eval hx, hf.eval hy]
    show ((Instr.storeAt T (.pointer (some ⟨b, off, none⟩)) v >>= fun _ => pure Next.skip) : Sem Next).run P w = _
    rw [Sem.run_bind]
    have : (Instr.storeAt T (.pointer (some ⟨b, off, none⟩)) v).run P w = .ok () w' := by
      unfold Instr.storeAt Instr.sureAddr
      show (storeVar T ⟨b, off, none⟩ v).run P w = _
      unfold storeVar
      rw [Sem.run_bind, run_sizeOf hT, Result.andThen_ok, hl]
      simp only [ne_eq, not_true_eq_false, if_false]
      exact hr
    rw [this]
    rfl
  unfold Oper.wp
  rw [hrun]
  refine hk undef w' _ ⟨rfl, rfl⟩ (ho'.set hi rfl e1 e2 e3 e4 (fun k hk' => ?_) ?_)
  · have := congrFun e5 k
    simp only [Go.Cru.hf] at this
    rw [this, if_neg (fun e => hk' (by simp [blk, e]))]
  · show Go.Cru.hf w' b = _
    rw [e5]
    simp
/-- The same, what lies there behind it spelled otherwise. -/
theorem LO.storeAs {x y : Operand} {T : TypeId} {s b off : Nat} {cs : Array Value} {T' : TypeId} (i : Nat) (cs' : Array Value) (ho : o.op = .store T x y) (hx : ev l x = some (.pointer (some ⟨b, off, none⟩))) (hy : ev l y = some v) (hi : h[i]? = some (blk b (.cells cs T' (0, 0))))
    (hT : (P.info? T).map (·.size) = some s) (hl : v.cells.size = s) (h1 : ∀ u ∈ v.cells.toList, oneC u = true) (hfit : off + s ≤ cs.size) (hcs : putCells cs off v.cells.toList = cs') :
    LO P n w0 bor h l o fun u h' => u = undef ∧ h' = h.set i (blk b (.cells cs' T' (0, 0))) := by
  subst hcs
  exact LO.store i ho hx hy hi hT hl h1 hfit
theorem Own.block {w : World} (ho : Own w0 bor h w) (cs : Array Value) (T : TypeId) : Own w0 bor (h ++ [blk w.heap.size (.cells cs T (0, 0))]) { w with heap := w.heap.push (.cells cs T) } :=
  ho.new _ _ rfl (show (w.heap.push _)[w.heap.size]? = _ from Array.getElem?_push_size)
theorem LO.of_value {s : Sem Value} {R : Value → Mem → Prop} (he : ∀ a : Act, Fr n l a → execOp a.eval o = (do pure (.value (← s)))) (hr : ∀ w, Own w0 bor h w → ∃ v w' h', s.run P w = .ok v w' ∧ R v h' ∧ Own w0 bor h' w') : LO P n w0 bor h l o R := by
  intro a w hf ho K Q hk
  obtain ⟨v, w', h', h1, h2, h3⟩ := hr w ho
  unfold Oper.wp
  rw [he a hf, Sem.run_bind, h1]
  exact hk v w' h' h2 h3
theorem LO.box {x : Operand} {T : TypeId} (ho : o.op = .box T x) (hx : ev l x = some v) : LO P n w0 bor h l o fun u h' => ∃ b, w0.heap.size ≤ b ∧ u = .pointer (some ⟨b, 0, none⟩) ∧ h' = h ++ [blk b (.cells v.cells T (0, 0))] :=
  LO.of_value (s := Instr.box T v) (fun a hf => by unfold execOp; simp only [ho, hf.eval hx]) fun w ho' =>
    ⟨_, _, _, rfl, ⟨w.heap.size, ho'.size, rfl, rfl⟩, ho'.block _ _⟩
theorem LO.alloc {T : TypeId} {z : Value} (ho : o.op = .alloc T) (hz : (P.info? T).bind (·.zero) = some z) : LO P n w0 bor h l o fun u h' => ∃ b, w0.heap.size ≤ b ∧ u = .pointer (some ⟨b, 0, none⟩) ∧ h' = h ++ [blk b (.cells z.cells T (0, 0))] :=
  LO.of_value (s := Instr.alloc T true (.tuple #[])) (fun a hf => by unfold execOp; simp only [ho]) fun w ho' => by
    refine ⟨_, _, _, ?_, ⟨w.heap.size, ho'.size, rfl, rfl⟩, ho'.block _ _⟩
    unfold Instr.alloc
    cases hi : P.info? T with
    | none => rw [hi] at hz; cases hz
    | some i =>
      rw [hi] at hz
      have hz' : i.zero = some z := hz
      simp [zeroValue, typeInfo, program, Sem.run, hi, hz', newVar, newRow, newObj, Bind.bind, Sem.bind, Pure.pure]
/-- A function that a plain call enters. -/
def Enters (P : Program) (f : FuncId) : Prop := ∀ args w, (callFunc f args).run P w = .ok (.enter f args) w
theorem enters {f : FuncId} {fn : Func} (hf : P.funcs[f]? = some fn) (hn : (fn.name == "runtime.NumGoroutine") = false) (hb : fn.body.isNone = false) : Enters P f := by
  intro args w
  have hn' : fn.name ≠ "runtime.NumGoroutine" := fun e => by rw [e] at hn; simp at hn
  have hb' : fn.body ≠ none := fun e => by rw [e] at hb; simp at hb
  simp [callFunc, program, Sem.run, hf, hn', hb', Bind.bind, Sem.bind, Pure.pure]
theorem LO.call_core {f : FuncId} {vs : List Value} {R : Value → Mem → Prop} (he : ∀ a : Act, Fr n l a → ∀ w, (execOp a.eval o).run P w = .ok (.enter f vs.toArray) w)
    (hr : ∀ w, Own w0 bor h w → Calls P f vs.toArray w fun e w' => ∃ v h', e = .returned v ∧ R v h' ∧ Own w0 bor h' w') : LO P n w0 bor h l o R := by
  intro a w hf ho K Q hk
  unfold Oper.wp
  rw [he a hf w]
  simp only [Oper.upon]
  refine Calls.mono (hr w ho) fun e w' ⟨v, h', he', hR, ho'⟩ => ?_
  subst he'
  exact hk v w' h' hR ho'
theorem run_call {f : FuncId} {as : Array Operand} {ts : Array TypeId} {vs : Array Value} (ho : o.op = .call { callee := .value (.func f), args := as, argTypes := ts }) (hc : Enters P f) {a : Act} (hv : as.map a.eval = vs) (w : World) : (execOp a.eval o).run P w = .ok (.enter f vs) w := by
  unfold execOp
  simp only [ho, resolve, hv]
  show (invoke (.fn (.func f) #[]) (#[] ++ vs)).run P w = _
  have := hc (vs ++ #[]) w
  simpa [invoke] using this
/-- A call that is lent nothing. -/
theorem LO.calls {f : FuncId} {as : List Operand} {ts : Array TypeId} {vs : List Value} {R : Value → Mem → Prop} (ho : o.op = .call { callee := .value (.func f), args := as.toArray, argTypes := ts }) (hc : Enters P f) (hv : as.map (ev l) = vs.map some)
    (hr : ∀ w, Own w0 bor h w → Gives P f vs w [] R) : LO P n w0 bor h l o fun u h' => ∃ h1, R u h1 ∧ h' = h ++ h1 := by
  refine LO.call_core (f := f) (vs := vs) (fun a hf w => run_call ho hc ?_ w) fun w ho' => Calls.mono (hr w ho') fun e w' ⟨v, h1, he, hR, ho1⟩ => ⟨v, h ++ h1, he, ⟨h1, hR, rfl⟩, ho'.call ho1⟩
  simp only [List.map_toArray]
  congr 1
  clear hr ho hc
  induction as generalizing vs with
  | nil => cases vs with
    | nil => rfl
    | cons _ _ => cases hv
  | cons x as ih => cases vs with
    | nil => cases hv
    | cons v vs =>
      simp only [List.map_cons, List.cons.injEq] at hv ⊢
      exact ⟨hf.eval hv.1, ih hv.2⟩
/-- A call that gives back a value alone. -/
theorem LO.pure {f : FuncId} {as : List Operand} {ts : Array TypeId} {vs : List Value} {u : Value} (ho : o.op = .call { callee := .value (.func f), args := as.toArray, argTypes := ts }) (hc : Enters P f) (hv : as.map (ev l) = vs.map some)
    (hr : ∀ w, Own w0 bor h w → Gives P f vs w [] fun v h1 => v = u ∧ h1 = []) : LO P n w0 bor h l o fun v h' => v = u ∧ h' = h := by
  intro a w hf ho' K Q hk
  refine LO.calls ho hc hv hr a w hf ho' K Q fun v w' h' hR hown => ?_
  obtain ⟨h1, ⟨rfl, rfl⟩, rfl⟩ := hR
  exact hk v w' h ⟨rfl, rfl⟩ (by rw [List.append_nil] at hown; exact hown)
theorem OL_pure {ops : Array Oper} {Q : Exit → Act → World → Prop} {rest : List Oper} {d : Nat} {u : Value} (hw : want ops l o = some true) (hd : o.dst = some d) (hlt : Nat.blt d n = true) (hs' : LO P n w0 bor h l o fun v h' => v = u ∧ h' = h)
    (hk : OL P n w0 bor ops Q rest ((d, u) :: l) h) : OL P n w0 bor ops Q (o :: rest) l h :=
  OL_loud hw hd hlt hs' fun _ _ ⟨e1, e2⟩ => by subst e1 e2; exact hk
/-- A call that is lent resource number i, gives a value back and has turned that resource, no more. -/
theorem LO.lent {f : FuncId} {as : List Operand} {ts : Array TypeId} {vs : List Value} {u : Value} {r r' : Res} (i : Nat) (ho : o.op = .call { callee := .value (.func f), args := as.toArray, argTypes := ts }) (hc : Enters P f) (hv : as.map (ev l) = vs.map some) (hi : h[i]? = some r) (hid : r'.ids = r.ids)
    (hr : ∀ w, Own w0 bor h w → Own w r.ids [r] w → Gives P f vs w r.ids fun v h' => v = u ∧ h' = [r']) : LO P n w0 bor h l o fun v h' => v = u ∧ h' = h.set i r' := by
  refine LO.call_core (f := f) (vs := vs) (fun a hf w => run_call ho hc ?_ w) fun w ho' => Calls.mono (hr w ho' ?_) fun e w' ⟨v, h', he, ⟨hvu, hh⟩, ho1⟩ => ?_
  · simp only [List.map_toArray]
    congr 1
    clear hr ho hc
    induction as generalizing vs with
    | nil => cases vs with
      | nil => rfl
      | cons _ _ => cases hv
    | cons x as ih => cases vs with
      | nil => cases hv
      | cons v vs =>
        simp only [List.map_cons, List.cons.injEq] at hv ⊢
        exact ⟨hf.eval hv.1, ih hv.2⟩
  · have hnd : r.ids.Nodup := by
      obtain ⟨s, t, hst⟩ := List.append_of_mem (List.mem_of_getElem? hi)
      have := ho'.nd
      rw [hst, List.flatMap_append, List.flatMap_cons] at this
      exact (List.nodup_append.1 (List.nodup_append.1 this).2.1).1
    exact ⟨rfl, rfl, rfl, Nat.le_refl _, fun _ _ _ => rfl, fun s hs => by rw [List.mem_singleton.1 hs]; exact ho'.mine r (List.mem_of_getElem? hi), by simpa using hnd, fun s hs j hj => by rw [List.mem_singleton.1 hs] at hj; exact .inr hj⟩
  · subst hh hvu
    have := ho'.call_lent hi hid ho1
    rw [List.append_nil] at this
    exact ⟨v, h.set i r', he, ⟨rfl, rfl⟩, this⟩
/-- A call that is lent resource number i. -/
theorem LO.callsLent {f : FuncId} {as : List Operand} {ts : Array TypeId} {vs : List Value} {R : Value → Mem → Prop} {r : Res} (i : Nat) (ho : o.op = .call { callee := .value (.func f), args := as.toArray, argTypes := ts }) (hc : Enters P f) (hv : as.map (ev l) = vs.map some) (hi : h[i]? = some r)
    (hr : ∀ w, Own w0 bor h w → Own w r.ids [r] w → Gives P f vs w r.ids fun v h' => ∃ r' h1, h' = r' :: h1 ∧ r'.ids = r.ids ∧ R v (r' :: h1)) :
    LO P n w0 bor h l o fun u h' => ∃ r' h1, R u (r' :: h1) ∧ h' = h.set i r' ++ h1 := by
  refine LO.call_core (f := f) (vs := vs) (fun a hf w => run_call ho hc ?_ w) fun w ho' => Calls.mono (hr w ho' ?_) fun e w' ⟨v, h', he, ⟨r', h1, hh, hid, hR⟩, ho1⟩ => ?_
  · simp only [List.map_toArray]
    congr 1
    clear hr ho hc
    induction as generalizing vs with
    | nil => cases vs with
      | nil => rfl
      | cons _ _ => cases hv
    | cons x as ih => cases vs with
      | nil => cases hv
      | cons v vs =>
        simp only [List.map_cons, List.cons.injEq] at hv ⊢
        exact ⟨hf.eval hv.1, ih hv.2⟩
  · have hnd : r.ids.Nodup := by
      obtain ⟨s, t, hst⟩ := List.append_of_mem (List.mem_of_getElem? hi)
      have := ho'.nd
      rw [hst, List.flatMap_append, List.flatMap_cons] at this
      exact (List.nodup_append.1 (List.nodup_append.1 this).2.1).1
    exact ⟨rfl, rfl, rfl, Nat.le_refl _, fun _ _ _ => rfl, fun s hs => by rw [List.mem_singleton.1 hs]; exact ho'.mine r (List.mem_of_getElem? hi), by simpa using hnd, fun s hs j hj => by rw [List.mem_singleton.1 hs] at hj; exact .inr hj⟩
  · subst hh
    exact ⟨v, h.set i r' ++ h1, he, ⟨r', h1, hR, rfl⟩, ho'.call_lent hi hid ho1⟩
end

/-! ### bits, bools, pointers -/
theorem ofInt_toNat (b x : Nat) (hx : x < 2 ^ b) : (BitVec.ofInt b (x : Int)).toNat = x := by
  rw [BitVec.toNat_ofInt]
  rw [Int.emod_eq_of_lt (by omega) (by exact_mod_cast hx)]
  rfl
section
variable {P : Program} {n : Nat} {w0 : World} {bor : List Nat} {l : Env} {h hs : Mem} {o : Oper} {v : Value}
theorem xor_lt {a b : Nat} (ha : a < 18446744073709551616) (hb : b < 18446744073709551616) : a ^^^ b < 18446744073709551616 := Nat.xor_lt_two_pow (n := 64) ha hb
theorem and_lt {a b : Nat} (ha : a < 18446744073709551616) : a &&& b < 18446744073709551616 := Nat.lt_of_le_of_lt Nat.and_le_left ha
theorem or_lt {a b : Nat} (ha : a < 18446744073709551616) (hb : b < 18446744073709551616) : a ||| b < 18446744073709551616 := Nat.or_lt_two_pow (n := 64) ha hb
theorem wrap_nat {a : Nat} (ha : a < 18446744073709551616) : IntKind.u64.wrap (a : Int) = a := wrap_u64 (by omega) (by omega)
theorem wrap_natI {a : Nat} (ha : a < 9223372036854775808) : IntKind.i64.wrap (a : Int) = a := wrap_i64 (by omega) (by omega)
theorem Sil.xoru {t t' : TypeId} {x y : Operand} {i j : Nat} (ho : o.op = .binOp .xor t x y t') (hx : ev l x = some (.int .u64 i)) (hy : ev l y = some (.int .u64 j)) (hi : i < 18446744073709551616) (hj : j < 18446744073709551616) : Sil P n w0 bor hs l o (.int .u64 ((i ^^^ j : Nat) : Int)) :=
  Sil.bin ho hx hy fun w => by
    have h1 : (BitVec.ofInt 64 (i : Int) ^^^ BitVec.ofInt 64 (j : Int)).toNat = i ^^^ j := by rw [BitVec.toNat_xor, ofInt_toNat 64 i hi, ofInt_toNat 64 j hj]
    show Result.ok (Value.int .u64 (IntKind.u64.wrap ((BitVec.ofInt 64 (i : Int) ^^^ BitVec.ofInt 64 (j : Int)).toNat : Int))) w = _
    rw [h1, wrap_nat (xor_lt hi hj)]
theorem Sil.andu {t t' : TypeId} {x y : Operand} {i j : Nat} (ho : o.op = .binOp .and t x y t') (hx : ev l x = some (.int .u64 i)) (hy : ev l y = some (.int .u64 j)) (hi : i < 18446744073709551616) (hj : j < 18446744073709551616) : Sil P n w0 bor hs l o (.int .u64 ((i &&& j : Nat) : Int)) :=
  Sil.bin ho hx hy fun w => by
    have h1 : (BitVec.ofInt 64 (i : Int) &&& BitVec.ofInt 64 (j : Int)).toNat = i &&& j := by rw [BitVec.toNat_and, ofInt_toNat 64 i hi, ofInt_toNat 64 j hj]
    show Result.ok (Value.int .u64 (IntKind.u64.wrap ((BitVec.ofInt 64 (i : Int) &&& BitVec.ofInt 64 (j : Int)).toNat : Int))) w = _
    rw [h1, wrap_nat (and_lt hi)]
theorem Sil.and {t t' : TypeId} {x y : Operand} {i j : Nat} (ho : o.op = .binOp .and t x y t') (hx : ev l x = some (.int .i64 i)) (hy : ev l y = some (.int .i64 j)) (hi : i < 9223372036854775808) (hj : j < 9223372036854775808) : Sil P n w0 bor hs l o (.int .i64 ((i &&& j : Nat) : Int)) :=
  Sil.bin ho hx hy fun w => by
    have h1 : (BitVec.ofInt 64 (i : Int) &&& BitVec.ofInt 64 (j : Int)).toNat = i &&& j := by rw [BitVec.toNat_and, ofInt_toNat 64 i (by omega), ofInt_toNat 64 j (by omega)]
    show Result.ok (Value.int .i64 (IntKind.i64.wrap ((BitVec.ofInt 64 (i : Int) &&& BitVec.ofInt 64 (j : Int)).toNat : Int))) w = _
    rw [h1, wrap_natI (Nat.lt_of_le_of_lt Nat.and_le_left hi)]
theorem Sil.or {t t' : TypeId} {x y : Operand} {i j : Nat} (ho : o.op = .binOp .or t x y t') (hx : ev l x = some (.int .i64 i)) (hy : ev l y = some (.int .i64 j)) (hi : i < 9223372036854775808) (hj : j < 9223372036854775808) : Sil P n w0 bor hs l o (.int .i64 ((i ||| j : Nat) : Int)) :=
  Sil.bin ho hx hy fun w => by
    have h1 : (BitVec.ofInt 64 (i : Int) ||| BitVec.ofInt 64 (j : Int)).toNat = i ||| j := by rw [BitVec.toNat_or, ofInt_toNat 64 i (by omega), ofInt_toNat 64 j (by omega)]
    show Result.ok (Value.int .i64 (IntKind.i64.wrap ((BitVec.ofInt 64 (i : Int) ||| BitVec.ofInt 64 (j : Int)).toNat : Int))) w = _
    rw [h1, wrap_natI (Nat.or_lt_two_pow (n := 63) hi hj)]
/-- x & m for whatever x: what its 64 bits are. -/
theorem Sil.andw {t t' : TypeId} {x y : Operand} {i : Int} {j : Nat} (ho : o.op = .binOp .and t x y t') (hx : ev l x = some (.int .i64 i)) (hy : ev l y = some (.int .i64 j)) (hj : j < 9223372036854775808) : Sil P n w0 bor hs l o (.int .i64 (((i % 18446744073709551616).toNat &&& j : Nat) : Int)) :=
  Sil.bin ho hx hy fun w => by
    have h1 : (BitVec.ofInt 64 i &&& BitVec.ofInt 64 (j : Int)).toNat = (i % 18446744073709551616).toNat &&& j := by
      rw [BitVec.toNat_and, ofInt_toNat 64 j (by omega), BitVec.toNat_ofInt]
      rfl
    show Result.ok (Value.int .i64 (IntKind.i64.wrap ((BitVec.ofInt 64 i &&& BitVec.ofInt 64 (j : Int)).toNat : Int))) w = _
    rw [h1, wrap_natI (Nat.lt_of_le_of_lt Nat.and_le_right hj)]
theorem fdiv_nat (i m : Nat) : Int.fdiv (i : Int) (2 ^ m) = ((i / 2 ^ m : Nat) : Int) := by
  rw [Int.fdiv_eq_ediv_of_nonneg _ (by exact_mod_cast Nat.zero_le _)]
  exact_mod_cast rfl
theorem Sil.shr {t t' : TypeId} {x y : Operand} {k k' : IntKind} {i m : Nat} (ho : o.op = .binOp .shr t x y t') (hx : ev l x = some (.int k i)) (hy : ev l y = some (.int k' m)) (hm : m ≤ k.bits) : Sil P n w0 bor hs l o (.int k ((i / 2 ^ m : Nat) : Int)) :=
  Sil.bin ho hx hy fun w => by
    have h0 : ¬ ((m : Int) < 0) := by omega
    have h1 : min (m : Int).toNat k.bits = m := by rw [Int.toNat_natCast]; omega
    show (Op.shift .shr k (i : Int) k' (m : Int)).run P w = _
    unfold Op.shift
    rw [if_neg h0]
    simp only [h1, fdiv_nat]
    rfl
theorem Sil.shl {t t' : TypeId} {x y : Operand} {k k' : IntKind} {i m : Nat} (ho : o.op = .binOp .shl t x y t') (hx : ev l x = some (.int k i)) (hy : ev l y = some (.int k' m)) (hm : m ≤ k.bits) (hw : k.wrap ((i * 2 ^ m : Nat) : Int) = ((i * 2 ^ m : Nat) : Int)) : Sil P n w0 bor hs l o (.int k ((i * 2 ^ m : Nat) : Int)) :=
  Sil.bin ho hx hy fun w => by
    have h0 : ¬ ((m : Int) < 0) := by omega
    have h1 : min (m : Int).toNat k.bits = m := by rw [Int.toNat_natCast]; omega
    show (Op.shift .shl k (i : Int) k' (m : Int)).run P w = _
    unfold Op.shift
    rw [if_neg h0]
    simp only [h1]
    have h2 : (i : Int) * 2 ^ m = ((i * 2 ^ m : Nat) : Int) := by exact_mod_cast rfl
    rw [h2, hw]
    rfl
theorem Sil.subu {t t' : TypeId} {x y : Operand} {i j : Nat} (ho : o.op = .binOp .sub t x y t') (hx : ev l x = some (.int .u64 i)) (hy : ev l y = some (.int .u64 j)) (hb : j ≤ i) (hi : i < 18446744073709551616) : Sil P n w0 bor hs l o (.int .u64 ((i - j : Nat) : Int)) := by
  have := Sil.subw (P := P) (n := n) (w0 := w0) (bor := bor) (hs := hs) ho hx hy
  rwa [wrap_u64 (by omega) (by omega), show (i : Int) - j = ((i - j : Nat) : Int) from by omega] at this
/-- An operation on two operands that are no two integers. -/
theorem Sil.bin' {op : BinOp} {t t' : TypeId} {x y : Operand} {u u' : Value} (ho : o.op = .binOp op t x y t') (hx : ev l x = some u) (hy : ev l y = some u') (hg : ∀ w, (eqGuard op t x y u u').run P w = .ok () w)
    (hv : ∀ w, (binOp op t u u').run P w = .ok v w) : Sil P n w0 bor hs l o v :=
  Sil.of (s := do eqGuard op t x y u u'; binOp op t u u') (fun a hf => by
    unfold execOp
    simp only [ho, hf.eval hx, hf.eval hy]) (fun w _ => by rw [Sem.run_bind, hg w, Result.andThen_ok]; exact hv w)
theorem run_equal_bool {T : TypeId} (hT : P.underlying T = some .bool) (a b : Bool) (w : World) : (Op.equal T (.bool a) (.bool b)).run P w = .ok (a == b) w := by
  unfold Op.equal Op.maxDepth Op.equalIn
  rw [Sem.run_bind, run_underlying' hT, Result.andThen_ok]
  rfl
theorem Sil.eqlB {t t' : TypeId} {x y : Operand} {a b : Bool} (ho : o.op = .binOp .eql t x y t') (hx : ev l x = some (.bool a)) (hy : ev l y = some (.bool b)) (hT : P.underlying t = some .bool) : Sil P n w0 bor hs l o (.bool (a == b)) :=
  Sil.bin' ho hx hy (fun w => rfl) fun w => by
    show ((Op.equal t (.bool a) (.bool b) >>= fun r => pure (Value.bool r)) : Sem Value).run P w = _
    rw [Sem.run_bind, run_equal_bool hT, Result.andThen_ok]
    rfl
theorem Sil.neqB {t t' : TypeId} {x y : Operand} {a b : Bool} (ho : o.op = .binOp .neq t x y t') (hx : ev l x = some (.bool a)) (hy : ev l y = some (.bool b)) (hT : P.underlying t = some .bool) : Sil P n w0 bor hs l o (.bool (!(a == b))) :=
  Sil.bin' ho hx hy (fun w => rfl) fun w => by
    show ((Op.equal t (.bool a) (.bool b) >>= fun r => pure (Value.bool (!r))) : Sem Value).run P w = _
    rw [Sem.run_bind, run_equal_bool hT, Result.andThen_ok]
    rfl
theorem run_equal_nil {T e : TypeId} (hT : P.underlying T = some (.pointer e)) (a : Option Addr) (w : World) : (Op.equal T (.pointer a) (.pointer none)).run P w = .ok a.isNone w := by
  unfold Op.equal Op.maxDepth Op.equalIn
  rw [Sem.run_bind, run_underlying' hT, Result.andThen_ok]
  cases a <;> rfl
theorem Sil.eqlNil {t t' e : TypeId} {x y : Operand} {a : Option Addr} (ho : o.op = .binOp .eql t x y t') (hx : ev l x = some (.pointer a)) (hy : ev l y = some (.pointer none)) (hT : P.underlying t = some (.pointer e)) : Sil P n w0 bor hs l o (.bool a.isNone) :=
  Sil.bin' ho hx hy (fun w => rfl) fun w => by
    have : binOp .eql t (.pointer a) (.pointer none) = (Op.equal t (.pointer a) (.pointer none) >>= fun r => pure (Value.bool r)) := by cases a <;> rfl
    rw [this, Sem.run_bind, run_equal_nil hT, Result.andThen_ok]
    rfl
theorem Sil.neqNil {t t' e : TypeId} {x y : Operand} {a : Option Addr} (ho : o.op = .binOp .neq t x y t') (hx : ev l x = some (.pointer a)) (hy : ev l y = some (.pointer none)) (hT : P.underlying t = some (.pointer e)) : Sil P n w0 bor hs l o (.bool (!a.isNone)) :=
  Sil.bin' ho hx hy (fun w => rfl) fun w => by
    have : binOp .neq t (.pointer a) (.pointer none) = (Op.equal t (.pointer a) (.pointer none) >>= fun r => pure (Value.bool (!r))) := by cases a <;> rfl
    rw [this, Sem.run_bind, run_equal_nil hT, Result.andThen_ok]
    rfl
end
end Go.Cru
