/-
  More of the layer: maps that the call makes.
-/
import Derived.Test.YtjnopbmanhialaaKitC
namespace Go.Cru
open Go

/-- A key type: its values are mk k. -/
structure KeyRow (P : Program) (kt : TypeId) {K : Type} (mk : K → Value) : Prop where
  inj : ∀ a b, mk a = mk b → a = b
  check : ∀ w em k, (Instr.checkKey em 10000 kt (mk k)).run P w = .ok () w
  find : ∀ w (k : K) (es : List MapEntry), (∀ e ∈ es, ∃ k', e.key = mk k') →
    ((Instr.findKey kt (mk k) es).run P w = .ok none w ∧ ∀ e ∈ es, e.key ≠ mk k) ∨ ∃ j e, (Instr.findKey kt (mk k) es).run P w = .ok (some (j, e.val)) w ∧ es[j]? = some e ∧ e.key = mk k
  stays : ∀ w k, (Instr.keyThatStays (mk k) (mk k)).run P w = .ok (mk k) w
def intK (q : IntKind) (i : Int) : Value := .int q i
theorem findNow_int (q : IntKind) (k : Int) : ∀ (es : List MapEntry) (i : Nat), (∀ e ∈ es, ∃ k', e.key = intK q k') →
    (Instr.findNow (.int q) (intK q k) es i = some none ∧ ∀ e ∈ es, e.key ≠ intK q k) ∨ ∃ j e, Instr.findNow (.int q) (intK q k) es i = some (some (i + j, e.val)) ∧ es[j]? = some e ∧ e.key = intK q k
  | [], i, _ => .inl ⟨rfl, by simp⟩
  | e :: es, i, h => by
    obtain ⟨k', hk'⟩ := h e (by simp)
    by_cases hkk : k = k'
    · subst hkk
      refine .inr ⟨0, e, ?_, rfl, hk'⟩
      unfold Instr.findNow
      rw [hk']
      simp [Instr.sameNow, intK]
    · have hne : e.key ≠ intK q k := by rw [hk']; simp only [intK, ne_eq, Value.int.injEq, true_and]; exact fun h => hkk h.symm
      have hstep : Instr.findNow (.int q) (intK q k) (e :: es) i = Instr.findNow (.int q) (intK q k) es (i + 1) := by
        conv => lhs; unfold Instr.findNow
        rw [hk']
        have hb : (k == k') = false := by simp [hkk]
        simp only [Instr.sameNow, intK, if_true, hb]
      rw [hstep]
      rcases findNow_int q k es (i + 1) (fun e he => h e (by simp [he])) with ⟨h1, h2⟩ | ⟨j, e', h1, h2, h3⟩
      · exact .inl ⟨h1, fun x hx => by rcases List.mem_cons.1 hx with rfl | hx; exact hne; exact h2 x hx⟩
      · exact .inr ⟨j + 1, e', by rw [h1]; congr 3; omega, h2, h3⟩
theorem int_row {P : Program} {kt : TypeId} {q : IntKind} (hT : P.underlying kt = some (.int q)) : KeyRow P kt (intK q) where
  inj := fun a b h => by simpa [intK] using h
  check := fun w em k => by
    unfold Instr.checkKey
    rw [Sem.run_bind, run_underlying' hT, Result.andThen_ok]
    rfl
  find := fun w k es h => by
    unfold Instr.findKey
    rw [Sem.run_bind, run_underlying' hT, Result.andThen_ok]
    rcases findNow_int q k es 0 h with ⟨h1, h2⟩ | ⟨j, e, h1, h2, h3⟩
    · rw [h1]; exact .inl ⟨rfl, h2⟩
    · rw [h1, Nat.zero_add]; exact .inr ⟨j, e, rfl, h2, h3⟩
  stays := fun w k => by
    unfold Instr.keyThatStays
    rw [if_pos (by simp [Instr.sameBits, intK])]
    rfl

/-- What a map's entries say. -/
def Mp {K : Type} (mk : K → Value) (es : List MapEntry) (f : K → Option Value) : Prop :=
  (∀ e ∈ es, ∃ k, e.key = mk k) ∧ es.Pairwise (fun a b => a.key ≠ b.key) ∧ ∀ k v, f k = some v ↔ ∃ e ∈ es, e.key = mk k ∧ e.val = v
def mpR {K : Type} (mk : K → Value) (b : Nat) (f : K → Option Value) : Res :=
  ⟨[b], fun H => ∃ es clock, H b = some (.map es clock) ∧ Mp mk es.toList f, fun H H' hh ⟨es, clock, h1, h2⟩ => ⟨es, clock, by rw [hh b (by simp)]; exact h1, h2⟩,
    fun H ⟨es, clock, h1, _⟩ i hi => by rw [List.mem_singleton.1 hi, h1]; simp⟩
theorem Mp.nil {K : Type} (mk : K → Value) : Mp mk [] (fun _ => none) := ⟨by simp, .nil, by simp⟩
theorem pair_eq {es : List MapEntry} (hp : es.Pairwise (fun a b => a.key ≠ b.key)) {a b : MapEntry} (ha : a ∈ es) (hb : b ∈ es) (h : a.key = b.key) : a = b := by
  induction es with
  | nil => cases ha
  | cons x es ih =>
    obtain ⟨h1, h2⟩ := List.pairwise_cons.1 hp
    rcases List.mem_cons.1 ha with e1 | ha' <;> rcases List.mem_cons.1 hb with e2 | hb'
    · rw [e1, e2]
    · rw [e1] at h; exact absurd h (h1 _ hb')
    · rw [e2] at h; exact absurd h.symm (h1 _ ha')
    · exact ih h2 ha' hb'
section
variable {K : Type} {mk : K → Value} {es : List MapEntry} {f : K → Option Value}
theorem Mp.here (hm : Mp mk es f) {k : K} {e : MapEntry} (he : e ∈ es) (hk : e.key = mk k) : f k = some e.val := (hm.2.2 k e.val).2 ⟨e, he, hk, rfl⟩
theorem Mp.gone (hm : Mp mk es f) {k : K} (hk : ∀ e ∈ es, e.key ≠ mk k) : f k = none := by
  cases h : f k with
  | none => rfl
  | some v => obtain ⟨e, he, h1, _⟩ := (hm.2.2 k v).1 h; exact absurd h1 (hk e he)
theorem modify_mem {es : List MapEntry} {j : Nat} {e0 x : MapEntry} {g : MapEntry → MapEntry} (hj : es[j]? = some e0) (hp : es.Pairwise (fun a b => a.key ≠ b.key)) (hg : (g e0).key = e0.key) :
    x ∈ es.modify j g ↔ x = g e0 ∨ (x ∈ es ∧ x.key ≠ e0.key) := by
  induction es generalizing j with
  | nil => cases hj
  | cons y es ih =>
    obtain ⟨h1, h2⟩ := List.pairwise_cons.1 hp
    cases j with
    | zero =>
      simp at hj; subst hj
      simp only [List.modify_zero_cons, List.mem_cons]
      constructor
      · rintro (rfl | hx)
        · exact .inl rfl
        · exact .inr ⟨.inr hx, fun e => h1 x hx e.symm⟩
      · rintro (rfl | ⟨rfl | hx, hne⟩)
        · exact .inl rfl
        · exact absurd rfl hne
        · exact .inr hx
    | succ j =>
      have hj' : es[j]? = some e0 := by simpa using hj
      simp only [List.modify_succ_cons, List.mem_cons, ih hj' h2]
      have hyne : y.key ≠ e0.key := h1 e0 (List.mem_of_getElem? hj')
      constructor
      · rintro (rfl | rfl | ⟨hx, hne⟩)
        · exact .inr ⟨.inl rfl, hyne⟩
        · exact .inl rfl
        · exact .inr ⟨.inr hx, hne⟩
      · rintro (rfl | ⟨rfl | hx, hne⟩)
        · exact .inr (.inl rfl)
        · exact .inl rfl
        · exact .inr (.inr ⟨hx, hne⟩)
theorem modify_pair {es : List MapEntry} {j : Nat} {e0 : MapEntry} {g : MapEntry → MapEntry} (hj : es[j]? = some e0) (hp : es.Pairwise (fun a b => a.key ≠ b.key)) (hg : (g e0).key = e0.key) :
    (es.modify j g).Pairwise (fun a b => a.key ≠ b.key) := by
  induction es generalizing j with
  | nil => cases hj
  | cons y es ih =>
    obtain ⟨h1, h2⟩ := List.pairwise_cons.1 hp
    cases j with
    | zero =>
      simp at hj; subst hj
      rw [List.modify_zero_cons]
      exact List.pairwise_cons.2 ⟨fun x hx => by rw [hg]; exact h1 x hx, h2⟩
    | succ j =>
      have hj' : es[j]? = some e0 := by simpa using hj
      rw [List.modify_succ_cons]
      refine List.pairwise_cons.2 ⟨fun x hx => ?_, ih hj' h2⟩
      rcases (modify_mem hj' h2 hg).1 hx with rfl | ⟨hx, _⟩
      · rw [hg]; exact h1 e0 (List.mem_of_getElem? hj')
      · exact h1 x hx
variable [DecidableEq K]
def updK (f : K → Option Value) (k : K) (v : Option Value) : K → Option Value := fun t => if t = k then v else f t
theorem Mp.modify (hm : Mp mk es f) (hinj : ∀ a b, mk a = mk b → a = b) {j : Nat} {e0 : MapEntry} {k : K} (hj : es[j]? = some e0) (hk : e0.key = mk k) (v : Value) {g : MapEntry → MapEntry} (hg : ∀ e, (g e).key = mk k ∧ (g e).val = v) :
    Mp mk (es.modify j g) (updK f k (some v)) := by
  obtain ⟨m1, m2, m3⟩ := hm
  have hgk : (g e0).key = e0.key := by rw [(hg e0).1, hk]
  refine ⟨fun e he => ?_, modify_pair hj m2 hgk, fun t u => ?_⟩
  · rcases (modify_mem hj m2 hgk).1 he with rfl | ⟨he, _⟩
    · exact ⟨k, (hg e0).1⟩
    · exact m1 e he
  · simp only [modify_mem hj m2 hgk, updK]
    by_cases e : t = k
    · subst e
      rw [if_pos rfl]
      constructor
      · rintro h; cases h; exact ⟨_, .inl rfl, (hg e0).1, (hg e0).2⟩
      · rintro ⟨e, rfl | ⟨_, hne⟩, h1, h2⟩
        · rw [← h2, (hg e0).2]
        · exact absurd (h1.trans hk.symm) hne
    · rw [if_neg e, m3 t u]
      constructor
      · rintro ⟨x, hx, h1, h2⟩
        exact ⟨x, .inr ⟨hx, fun h => e (hinj _ _ (by rw [← h1, h, hk]))⟩, h1, h2⟩
      · rintro ⟨x, rfl | ⟨hx, _⟩, h1, h2⟩
        · exact absurd (hinj _ _ ((hg e0).1.symm.trans h1)).symm e
        · exact ⟨x, hx, h1, h2⟩
theorem Mp.push (hm : Mp mk es f) (hinj : ∀ a b, mk a = mk b → a = b) {k : K} (hk : ∀ e ∈ es, e.key ≠ mk k) {x : MapEntry} (hx : x.key = mk k) : Mp mk (es ++ [x]) (updK f k (some x.val)) := by
  obtain ⟨m1, m2, m3⟩ := hm
  refine ⟨fun e he => ?_, List.pairwise_append.2 ⟨m2, List.pairwise_singleton _ _, fun a ha b hb => ?_⟩, fun t u => ?_⟩
  · rcases List.mem_append.1 he with he | he
    · exact m1 e he
    · exact ⟨k, by rw [List.mem_singleton.1 he, hx]⟩
  · rw [List.mem_singleton.1 hb, hx]; exact hk a ha
  · simp only [List.mem_append, List.mem_singleton, updK]
    by_cases e : t = k
    · subst e
      rw [if_pos rfl]
      constructor
      · rintro h; cases h; exact ⟨x, .inr rfl, hx, rfl⟩
      · rintro ⟨y, hy | rfl, h1, h2⟩
        · exact absurd h1 (hk y hy)
        · rw [h2]
    · rw [if_neg e, m3 t u]
      constructor
      · rintro ⟨y, hy, h1, h2⟩; exact ⟨y, .inl hy, h1, h2⟩
      · rintro ⟨y, hy | rfl, h1, h2⟩
        · exact ⟨y, hy, h1, h2⟩
        · exact absurd (hinj _ _ (hx.symm.trans h1)).symm e
theorem erase_mem {es : List MapEntry} {j : Nat} {e0 x : MapEntry} (hj : es[j]? = some e0) (hp : es.Pairwise (fun a b => a.key ≠ b.key)) : x ∈ es.eraseIdx j ↔ (x ∈ es ∧ x.key ≠ e0.key) := by
  induction es generalizing j with
  | nil => cases hj
  | cons y es ih =>
    obtain ⟨h1, h2⟩ := List.pairwise_cons.1 hp
    cases j with
    | zero =>
      simp at hj; subst hj
      rw [List.eraseIdx_zero, List.tail_cons]
      simp only [List.mem_cons]
      constructor
      · exact fun hx => ⟨.inr hx, fun e => h1 x hx e.symm⟩
      · rintro ⟨rfl | hx, hne⟩
        · exact absurd rfl hne
        · exact hx
    | succ j =>
      have hj' : es[j]? = some e0 := by simpa using hj
      have hyne : y.key ≠ e0.key := h1 e0 (List.mem_of_getElem? hj')
      rw [List.eraseIdx_cons_succ]
      simp only [List.mem_cons, ih hj' h2]
      constructor
      · rintro (rfl | ⟨hx, hne⟩)
        · exact ⟨.inl rfl, hyne⟩
        · exact ⟨.inr hx, hne⟩
      · rintro ⟨rfl | hx, hne⟩
        · exact .inl rfl
        · exact .inr ⟨hx, hne⟩
theorem Mp.erase (hm : Mp mk es f) (hinj : ∀ a b, mk a = mk b → a = b) {j : Nat} {e0 : MapEntry} {k : K} (hj : es[j]? = some e0) (hk : e0.key = mk k) : Mp mk (es.eraseIdx j) (updK f k none) := by
  obtain ⟨m1, m2, m3⟩ := hm
  refine ⟨fun e he => m1 e ((erase_mem hj m2).1 he).1, m2.sublist (List.eraseIdx_sublist _ _), fun t u => ?_⟩
  simp only [erase_mem hj m2, updK]
  by_cases e : t = k
  · subst e
    rw [if_pos rfl]
    constructor
    · intro h; cases h
    · rintro ⟨y, ⟨_, hne⟩, h1, _⟩; exact absurd (h1.trans hk.symm) hne
  · rw [if_neg e, m3 t u]
    constructor
    · rintro ⟨y, hy, h1, h2⟩; exact ⟨y, ⟨hy, fun h => e (hinj _ _ (by rw [← h1, h, hk]))⟩, h1, h2⟩
    · rintro ⟨y, ⟨hy, _⟩, h1, h2⟩; exact ⟨y, hy, h1, h2⟩
theorem Mp.absent (hm : Mp mk es f) {k : K} (hk : ∀ e ∈ es, e.key ≠ mk k) : Mp mk es (updK f k none) := by
  refine ⟨hm.1, hm.2.1, fun t u => ?_⟩
  unfold updK
  by_cases e : t = k
  · subst e
    rw [if_pos rfl, ← hm.2.2, hm.gone hk]
  · rw [if_neg e]; exact hm.2.2 t u
end

section
variable {P : Program} {n : Nat} {w0 : World} {bor : List Nat} {l : Env} {h hs : Mem} {o : Oper} {v : Value}
theorem run_getMap {w : World} {b clock : Nat} {es : Array MapEntry} (hb : hf w b = some (.map es clock)) : (getObj b).run P w = .ok (.map es clock) w := by
  have : w.heap[b]? = some (.map es clock) := hb
  simp [getObj, Sem.run, this]
theorem run_setMap {w : World} {b clock : Nat} {es : Array MapEntry} (hb : hf w b = some (.map es clock)) (ob : Obj) : (setObj b ob).run P w = .ok () { w with heap := w.heap.setIfInBounds b ob } := by
  have : w.heap[b]? = some (.map es clock) := hb
  simp [setObj, Sem.run, this]
theorem LO.makeMap {T : TypeId} {K : Type} (mk : K → Value) (ho : o.op = .makeMap T none) : LO P n w0 bor h l o fun u h' => ∃ b, u = .map (some b) ∧ h' = h ++ [mpR mk b (fun _ => none)] :=
  LO.of_value (s := Instr.makeMap T none) (fun a hf => by unfold execOp; simp only [ho, Option.map_none]) fun w ho' => by
    refine ⟨_, _, _, rfl, ⟨w.heap.size, rfl, rfl⟩, ?_⟩
    exact ho'.new _ _ rfl ⟨#[], 0, (show (w.heap.push _)[w.heap.size]? = _ from Array.getElem?_push_size), Mp.nil mk⟩
theorem run_lookup {K : Type} {mk : K → Value} {T kt e : TypeId} {w : World} {b : Nat} {f : K → Option Value} {k : K} {z : Value} (hr : KeyRow P kt mk) (hT : P.underlying T = some (.map kt e)) (hz : (P.info? e).bind (·.zero) = some z) (hb : (mpR mk b f).P (hf w)) (ok : Bool) :
    (Instr.lookup T (.map (some b)) (mk k) ok).run P w = .ok (if ok then .tuple [(f k).getD z, .bool (f k).isSome].toArray else (f k).getD z) w := by
  obtain ⟨es, clock, hb1, hm⟩ := hb
  unfold Instr.lookup
  rw [Sem.run_bind, run_underlying' hT, Result.andThen_ok]
  show (getObj b >>= fun ob => _ : Sem Value).run P w = _
  rw [Sem.run_bind, run_getMap hb1, Result.andThen_ok]
  show (Instr.checkKey es.isEmpty 10000 kt (mk k) >>= fun _ => _ : Sem Value).run P w = _
  rw [Sem.run_bind, hr.check, Result.andThen_ok, Sem.run_bind]
  rcases hr.find w k es.toList hm.1 with ⟨h1, h2⟩ | ⟨j, x, h1, h2, h3⟩
  · rw [h1, Result.andThen_ok, hm.gone h2]
    cases hi : P.info? e with
    | none => rw [hi] at hz; cases hz
    | some i =>
      rw [hi] at hz
      have hz' : i.zero = some z := hz
      have hzv : (zeroValue e).run P w = .ok z w := by simp [zeroValue, typeInfo, program, Sem.run, hi, hz', Bind.bind, Sem.bind, Pure.pure]
      simp only [Sem.run_bind, hzv, Result.andThen_ok]
      cases ok <;> rfl
  · rw [h1, Result.andThen_ok, hm.here (List.mem_of_getElem? h2) h3]
    cases ok <;> rfl
/-- v, ok := m[k] -/
theorem Sil.lookup2 {x y : Operand} {K : Type} {mk : K → Value} {T kt e : TypeId} {b : Nat} {f : K → Option Value} {z : Value} (i : Nat) (k : K) (hr : KeyRow P kt mk) (ho : o.op = .lookup T x y true) (hx : ev l x = some (.map (some b))) (hy : ev l y = some (mk k))
    (hi : hs[i]? = some (mpR mk b f)) (hT : P.underlying T = some (.map kt e)) (hz : (P.info? e).bind (·.zero) = some z) : Sil P n w0 bor hs l o (.tuple [(f k).getD z, .bool (f k).isSome].toArray) :=
  Sil.of (s := Instr.lookup T (.map (some b)) (mk k) true) (fun a hf => by unfold execOp; simp only [ho, hf.eval hx, hf.eval hy]) fun w hS => run_lookup hr hT hz (hS.mine _ (List.mem_of_getElem? hi)) true
theorem Sil.lookup1 {x y : Operand} {K : Type} {mk : K → Value} {T kt e : TypeId} {b : Nat} {f : K → Option Value} {z : Value} (i : Nat) (k : K) (hr : KeyRow P kt mk) (ho : o.op = .lookup T x y false) (hx : ev l x = some (.map (some b))) (hy : ev l y = some (mk k))
    (hi : hs[i]? = some (mpR mk b f)) (hT : P.underlying T = some (.map kt e)) (hz : (P.info? e).bind (·.zero) = some z) : Sil P n w0 bor hs l o ((f k).getD z) :=
  Sil.of (s := Instr.lookup T (.map (some b)) (mk k) false) (fun a hf => by unfold execOp; simp only [ho, hf.eval hx, hf.eval hy]) fun w hS => run_lookup hr hT hz (hS.mine _ (List.mem_of_getElem? hi)) false
theorem hf_setObj (w : World) (b : Nat) (ob : Obj) (hb : b < w.heap.size) : hf { w with heap := w.heap.setIfInBounds b ob } = fun k => if k = b then some ob else hf w k := by
  funext k
  simp only [hf, Array.getElem?_setIfInBounds]
  by_cases e : k = b
  · subst e; simp [hb]
  · rw [if_neg (Ne.symm e), if_neg e]
theorem hf_lt {w : World} {b : Nat} {ob : Obj} (hb : hf w b = some ob) : b < w.heap.size := by
  rcases Nat.lt_or_ge b w.heap.size with h1 | h1
  · exact h1
  · rw [show hf w b = none from Array.getElem?_eq_none h1] at hb; cases hb
/-- A map's block is written anew. -/
theorem Own.setMap {K : Type} {mk : K → Value} {f f' : K → Option Value} {w : World} (ho : Own w0 bor h w) {i b clock clock' : Nat} {es es' : Array MapEntry} (hi : h[i]? = some (mpR mk b f)) (hb : hf w b = some (.map es clock)) (hm : Mp mk es'.toList f') :
    Own w0 bor (h.set i (mpR mk b f')) { w with heap := w.heap.setIfInBounds b (.map es' clock') } := by
  have hlt := hf_lt hb
  have hh := hf_setObj w b (.map es' clock') hlt
  refine ho.set hi rfl rfl rfl rfl (by simp) (fun k hk => ?_) ⟨es', clock', by rw [hh]; simp, hm⟩
  have := congrFun hh k
  simp only [hf] at this
  rw [this, if_neg (fun e => hk (by simp [mpR, e]))]
variable {K : Type} [DecidableEq K] {mk : K → Value}
theorem LO.mapUpdate {m x y : Operand} {T kt e : TypeId} {b : Nat} {f : K → Option Value} (i : Nat) (k : K) (hr : KeyRow P kt mk) (ho : o.op = .mapUpdate T m x y) (hm : ev l m = some (.map (some b))) (hx : ev l x = some (mk k)) (hy : ev l y = some v)
    (hi : h[i]? = some (mpR mk b f)) (hT : P.underlying T = some (.map kt e)) : LO P n w0 bor h l o fun u h' => u = undef ∧ h' = h.set i (mpR mk b (updK f k (some v))) := by
  intro a w hf' hw Kt Q hk
  obtain ⟨es, clock, hb1, hmp⟩ := hw.mine _ (List.mem_of_getElem? hi)
  obtain ⟨es', clock', hrun, hmp'⟩ : ∃ es' clock', (Instr.mapUpdate T (.map (some b)) (mk k) v).run P w = .ok () { w with heap := w.heap.setIfInBounds b (.map es' clock') } ∧ Mp mk es'.toList (updK f k (some v)) := by
    unfold Instr.mapUpdate
    rw [Sem.run_bind, run_underlying' hT, Result.andThen_ok]
    show ∃ es' clock', (getObj b >>= fun ob => _ : Sem Unit).run P w = _ ∧ _
    rw [Sem.run_bind, run_getMap hb1, Result.andThen_ok]
    show ∃ es' clock', (Instr.checkKey false 10000 kt (mk k) >>= fun _ => _ : Sem Unit).run P w = _ ∧ _
    rw [Sem.run_bind, hr.check, Result.andThen_ok, Sem.run_bind]
    rcases hr.find w k es.toList hmp.1 with ⟨h1, h2⟩ | ⟨j, x', h1, h2, h3⟩
    · rw [h1, Result.andThen_ok]
      refine ⟨es.push { key := mk k, val := v, born := clock }, clock + 1, run_setMap hb1 _, ?_⟩
      rw [Array.toList_push]
      exact hmp.push hr.inj h2 rfl
    · rw [h1, Result.andThen_ok]
      have hes : es[j]? = some x' := by rw [← Array.getElem?_toList]; exact h2
      simp only [hes, Option.map_some, Option.getD_some, h3]
      refine ⟨es.modify j fun e => { e with key := mk k, val := v }, clock, ?_, ?_⟩
      · rw [Sem.run_bind, hr.stays, Result.andThen_ok]
        exact run_setMap hb1 _
      · rw [Array.toList_modify]
        exact hmp.modify hr.inj h2 h3 v fun _ => ⟨rfl, rfl⟩
  unfold Oper.wp
  have : (execOp a.eval o).run P w = .ok .skip { w with heap := w.heap.setIfInBounds b (.map es' clock') } := by
    unfold execOp
    simp only [ho, hf'.eval hm, hf'.eval hx, hf'.eval hy]
    show ((Instr.mapUpdate T (.map (some b)) (mk k) v >>= fun _ => Pure.pure Next.skip) : Sem Next).run P w = _
    rw [Sem.run_bind, hrun]
    rfl
  rw [this]
  exact hk undef _ _ ⟨rfl, rfl⟩ (hw.setMap hi hb1 hmp')
theorem LO.mapDelete {m x : Operand} {T kt e : TypeId} {b : Nat} {f : K → Option Value} (i : Nat) (k : K) (hr : KeyRow P kt mk) (ho : o.op = .call { callee := .builtin .delete, args := #[m, x], argTypes := #[T, kt] }) (hm : ev l m = some (.map (some b))) (hx : ev l x = some (mk k))
    (hi : h[i]? = some (mpR mk b f)) (hT : P.underlying T = some (.map kt e)) : LO P n w0 bor h l o fun u h' => u = .tuple #[] ∧ h' = h.set i (mpR mk b (updK f k none)) := by
  refine LO.of_value (s := Builtin.delete_ #[T, kt] o.type #[.map (some b), mk k]) (fun a hf => by
    unfold execOp
    simp only [ho, resolve, List.map_toArray, List.map_cons, List.map_nil, hf.eval hm, hf.eval hx]
    rfl) fun w hw => ?_
  obtain ⟨es, clock, hb1, hmp⟩ := hw.mine _ (List.mem_of_getElem? hi)
  obtain ⟨es', hrun, hmp'⟩ : ∃ es', (Builtin.delete_ #[T, kt] o.type #[.map (some b), mk k]).run P w = .ok (.tuple #[]) { w with heap := w.heap.setIfInBounds b (.map es' clock) } ∧ Mp mk es'.toList (updK f k none) := by
    unfold Builtin.delete_
    show ∃ es', (underlying T >>= fun d => _ : Sem Value).run P w = _ ∧ _
    rw [Sem.run_bind, run_underlying' hT, Result.andThen_ok]
    show ∃ es', (getObj b >>= fun ob => _ : Sem Value).run P w = _ ∧ _
    rw [Sem.run_bind, run_getMap hb1, Result.andThen_ok]
    show ∃ es', (Instr.checkKey es.isEmpty 10000 kt (mk k) >>= fun _ => _ : Sem Value).run P w = _ ∧ _
    rw [Sem.run_bind, hr.check, Result.andThen_ok, Sem.run_bind]
    show ∃ es', ((Instr.findKey kt (mk k) es.toList).run P w).andThen _ = _ ∧ _
    rcases hr.find w k es.toList hmp.1 with ⟨h1, h2⟩ | ⟨j, x', h1, h2, h3⟩
    · rw [h1, Result.andThen_ok]
      refine ⟨es, ?_, hmp.absent h2⟩
      show (setObj b _ >>= fun _ => _ : Sem Value).run P w = _
      rw [Sem.run_bind, run_setMap hb1]
      rfl
    · rw [h1, Result.andThen_ok]
      refine ⟨es.eraseIdxIfInBounds j, ?_, ?_⟩
      · show (setObj b _ >>= fun _ => _ : Sem Value).run P w = _
        rw [Sem.run_bind, run_setMap hb1]
        rfl
      · have hj : j < es.size := by have := (List.getElem?_eq_some_iff.1 h2).1; simpa using this
        have : (es.eraseIdxIfInBounds j).toList = es.toList.eraseIdx j := by
          unfold Array.eraseIdxIfInBounds
          rw [dif_pos hj, Array.toList_eraseIdx]
        rw [this]
        exact hmp.erase hr.inj h2 h3
  exact ⟨_, _, _, hrun, ⟨rfl, rfl⟩, hw.setMap hi hb1 hmp'⟩
end
end Go.Cru
