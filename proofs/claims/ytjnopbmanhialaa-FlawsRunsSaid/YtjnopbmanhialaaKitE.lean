/-
  More of the layer: structs of integers: held against each other, as keys; many blocks as one resource; nil slices.
-/
import Derived.Test.YtjnopbmanhialaaKitD
import Derived.Laws.StructEq
import Derived.Laws.Cover3
namespace Go.Cru
open Go

def iv (xs : List Int) : List Value := xs.map (Value.int .i64)
def agI (xs : List Int) : Value := .agg (iv xs).toArray
def fieldsB (P : Program) : Nat → List Field → Bool
  | _, [] => true
  | i, f :: fs => f.name != "_" && f.offset == i && (match P.underlying f.type with | some (.int .i64) => true | _ => false) && fieldsB P (i + 1) fs
/-- A struct of m integers. -/
structure SR (P : Program) (T : TypeId) (m : Nat) : Prop where
  und : P.underlying T = some (.struct (P.fieldsOf T))
  so : P.stoodInHeld T = false
  fl : fieldsB P 0 (P.fieldsOf T).toList = true
  len : (P.fieldsOf T).toList.length = m
section
variable {P : Program} {n : Nat} {w0 : World} {bor : List Nat} {l : Env} {h hs : Mem} {o : Oper} {v : Value}
theorem run_partI {T : TypeId} {xs : List Int} {i : Nat} {x : Int} {w : World} (hT : P.underlying T = some (.int .i64)) (hx : xs[i]? = some x) : (part T (iv xs).toArray i).run P w = .ok (.int .i64 x) w := by
  unfold part
  rw [Sem.run_bind, run_isAgg hT, Result.andThen_ok]
  have : (iv xs).toArray[i]? = some (.int .i64 x) := by simp [iv, hx]
  simp only [aggB, Bool.false_eq_true, if_false, this]
  rfl
theorem run_eqFields {d : Nat} {xs ys : List Int} {w : World} : ∀ (fs : List Field) (i : Nat), fieldsB P i fs = true → xs.length = i + fs.length → ys.length = i + fs.length →
    (Op.eqFields (d + 1) (iv xs).toArray (iv ys).toArray fs).run P w = .ok (decide (xs.drop i = ys.drop i)) w
  | [], i, _, hx, hy => by
    rw [List.drop_eq_nil_of_le (by simp at hx; omega), List.drop_eq_nil_of_le (by simp at hy; omega)]
    simp [Op.eqFields]
  | f :: fs, i, hf, hx, hy => by
    simp only [fieldsB, Bool.and_eq_true, bne_iff_ne, ne_eq, beq_iff_eq] at hf
    obtain ⟨⟨⟨h1, h2⟩, h3⟩, h4⟩ := hf
    have hT : P.underlying f.type = some (.int .i64) := by
      split at h3
      · assumption
      · cases h3
    simp only [List.length_cons] at hx hy
    obtain ⟨x, hxi⟩ : ∃ x, xs[i]? = some x := ⟨_, List.getElem?_eq_getElem (by omega)⟩
    obtain ⟨y, hyi⟩ : ∃ y, ys[i]? = some y := ⟨_, List.getElem?_eq_getElem (by omega)⟩
    have hdx : xs.drop i = x :: xs.drop (i + 1) := by rw [List.drop_eq_getElem_cons (by omega)]; congr 1; exact (List.getElem?_eq_some_iff.1 hxi).2
    have hdy : ys.drop i = y :: ys.drop (i + 1) := by rw [List.drop_eq_getElem_cons (by omega)]; congr 1; exact (List.getElem?_eq_some_iff.1 hyi).2
    unfold Op.eqFields
    rw [if_pos h1, h2, Sem.run_bind, run_partI hT hxi, Result.andThen_ok, Sem.run_bind, run_partI hT hyi, Result.andThen_ok, Sem.run_bind, run_equalIn_int w d f.type .i64 .i64 x y hT, Result.andThen_ok, hdx, hdy]
    by_cases e : x = y
    · subst e
      simp only [beq_self_eq_true, Bool.not_true, Bool.false_eq_true, if_false]
      rw [run_eqFields fs (i + 1) h4 (by omega) (by omega)]
      simp
    · have hb : (x == y) = false := by simp [e]
      simp only [hb, Bool.not_false, if_true]
      have : (decide (x :: xs.drop (i + 1) = y :: ys.drop (i + 1))) = false := by simp [e]
      rw [this]
      rfl
theorem run_equalS {T : TypeId} {m : Nat} {xs ys : List Int} {w : World} (hr : SR P T m) (hx : xs.length = m) (hy : ys.length = m) : (Op.equalIn 10000 T (agI xs) (agI ys)).run P w = .ok (decide (xs = ys)) w := by
  show (Op.equalIn (9998 + 1 + 1) T (agI xs) (agI ys)).run P w = _
  unfold agI
  rw [run_equalIn_struct w (9998 + 1) T _ _ hr.und hr.so, run_eqFields _ 0 hr.fl (by rw [hr.len]; omega) (by rw [hr.len]; omega)]
  rfl
theorem Sil.eqlS {t t' : TypeId} {x y : Operand} {m : Nat} {xs ys : List Int} (hr : SR P t m) (hg : P.eqGuardType P.depth t = false) (ho : o.op = .binOp .eql t x y t') (hx : ev l x = some (agI xs)) (hy : ev l y = some (agI ys)) (h1 : xs.length = m) (h2 : ys.length = m) : Sil P n w0 bor hs l o (.bool (decide (xs = ys))) :=
  Sil.of (s := (do eqGuard .eql t x y (agI xs) (agI ys); binOp .eql t (agI xs) (agI ys))) (fun a hf => by unfold execOp; simp only [ho, hf.eval hx, hf.eval hy]) fun w _ => by
    rw [Sem.run_bind]
    show ((eqGuard .eql t x y (.agg _) (.agg _)).run P w).andThen _ = _
    rw [run_eqGuard_agg w .eql t x y _ _ hg, Result.andThen_ok]
    show (binOp .eql t (.agg _) (.agg _)).run P w = _
    rw [run_eql_struct]
    have := run_equalS (w := w) hr h1 h2
    unfold agI at this
    rw [this]
    rfl
theorem Sil.neqS {t t' : TypeId} {x y : Operand} {m : Nat} {xs ys : List Int} (hr : SR P t m) (hg : P.eqGuardType P.depth t = false) (ho : o.op = .binOp .neq t x y t') (hx : ev l x = some (agI xs)) (hy : ev l y = some (agI ys)) (h1 : xs.length = m) (h2 : ys.length = m) : Sil P n w0 bor hs l o (.bool (!decide (xs = ys))) :=
  Sil.of (s := (do eqGuard .neq t x y (agI xs) (agI ys); binOp .neq t (agI xs) (agI ys))) (fun a hf => by unfold execOp; simp only [ho, hf.eval hx, hf.eval hy]) fun w _ => by
    rw [Sem.run_bind]
    show ((eqGuard .neq t x y (.agg _) (.agg _)).run P w).andThen _ = _
    rw [run_eqGuard_agg w .neq t x y _ _ hg, Result.andThen_ok]
    show (binOp .neq t (.agg _) (.agg _)).run P w = _
    rw [run_neq_struct]
    have := run_equalS (w := w) hr h1 h2
    unfold agI at this
    rw [this]
    rfl
/-- s == nil -/
theorem Sil.eqlSlNil {t t' e : TypeId} {x y : Operand} {a : Option Addr} {len cap : Nat} (ho : o.op = .binOp .eql t x y t') (hx : ev l x = some (.slice a len cap)) (hy : ev l y = some (.slice none 0 0)) (hT : P.underlying t = some (.slice e)) : Sil P n w0 bor hs l o (.bool a.isNone) :=
  Sil.of (s := (do eqGuard .eql t x y (.slice a len cap) (.slice none 0 0); binOp .eql t (.slice a len cap) (.slice none 0 0))) (fun a hf => by unfold execOp; simp only [ho, hf.eval hx, hf.eval hy]) fun w _ => by
    have hg : eqGuard .eql t x y (.slice a len cap) (.slice none 0 0) = Pure.pure () := by unfold eqGuard; rfl
    rw [hg, Sem.run_bind]
    show (binOp .eql t (.slice a len cap) (.slice none 0 0)).run P w = _
    simp [binOp, run_equal_slice_nil w t e a len cap hT]

/-- A pair of integers as a key. -/
def pairK (p : Int × Int) : Value := agI [p.1, p.2]
theorem run_checkFields {em : Bool} {d : Nat} {xs : List Int} {w : World} : ∀ (fs : List Field) (i : Nat), fieldsB P i fs = true → xs.length = i + fs.length →
    (forIn fs PUnit.unit (fun (f : Field) (_ : PUnit) => (if f.name ≠ "_" then (do
        let y ← part f.type (iv xs).toArray f.offset
        Instr.checkKey em (d + 1) f.type y
        Pure.pure (ForInStep.yield PUnit.unit)) else Pure.pure (ForInStep.yield PUnit.unit) : Sem (ForInStep PUnit)))).run P w = .ok PUnit.unit w
  | [], i, _, hx => by simp
  | f :: fs, i, hf, hx => by
    simp only [fieldsB, Bool.and_eq_true, bne_iff_ne, ne_eq, beq_iff_eq] at hf
    obtain ⟨⟨⟨h1, h2⟩, h3⟩, h4⟩ := hf
    have hT : P.underlying f.type = some (.int .i64) := by
      split at h3
      · assumption
      · cases h3
    simp only [List.length_cons] at hx
    obtain ⟨x, hxi⟩ : ∃ x, xs[i]? = some x := ⟨_, List.getElem?_eq_getElem (by omega)⟩
    have hck : (Instr.checkKey em (d + 1) f.type (.int .i64 x)).run P w = .ok () w := by
      unfold Instr.checkKey
      rw [Sem.run_bind, run_underlying' hT, Result.andThen_ok]
      rfl
    have ih := run_checkFields (em := em) (d := d) (xs := xs) (w := w) fs (i + 1) h4 (by omega)
    rw [List.forIn_cons, Sem.run_bind]
    simp only [h1, not_false_eq_true, ne_eq, if_true, h2, Sem.run_bind, run_partI hT hxi, hck, Result.andThen_ok, Sem.run_pure]
    simpa only [ne_eq] using ih
theorem run_checkS {T : TypeId} {m : Nat} {xs : List Int} {w : World} (hr : SR P T m) (hx : xs.length = m) (em : Bool) : (Instr.checkKey em 10000 T (agI xs)).run P w = .ok () w := by
  show (Instr.checkKey em (9998 + 1 + 1) T (agI xs)).run P w = _
  unfold Instr.checkKey
  rw [Sem.run_bind, run_underlying' hr.und, Result.andThen_ok]
  unfold agI
  have := run_checkFields (em := em) (d := 9998) (xs := xs) (w := w) (P.fieldsOf T).toList 0 hr.fl (by rw [hr.len]; omega)
  rw [Array.forIn_toList] at this
  show (forIn (P.fieldsOf T) PUnit.unit (fun (f : Field) (_ : PUnit) => (if f.name ≠ "_" then (do
        let y ← part f.type (iv xs).toArray f.offset
        Instr.checkKey em (9998 + 1) f.type y
        Pure.pure (ForInStep.yield PUnit.unit)) else Pure.pure (ForInStep.yield PUnit.unit) : Sem (ForInStep PUnit))) >>= fun _ => Pure.pure () : Sem Unit).run P w = _
  rw [Sem.run_bind, this]
  rfl
theorem agI_inj {xs ys : List Int} (h : agI xs = agI ys) : xs = ys := by
  simp only [agI, Value.agg.injEq, iv] at h
  have h' : xs.map (Value.int .i64) = ys.map (Value.int .i64) := by simpa using congrArg Array.toList h
  exact List.map_inj_right (by simp) |>.1 h'
theorem run_findAskS {T : TypeId} {m : Nat} {xs : List Int} {w : World} (hr : SR P T m) (hx : xs.length = m) : ∀ (es : List MapEntry) (i : Nat), (∀ e ∈ es, ∃ ys : List Int, ys.length = m ∧ e.key = agI ys) →
    ((Instr.findAsking T (agI xs) es i).run P w = .ok none w ∧ ∀ e ∈ es, e.key ≠ agI xs) ∨ ∃ j e, (Instr.findAsking T (agI xs) es i).run P w = .ok (some (i + j, e.val)) w ∧ es[j]? = some e ∧ e.key = agI xs
  | [], i, _ => .inl ⟨rfl, by simp⟩
  | e :: es, i, hes => by
    obtain ⟨ys, hy, hk⟩ := hes e (by simp)
    unfold Instr.findAsking
    rw [Sem.run_bind, hk]
    show (((Op.equalIn 10000 T (agI xs) (agI ys)).run P w).andThen _ = _ ∧ _) ∨ ∃ j e', ((Op.equalIn 10000 T (agI xs) (agI ys)).run P w).andThen _ = _ ∧ _
    rw [run_equalS hr hx hy, Result.andThen_ok]
    by_cases hxy : xs = ys
    · subst hxy
      right
      exact ⟨0, e, by simp, rfl, hk⟩
    · simp only [hxy, decide_false, Bool.false_eq_true, if_false]
      have hne : e.key ≠ agI xs := by rw [hk]; exact fun h => hxy (agI_inj h).symm
      rcases run_findAskS hr hx es (i + 1) (fun e he => hes e (by simp [he])) with ⟨h1, h2⟩ | ⟨j, e', h1, h2, h3⟩
      · left
        exact ⟨h1, fun x hx => by
          rcases List.mem_cons.1 hx with rfl | hx
          · exact hne
          · exact h2 x hx⟩
      · right
        exact ⟨j + 1, e', by rw [h1]; congr 3; omega, h2, h3⟩
theorem findNow_S {T : TypeDesc} {xs : List Int} (hT : ∀ ys, Instr.sameNow T (agI xs) (agI ys) = none) {e : MapEntry} {es : List MapEntry} {ys : List Int} (hk : e.key = agI ys) (i : Nat) : Instr.findNow T (agI xs) (e :: es) i = none := by
  unfold Instr.findNow
  rw [hk, hT]
theorem pair_row {T : TypeId} (hr : SR P T 2) : KeyRow P T pairK where
  inj := fun a b h => by
    have := agI_inj h
    simp only [List.cons.injEq, and_true] at this
    exact Prod.ext this.1 this.2
  check := fun w em k => run_checkS hr rfl em
  find := fun w k es hes => by
    unfold Instr.findKey
    rw [Sem.run_bind, run_underlying' hr.und, Result.andThen_ok]
    cases es with
    | nil => exact .inl ⟨rfl, by simp⟩
    | cons e es =>
      obtain ⟨k', hk'⟩ := hes e (by simp)
      rw [show pairK k = agI [k.1, k.2] from rfl, findNow_S (fun ys => rfl) (ys := [k'.1, k'.2]) hk' 0]
      have := run_findAskS (w := w) hr (xs := [k.1, k.2]) rfl (e :: es) 0 (fun x hx => by obtain ⟨q, hq⟩ := hes x hx; exact ⟨[q.1, q.2], rfl, hq⟩)
      simpa only [Nat.zero_add] using this
  stays := fun w k => by
    unfold Instr.keyThatStays
    rw [if_pos (by
      show Instr.sameBits (9998 + 1 + 1) (agI [k.1, k.2]) (agI [k.1, k.2]) = true
      simp [Instr.sameBits, agI, iv])]
    rfl

/-! ### many small blocks as one -/
def bagR (rs : List Res) : Res :=
  ⟨rs.flatMap Res.ids, fun H => ∀ r ∈ rs, r.P H, fun H H' hh hp r hr => r.loc H H' (fun i hi => hh i (List.mem_flatMap.2 ⟨r, hr, hi⟩)) (hp r hr),
    fun H hp i hi => by obtain ⟨r, hr, hri⟩ := List.mem_flatMap.1 hi; exact r.ex H (hp r hr) i hri⟩
theorem Own.regroup {w : World} {h h' : Mem} (ho : Own w0 bor h w) (hp : ∀ r ∈ h', r.P (hf w)) (hs : (h'.flatMap Res.ids).Perm (h.flatMap Res.ids)) : Own w0 bor h' w :=
  ⟨ho.os, ho.tape, ho.output, ho.size, ho.old, hp, hs.nodup_iff.2 ho.nd, fun r hr i hi => by
    obtain ⟨s, hs', his⟩ := List.mem_flatMap.1 (hs.mem_iff.1 (List.mem_flatMap.2 ⟨r, hr, hi⟩))
    exact ho.fr s hs' i his⟩
/-- An empty bag lies nowhere. -/
theorem Own.bag0 {w : World} (ho : Own w0 bor h w) : Own w0 bor (h ++ [bagR []]) w :=
  ho.regroup (fun r hr => by
    rcases List.mem_append.1 hr with hr | hr
    · exact ho.mine r hr
    · rw [List.mem_singleton.1 hr]; intro s hs; cases hs) (by
    rw [List.flatMap_append]
    simp [bagR])
/-- What lies at j goes into the bag at i. -/
theorem Own.bagPut {w : World} {A B C : Mem} {rs : List Res} {r : Res} (ho : Own w0 bor h w) (hh : h = A ++ bagR rs :: (B ++ r :: C)) : Own w0 bor (A ++ bagR (rs ++ [r]) :: (B ++ C)) w := by
  subst hh
  refine ho.regroup (fun s hs => ?_) ?_
  · simp only [List.mem_append, List.mem_cons] at hs
    rcases hs with hs | rfl | hs | hs
    · exact ho.mine s (by simp [hs])
    · intro t ht
      rcases List.mem_append.1 ht with ht | ht
      · exact ho.mine (bagR rs) (by simp) t ht
      · rw [List.mem_singleton.1 ht]; exact ho.mine r (by simp)
    · exact ho.mine s (by simp [hs])
    · exact ho.mine s (by simp [hs])
  · simp only [List.flatMap_append, List.flatMap_cons, bagR, List.flatMap_nil, List.append_nil, List.append_assoc]
    refine List.Perm.append_left _ (List.Perm.append_left _ ?_)
    rw [← List.append_assoc, ← List.append_assoc]
    exact List.Perm.append_right _ List.perm_append_comm
theorem Own.bagAt {w : World} {i : Nat} {rs : List Res} {r : Res} (ho : Own w0 bor h w) (hi : h[i]? = some (bagR rs)) (hr : r ∈ rs) : r.P (hf w) := ho.mine _ (List.mem_of_getElem? hi) r hr
end
end Go.Cru
