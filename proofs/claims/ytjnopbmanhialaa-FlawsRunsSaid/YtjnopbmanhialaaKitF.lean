/-
  More of the layer: default rules; operations, and records that hold operations.
-/
import Derived.Test.YtjnopbmanhialaaKitE
namespace Go.Cru
open Go

section
variable {P : Program} {n : Nat} {w0 : World} {bor : List Nat} {l : Env} {h hs : Mem} {o : Oper} {v : Value}
/-- A struct all of whose fields are given. -/
theorem Sil.buildAll {T : TypeId} {fl : List Field} {z : Value} {ps : List (Nat × Operand)} (vs : List (Nat × Value)) (ho : o.op = .build T ps.toArray) (hp : ps.map (fun p => (p.1, ev l p.2)) = vs.map (fun p => (p.1, some p.2)))
    (hT : P.underlying T = some (.struct fl.toArray)) (hz : (P.info? T).bind (·.zero) = some z)
    (hs' : fl.map (fun f => (P.info? f.type).map (·.size)) = (List.replicate fl.length 1).map some) (hf : Instr.fill (fun i => ((fl.map (·.offset)).zip (List.replicate fl.length 1)).toArray[i]?) z.cells vs = some (vs.map (·.2)).toArray) : Sil P n w0 bor hs l o (.agg (vs.map (·.2)).toArray) :=
  Sil.buildS ho hp hT hz hs' hf
theorem foldl_zip (cs : List Value) : ∀ (i : Nat) (as : Array Value), (cs.zipIdx i).foldl (fun as (p : Value × Nat) => as.setIfInBounds (0 + p.2) p.1) as = putCells as i cs := by
  induction cs with
  | nil => intro i as; rfl
  | cons c cs ih =>
    intro i as
    rw [List.zipIdx_cons, List.foldl_cons, ih (i + 1)]
    simp [putCells]
theorem run_buildSlice1 {T e : TypeId} {s : Nat} {z : Value} {w : World} (hT : P.underlying T = some (.slice e)) (hi : (P.info? e).map (fun i => (i.zero, i.size)) = some (some z, s + 1)) (hsm : s + 1 ≤ 2 ^ 24) (hv : v.cells.size = s + 1) :
    (Instr.buildSlice T 1 #[(0, v)]).run P w = .ok (.slice (some ⟨w.heap.size, 0, none⟩) 1 1) { w with heap := w.heap.push (.cells v.cells e) } := by
  cases hie : P.info? e with
  | none => rw [hie] at hi; cases hi
  | some i =>
    rw [hie] at hi
    simp only [Option.map_some, Option.some.injEq, Prod.mk.injEq] at hi
    obtain ⟨h1, h2⟩ := hi
    have hsz : (P.info? e).map (·.size) = some (s + 1) := by rw [hie]; simp [h2]
    have hz : (zeroValue e).run P w = .ok z w := by simp [zeroValue, typeInfo, program, Sem.run, hie, h1, Bind.bind, Sem.bind, Pure.pure]
    unfold Instr.buildSlice
    rw [Sem.run_bind, run_underlying' hT, Result.andThen_ok]
    show (sizeOf e >>= fun _ => _ : Sem Value).run P w = _
    rw [Sem.run_bind, run_sizeOf hsz, Result.andThen_ok]
    have h0 : ¬ 1 * (s + 1) > 2 ^ 24 := by omega
    have hne : ¬ 1 * (s + 1) = 0 := by omega
    simp only [h0, if_false, hne, Sem.run_bind, hz, Result.andThen_ok, Sem.run_pure]
    have hfill : Instr.fill (fun i => some (i * (s + 1), s + 1)) ((Array.range (1 * (s + 1))).map (z.cells[· % z.cells.size]!)) [(0, v)] = some v.cells := by
      unfold Instr.fill
      have hc : ¬ ((v.cells.size ≠ s + 1 || 0 * (s + 1) + v.cells.size > ((Array.range (1 * (s + 1))).map (z.cells[· % z.cells.size]!)).size) = true) := by simp [hv]
      simp only [hc]
      unfold Instr.fill
      show some _ = some _
      congr 1
      rw [Nat.zero_mul]
      have := foldl_zip v.cells.toList 0 ((Array.range (1 * (s + 1))).map (z.cells[· % z.cells.size]!))
      rw [putCells_all _ _ (by simp [hv])] at this
      rw [← Array.foldl_toList, Array.toList_zipIdx]
      exact this
    rw [hfill]
    rfl
/-- []T{v} -/
theorem LO.buildSlice1 {T e : TypeId} {s : Nat} {z : Value} {x : Operand} (ho : o.op = .buildSlice T 1 #[(0, x)]) (hx : ev l x = some v) (hT : P.underlying T = some (.slice e)) (hi : (P.info? e).map (fun i => (i.zero, i.size)) = some (some z, s + 1)) (hsm : Nat.ble (s + 1) 16777216 = true) (hv : v.cells.size = s + 1) :
    LO P n w0 bor h l o fun u h' => ∃ b, u = .slice (some ⟨b, 0, none⟩) 1 1 ∧ h' = h ++ [blk b (.cells v.cells e (0, 0))] :=
  LO.buildSlice (ps := [(0, x)]) (vs := [(0, v)]) (cs := v.cells) (e := e) ho (by simp [hx]) fun w => run_buildSlice1 hT hi (by simpa using hsm) hv
theorem run_buildSlice0 {T e : TypeId} {s : Nat} {w : World} (hT : P.underlying T = some (.slice e)) (hi : (P.info? e).map (·.size) = some s) :
    (Instr.buildSlice T 0 #[]).run P w = .ok (.slice (some ⟨w.heap.size, 0, none⟩) 0 0) { w with heap := w.heap.push (.cells #[] e) } := by
  unfold Instr.buildSlice
  rw [Sem.run_bind, run_underlying' hT, Result.andThen_ok]
  show (sizeOf e >>= fun _ => _ : Sem Value).run P w = _
  rw [Sem.run_bind, run_sizeOf hi, Result.andThen_ok]
  have h0 : ¬ 0 * s > 2 ^ 24 := by omega
  have hne : 0 * s = 0 := by omega
  rw [if_neg h0]
  simp only [hne, if_true, Sem.run_bind, Sem.run_pure, Result.andThen_ok, show Array.range 0 = #[] from rfl, List.map_toArray, List.map_nil]
  rfl
/-- []T{}, seen as a slice of the call's own. -/
theorem LO.buildSlice0 {T e : TypeId} {s : Nat} (ho : o.op = .buildSlice T 0 #[]) (hT : P.underlying T = some (.slice e)) (hi : (P.info? e).map (·.size) = some s) :
    LO P n w0 bor h l o fun u h' => ∃ b, u = .slice (some ⟨b, 0, none⟩) 0 0 ∧ h' = h ++ [sq (some ⟨b, 0, none⟩) 0 0 e s []] := by
  refine LO.of_value (s := Instr.buildSlice T 0 #[]) (fun a hf => by unfold execOp; simp only [ho, List.map_toArray, List.map_nil]) fun w hw => ?_
  refine ⟨_, _, _, run_buildSlice0 hT hi, ⟨w.heap.size, rfl, rfl⟩, ?_⟩
  refine hw.new _ _ rfl ⟨by simp, .inr ⟨w.heap.size, #[], rfl, (show (w.heap.push _)[w.heap.size]? = _ from Array.getElem?_push_size), Nat.le_refl _, Nat.zero_le _, by simp, by simp⟩⟩
end

/-! ### a block is found by trying -/
inductive AtI {α : Type} : List α → Nat → α → Prop
  | head {a : α} {l : List α} : AtI (a :: l) 0 a
  | tail {a b : α} {l : List α} {i : Nat} : AtI l i a → AtI (b :: l) (i + 1) a
theorem at0 {α : Type} {a : α} {l : List α} : AtI (a :: l) 0 a := .head
theorem at1 {α : Type} {b0 a : α} {l : List α} : AtI (b0 :: a :: l) 1 a := .tail .head
theorem at2 {α : Type} {b0 b1 a : α} {l : List α} : AtI (b0 :: b1 :: a :: l) 2 a := .tail (.tail .head)
theorem at3 {α : Type} {b0 b1 b2 a : α} {l : List α} : AtI (b0 :: b1 :: b2 :: a :: l) 3 a := .tail (.tail (.tail .head))
theorem at4 {α : Type} {b0 b1 b2 b3 a : α} {l : List α} : AtI (b0 :: b1 :: b2 :: b3 :: a :: l) 4 a := .tail (.tail (.tail (.tail .head)))
theorem at5 {α : Type} {b0 b1 b2 b3 b4 a : α} {l : List α} : AtI (b0 :: b1 :: b2 :: b3 :: b4 :: a :: l) 5 a := .tail (.tail (.tail (.tail (.tail .head))))
theorem at6 {α : Type} {b0 b1 b2 b3 b4 b5 a : α} {l : List α} : AtI (b0 :: b1 :: b2 :: b3 :: b4 :: b5 :: a :: l) 6 a := .tail (.tail (.tail (.tail (.tail (.tail .head)))))
theorem at7 {α : Type} {b0 b1 b2 b3 b4 b5 b6 a : α} {l : List α} : AtI (b0 :: b1 :: b2 :: b3 :: b4 :: b5 :: b6 :: a :: l) 7 a := .tail (.tail (.tail (.tail (.tail (.tail (.tail .head))))))
theorem at8 {α : Type} {b0 b1 b2 b3 b4 b5 b6 b7 a : α} {l : List α} : AtI (b0 :: b1 :: b2 :: b3 :: b4 :: b5 :: b6 :: b7 :: a :: l) 8 a := .tail (.tail (.tail (.tail (.tail (.tail (.tail (.tail .head)))))))
theorem at9 {α : Type} {b0 b1 b2 b3 b4 b5 b6 b7 b8 a : α} {l : List α} : AtI (b0 :: b1 :: b2 :: b3 :: b4 :: b5 :: b6 :: b7 :: b8 :: a :: l) 9 a := .tail (.tail (.tail (.tail (.tail (.tail (.tail (.tail (.tail .head))))))))
theorem at10 {α : Type} {b0 b1 b2 b3 b4 b5 b6 b7 b8 b9 a : α} {l : List α} : AtI (b0 :: b1 :: b2 :: b3 :: b4 :: b5 :: b6 :: b7 :: b8 :: b9 :: a :: l) 10 a := .tail (.tail (.tail (.tail (.tail (.tail (.tail (.tail (.tail (.tail .head)))))))))
theorem at11 {α : Type} {b0 b1 b2 b3 b4 b5 b6 b7 b8 b9 b10 a : α} {l : List α} : AtI (b0 :: b1 :: b2 :: b3 :: b4 :: b5 :: b6 :: b7 :: b8 :: b9 :: b10 :: a :: l) 11 a := .tail (.tail (.tail (.tail (.tail (.tail (.tail (.tail (.tail (.tail (.tail .head))))))))))
theorem at12 {α : Type} {b0 b1 b2 b3 b4 b5 b6 b7 b8 b9 b10 b11 a : α} {l : List α} : AtI (b0 :: b1 :: b2 :: b3 :: b4 :: b5 :: b6 :: b7 :: b8 :: b9 :: b10 :: b11 :: a :: l) 12 a := .tail (.tail (.tail (.tail (.tail (.tail (.tail (.tail (.tail (.tail (.tail (.tail .head)))))))))))
theorem at13 {α : Type} {b0 b1 b2 b3 b4 b5 b6 b7 b8 b9 b10 b11 b12 a : α} {l : List α} : AtI (b0 :: b1 :: b2 :: b3 :: b4 :: b5 :: b6 :: b7 :: b8 :: b9 :: b10 :: b11 :: b12 :: a :: l) 13 a := .tail (.tail (.tail (.tail (.tail (.tail (.tail (.tail (.tail (.tail (.tail (.tail (.tail .head))))))))))))
theorem at14 {α : Type} {b0 b1 b2 b3 b4 b5 b6 b7 b8 b9 b10 b11 b12 b13 a : α} {l : List α} : AtI (b0 :: b1 :: b2 :: b3 :: b4 :: b5 :: b6 :: b7 :: b8 :: b9 :: b10 :: b11 :: b12 :: b13 :: a :: l) 14 a := .tail (.tail (.tail (.tail (.tail (.tail (.tail (.tail (.tail (.tail (.tail (.tail (.tail (.tail .head)))))))))))))
theorem at15 {α : Type} {b0 b1 b2 b3 b4 b5 b6 b7 b8 b9 b10 b11 b12 b13 b14 a : α} {l : List α} : AtI (b0 :: b1 :: b2 :: b3 :: b4 :: b5 :: b6 :: b7 :: b8 :: b9 :: b10 :: b11 :: b12 :: b13 :: b14 :: a :: l) 15 a := .tail (.tail (.tail (.tail (.tail (.tail (.tail (.tail (.tail (.tail (.tail (.tail (.tail (.tail (.tail .head))))))))))))))
theorem AtI.at {α : Type} {l : List α} {i : Nat} {a : α} (h : AtI l i a) : l[i]? = some a := by
  induction h with
  | head => rfl
  | tail _ ih => exact ih
section
variable {P : Program} {n : Nat} {w0 : World} {bor : List Nat} {l : Env} {h hs : Mem} {o : Oper} {v : Value}
theorem Sil.ownV {x : Operand} {T : TypeId} {d : TypeDesc} {b off i : Nat} {cs : List Value} {T' : TypeId} {fr : Nat × Nat} (ho : o.op = .load T x) (hx : ev l x = some (.pointer (some ⟨b, off, none⟩))) (hi : AtI hs i (blk b (.cells cs.toArray T' fr)))
    (hT : P.underlying T = some d) (hd : aggB d = false) (hc : nth cs off = some v) : Sil P n w0 bor hs l o v := Sil.ownL i ho hx hi.at hT hd hc
theorem Sil.wholeV {x : Operand} {T : TypeId} {d : TypeDesc} {s b i : Nat} {cs : Array Value} {T' : TypeId} {fr : Nat × Nat} (ho : o.op = .load T x) (hx : ev l x = some (.pointer (some ⟨b, 0, none⟩))) (hi : AtI hs i (blk b (.cells cs T' fr)))
    (hT : Ty P T d s) (hd : aggB d = true) (hc : cs.size = s) : Sil P n w0 bor hs l o (.agg cs) := Sil.whole i ho hx hi.at hT hd hc
theorem LO.storeAllV {x y : Operand} {T : TypeId} {s b i : Nat} {cs cs' : Array Value} {T' : TypeId} (ho : o.op = .store T x y) (hx : ev l x = some (.pointer (some ⟨b, 0, none⟩))) (hy : ev l y = some (.agg cs')) (hi : AtI h i (blk b (.cells cs T' (0, 0))))
    (hT : (P.info? T).map (·.size) = some s) (hl : cs'.size = s) (hsz : cs.size = s) (h1 : cs'.toList.all oneC = true) :
    LO P n w0 bor h l o fun u h' => u = undef ∧ h' = h.set i (blk b (.cells cs' T' (0, 0))) := LO.storeAll i ho hx hy hi.at hT hl hsz h1
theorem LO.store1V {x y : Operand} {T : TypeId} {b i : Nat} {u0 : Value} {T' : TypeId} (ho : o.op = .store T x y) (hx : ev l x = some (.pointer (some ⟨b, 0, none⟩))) (hy : ev l y = some v) (hi : AtI h i (blk b (.cells #[u0] T' (0, 0))))
    (hT : (P.info? T).map (·.size) = some 1) (hl : v.cells = #[v]) (h1 : oneC v = true) :
    LO P n w0 bor h l o fun u h' => u = undef ∧ h' = h.set i (blk b (.cells #[v] T' (0, 0))) := LO.store1 i ho hx hy hi.at hT hl h1
end

/-! ### operations, records -/
structure OpD where
  k : Int
  key : Int
  val : Int
deriving DecidableEq
def OpD.is (o : OpD) : List Int := [o.k, o.key, o.val]
/-- An event (kind, client) or a transaction (client, state): two integers and operations. -/
structure RcD where
  p : Int
  q : Int
  ops : List OpD
deriving DecidableEq
theorem OpD.is_inj {a b : OpD} (h : a.is = b.is) : a = b := by
  cases a; cases b
  simpa [OpD.is] using h
def opsC (xs : List OpD) : List Value := xs.flatMap fun o => iv o.is
theorem opsC_length (xs : List OpD) : (opsC xs).length = xs.length * 3 := by
  induction xs with
  | nil => rfl
  | cons x xs ih => simp only [opsC, List.flatMap_cons, List.length_append] at ih ⊢; rw [ih]; simp [iv, OpD.is]; omega
theorem flat_at {α β : Type} {s : Nat} {f : α → List β} (hf : ∀ a, (f a).length = s) : ∀ (xs : List α) (j i : Nat) (x : α) (u : β), xs[j]? = some x → (f x)[i]? = some u → (xs.flatMap f)[j * s + i]? = some u
  | [], _, _, _, _, h, _ => by cases h
  | y :: ys, 0, i, x, u, h, hu => by
    simp at h; subst h
    rw [List.flatMap_cons, Nat.zero_mul, Nat.zero_add, List.getElem?_append_left (List.getElem?_eq_some_iff.1 hu).1]
    exact hu
  | y :: ys, j + 1, i, x, u, h, hu => by
    rw [List.flatMap_cons, List.getElem?_append_right (by rw [hf, Nat.add_mul]; omega), hf, show (j + 1) * s + i - s = j * s + i from by rw [Nat.add_mul]; omega]
    exact flat_at hf ys j i x u (by simpa using h) hu
theorem opsC_at {xs : List OpD} {j : Nat} {o : OpD} (hj : xs[j]? = some o) : ∀ i u, (iv o.is)[i]? = some u → (opsC xs)[j * 3 + i]? = some u := fun i u hu => flat_at (s := 3) (f := fun o : OpD => iv o.is) (fun _ => rfl) xs j i o u hj hu
theorem opsC_snoc (xs : List OpD) (o : OpD) : opsC xs ++ iv o.is = opsC (xs ++ [o]) := by simp [opsC]
theorem opsC_one (xs : List OpD) : ∀ u ∈ opsC xs, oneC u = true := by
  intro u hu
  obtain ⟨o, _, ho⟩ := List.mem_flatMap.1 hu
  simp only [iv, OpD.is, List.map_cons, List.map_nil, List.mem_cons, List.not_mem_nil, or_false] at ho
  rcases ho with rfl | rfl | rfl <;> rfl
def OpsAt (w : World) (a : Option Addr) (xs : List OpD) : Prop := xs.length ≤ maxLen ∧ ∀ j o, xs[j]? = some o → ∃ x, a = some x ∧ RdC w (x.add (j * 3)) (iv o.is)
def OpsV (w : World) (v : Value) (xs : List OpD) : Prop := ∃ a cap, v = .slice a xs.length cap ∧ OpsAt w a xs
def rcC (e : RcD) (u : Value) : List Value := [.int .i64 e.p, .int .i64 e.q, u]
def RcsAt (w : World) (a : Option Addr) (es : List RcD) : Prop := es.length ≤ maxLen ∧ ∀ j e, es[j]? = some e → ∃ x u, a = some x ∧ RdC w (x.add (j * 3)) (rcC e u) ∧ OpsV w u e.ops
theorem OpsAt.keep {w w' : World} {a : Option Addr} {xs : List OpD} (h : OpsAt w a xs) (k : Keep w w') : OpsAt w' a xs := ⟨h.1, fun j o hj => by obtain ⟨x, e, hr⟩ := h.2 j o hj; exact ⟨x, e, hr.keep k⟩⟩
theorem OpsV.keep {w w' : World} {v : Value} {xs : List OpD} (h : OpsV w v xs) (k : Keep w w') : OpsV w' v xs := by obtain ⟨a, c, e, hr⟩ := h; exact ⟨a, c, e, hr.keep k⟩
theorem RcsAt.keep {w w' : World} {a : Option Addr} {es : List RcD} (h : RcsAt w a es) (k : Keep w w') : RcsAt w' a es := ⟨h.1, fun j e hj => by obtain ⟨x, u, e1, hr, ho⟩ := h.2 j e hj; exact ⟨x, u, e1, hr.keep k, ho.keep k⟩⟩
theorem sq_cell {w : World} {g m cap T sz off : Nat} {xs : List Value} {u : Value} (h : (sq (some ⟨g, 0, none⟩) m cap T sz xs).P (hf w)) (hx : xs[off]? = some u) : w.cell? ⟨g, off, none⟩ = some u := by
  obtain ⟨_, h2⟩ := h
  rcases h2 with ⟨e, _⟩ | ⟨g', cur, e, hg, _, _, _, ht⟩
  · cases e
  · cases e
    rw [cell_hf]
    simp only [cellF, hg]
    rw [← ht, List.getElem?_take] at hx
    split at hx
    · simpa using hx
    · cases hx
theorem sq_le {w : World} {ao : Option Addr} {m cap T sz : Nat} {xs : List Value} (h : (sq ao m cap T sz xs).P (hf w)) : m ≤ cap ∧ m ≤ maxLen := by
  rcases h.2 with ⟨_, e1, e2⟩ | ⟨_, _, _, _, e1, e2, _⟩
  · subst e1 e2; exact ⟨Nat.le_refl _, Nat.zero_le _⟩
  · exact ⟨e1, by omega⟩
theorem sq_some {w : World} {ao : Option Addr} {m cap T sz : Nat} {xs : List Value} (h : (sq ao m cap T sz xs).P (hf w)) (hm : 0 < m) : ∃ g, ao = some ⟨g, 0, none⟩ := by
  rcases h.2 with ⟨_, e, _⟩ | ⟨g, _, e, _⟩
  · omega
  · exact ⟨g, e⟩
/-- A slice of operations of the caller's own, as the function that it is handed to reads it. -/
theorem OpsAt.of_sq {w : World} {ao : Option Addr} {cap T : Nat} {xs : List OpD} (h : (sq ao xs.length cap T 3 (opsC xs)).P (hf w)) : OpsAt w ao xs :=
  ⟨(sq_le h).2, fun j o hj => by
    obtain ⟨g, rfl⟩ := sq_some h (by have := ltOf hj; omega)
    exact ⟨_, rfl, fun i u hu => by rw [add_lit, add_lit, Nat.zero_add]; exact sq_cell h (opsC_at hj i u hu)⟩⟩
/-! records with the slices that they hold -/
abbrev RcV := RcD × Value
def rvsC (xs : List RcV) : List Value := xs.flatMap fun x => rcC x.1 x.2
theorem rvsC_length (xs : List RcV) : (rvsC xs).length = xs.length * 3 := by
  induction xs with
  | nil => rfl
  | cons x xs ih => simp only [rvsC, List.flatMap_cons, List.length_append] at ih ⊢; rw [ih]; simp [rcC]; omega
theorem rvsC_at {xs : List RcV} {j : Nat} {x : RcV} (hj : xs[j]? = some x) : ∀ i u, (rcC x.1 x.2)[i]? = some u → (rvsC xs)[j * 3 + i]? = some u := fun i u hu => flat_at (s := 3) (f := fun x : RcV => rcC x.1 x.2) (fun _ => rfl) xs j i x u hj hu
theorem rvsC_snoc (xs : List RcV) (x : RcV) : rvsC xs ++ rcC x.1 x.2 = rvsC (xs ++ [x]) := by simp [rvsC]
/-- The operations of x lie in the bag rs. -/
def Lies (T : TypeId) (rs : List Res) (x : RcV) : Prop := (x.1.ops = [] ∧ ∃ a c, x.2 = .slice a 0 c) ∨ ∃ b c, x.2 = .slice (some ⟨b, 0, none⟩) x.1.ops.length c ∧ sq (some ⟨b, 0, none⟩) x.1.ops.length c T 3 (opsC x.1.ops) ∈ rs
theorem Lies.mono {T : TypeId} {rs rs' : List Res} {x : RcV} (h : Lies T rs x) (hs : ∀ r ∈ rs, r ∈ rs') : Lies T rs' x := h.imp id fun ⟨b, c, e, hm⟩ => ⟨b, c, e, hs _ hm⟩
theorem Lies.ops {T : TypeId} {rs : List Res} {x : RcV} {w : World} (h : Lies T rs x) (hb : (bagR rs).P (hf w)) : OpsV w x.2 x.1.ops := by
  rcases h with ⟨e, a, c, e2⟩ | ⟨b, c, e, hm⟩
  · exact ⟨a, c, by rw [e2, e]; rfl, by rw [e]; exact ⟨Nat.zero_le _, fun j o hj => by cases hj⟩⟩
  · exact ⟨_, c, e, OpsAt.of_sq (hb _ hm)⟩
theorem RcsAt.of_sq {w : World} {ao : Option Addr} {cap T T' : Nat} {xs : List RcV} {rs : List Res} (h : (sq ao xs.length cap T 3 (rvsC xs)).P (hf w)) (hb : (bagR rs).P (hf w)) (hl : ∀ x ∈ xs, Lies T' rs x) : RcsAt w ao (xs.map (·.1)) :=
  ⟨by rw [List.length_map]; exact (sq_le h).2, fun j e hj => by
    rw [List.getElem?_map] at hj
    obtain ⟨x, hx, rfl⟩ := Option.map_eq_some_iff.1 hj
    obtain ⟨g, rfl⟩ := sq_some h (by have := ltOf hx; omega)
    exact ⟨_, x.2, rfl, fun i u hu => by rw [add_lit, add_lit, Nat.zero_add]; exact sq_cell h (rvsC_at hx i u hu), (hl x (List.mem_of_getElem? hx)).ops hb⟩⟩
end Go.Cru
