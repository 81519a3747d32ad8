/-
  More of the layer: slices that the call makes; appending.
-/
import Derived.Test.YtjnopbmanhialaaKit
import Derived.Maps.AppendAt
import Derived.Laws.MakeOwn
namespace Go.Cru
open Go

/-- n cells, by a function. -/
def arr (n : Nat) (f : Nat → Value) : Array Value := ((List.range n).map f).toArray
theorem arr_size (n : Nat) (f : Nat → Value) : (arr n f).size = n := by simp [arr]
theorem arr_at (n : Nat) (f : Nat → Value) (i : Nat) (hi : i < n) : (arr n f)[i]? = some (f i) := by simp [arr, hi]
def updV (f : Nat → Value) (j : Nat) (v : Value) : Nat → Value := fun t => if t = j then v else f t
theorem arr_none (n : Nat) (f : Nat → Value) (i : Nat) (hi : ¬ i < n) : (arr n f)[i]? = none := Array.getElem?_eq_none (by rw [arr_size]; omega)
theorem arr_put (n : Nat) (f : Nat → Value) (j : Nat) (v : Value) : putCells (arr n f) j [v] = arr n (updV f j v) := by
  apply Array.ext_getElem?
  intro i
  simp only [putCells, Array.getElem?_setIfInBounds, arr_size]
  by_cases hi : i < n
  · rw [arr_at n (updV f j v) _ hi, arr_at n f _ hi]
    by_cases e : j = i
    · subst e; rw [if_pos rfl, if_pos hi]; simp [updV]
    · rw [if_neg e]; simp [updV, Ne.symm e]
  · rw [arr_none n (updV f j v) _ hi, arr_none n f _ hi]
    split
    · rw [if_neg (by omega)]
    · rfl
theorem arr_congr {n : Nat} {f g : Nat → Value} (h : ∀ t, t < n → f t = g t) : arr n f = arr n g := by
  unfold arr
  congr 1
  exact List.map_congr_left fun t ht => h t (List.mem_range.1 ht)

/-- A slice that is nil or begins at the head of a block of its own: m elements of sz cells, the cells xs. -/
def sq (ao : Option Addr) (m cap : Nat) (T sz : Nat) (xs : List Value) : Res :=
  ⟨(ao.map (·.block)).toList, fun H => xs.length = m * sz ∧ ((ao = none ∧ m = 0 ∧ cap = 0) ∨ ∃ g cur, ao = some ⟨g, 0, none⟩ ∧ H g = some (.cells cur T (0, 0)) ∧ m ≤ cap ∧ cap ≤ maxLen ∧ cur.size = cap * sz ∧ cur.toList.take (m * sz) = xs),
    fun H H' hh ⟨h1, h2⟩ => ⟨h1, h2.imp id fun ⟨g, cur, e, hg, r⟩ => ⟨g, cur, e, by rw [hh g (by simp [e])]; exact hg, r⟩⟩,
    fun H ⟨_, h2⟩ i hi => by
      rcases h2 with ⟨e, _⟩ | ⟨g, cur, e, hg, _⟩
      · simp [e] at hi
      · simp [e] at hi; subst hi; rw [hg]; simp⟩
theorem sq_own {w : World} {ao : Option Addr} {m cap T sz : Nat} {xs : List Value} (h : (sq ao m cap T sz xs).P (hf w)) : w.ownsRow 0 T sz (.slice ao m cap) m xs := by
  obtain ⟨h1, h2⟩ := h
  refine ⟨h1, h2.imp (fun ⟨a, b, c⟩ => ?_) fun ⟨g, cur, e, hg, r⟩ => ⟨g, cap, cur, by rw [e], Nat.zero_le _, hg, r⟩⟩
  subst a b c
  exact ⟨rfl, rfl⟩
theorem own_sq {w : World} {v : Value} {m T sz : Nat} {xs : List Value} (h : w.ownsRow 0 T sz v m xs) : ∃ ao cap, v = .slice ao m cap ∧ (sq ao m cap T sz xs).P (hf w) := by
  obtain ⟨h1, h2⟩ := h
  rcases h2 with ⟨rfl, rfl⟩ | ⟨g, cap, cur, rfl, _, r⟩
  · exact ⟨none, 0, rfl, h1, .inl ⟨rfl, rfl, rfl⟩⟩
  · exact ⟨_, _, rfl, h1, .inr ⟨g, cur, rfl, r⟩⟩
theorem sq_nil (T sz : Nat) (H : HF) : (sq none 0 0 T sz []).P H := ⟨by simp, .inl ⟨rfl, rfl, rfl⟩⟩
/-- A nil slice lies nowhere: it may always be listed. -/
theorem Own.nil {w0 w : World} {bor : List Nat} {h : Mem} (o : Own w0 bor h w) (T sz : Nat) : Own w0 bor (h ++ [sq none 0 0 T sz []]) w :=
  ⟨o.os, o.tape, o.output, o.size, o.old, fun r hr => by
    rcases List.mem_append.1 hr with hr | hr
    · exact o.mine r hr
    · rw [List.mem_singleton.1 hr]; exact sq_nil T sz _, by
    rw [List.flatMap_append]
    simp [sq]
    exact o.nd, fun r hr i hi => by
    rcases List.mem_append.1 hr with hr | hr
    · exact o.fr r hr i hi
    · rw [List.mem_singleton.1 hr] at hi; simp [sq] at hi⟩
/-- Resource number i is written, or lies anew in a block that was just made. -/
theorem Own.renew {w0 w w' : World} {bor : List Nat} {h : Mem} (o : Own w0 bor h w) {i : Nat} {r r' : Res} (hi : h[i]? = some r) (hid : r'.ids = r.ids ∨ r'.ids = [w.heap.size])
    (hos : w'.os = w.os) (htape : w'.tape = w.tape) (hout : w'.output = w.output) (hsize : w.heap.size ≤ w'.heap.size) (hk : ∀ k, k < w.heap.size → k ∉ r.ids → w'.heap[k]? = w.heap[k]?) (hr : r'.P (hf w')) : Own w0 bor (h.set i r') w' := by
  have hmem := List.mem_of_getElem? hi
  have hlt := o.lt
  refine ⟨hos.trans o.os, htape.trans o.tape, hout.trans o.output, Nat.le_trans o.size hsize, fun k hk' hb => ?_, fun s hs => ?_, ?_, fun s hs j hj => ?_⟩
  · rw [hk k (Nat.lt_of_lt_of_le hk' o.size) (fun hkr => (o.fr r hmem k hkr).elim (fun h1 => by omega) hb)]
    exact o.old k hk' hb
  · rcases mem_set_of h i r' s hs with rfl | ⟨j, hne, hj⟩
    · exact hr
    · exact s.loc _ _ (fun k hks => hk k (hlt s (List.mem_of_getElem? hj) k hks) (nodup_flatMap_at h o.nd hi hj hne k hks)) (o.mine s (List.mem_of_getElem? hj))
  · rcases hid with hid | hid
    · rw [flatMap_set h i r r' hi hid]; exact o.nd
    · have hnd := o.nd
      have hil : i < h.length := (List.getElem?_eq_some_iff.1 hi).1
      have hri : h[i] = r := (List.getElem?_eq_some_iff.1 hi).2
      have hsplit : h = h.take i ++ r :: h.drop (i + 1) := by rw [← hri, List.getElem_cons_drop, List.take_append_drop]
      have hset : h.set i r' = h.take i ++ r' :: h.drop (i + 1) := by rw [List.set_eq_take_append_cons_drop, if_pos hil]
      rw [hset, List.flatMap_append, List.flatMap_cons, hid]
      rw [hsplit, List.flatMap_append, List.flatMap_cons] at hnd
      obtain ⟨n1, n2, n3⟩ := List.nodup_append.1 hnd
      obtain ⟨m1, m2, m3⟩ := List.nodup_append.1 n2
      have hsm : ∀ s ∈ h, ∀ a ∈ s.ids, a ≠ w.heap.size := fun s hs a ha e => by have := hlt s hs a ha; omega
      refine List.nodup_append.2 ⟨n1, List.nodup_append.2 ⟨by simp, m2, fun a ha b hb => ?_⟩, fun a ha b hb => ?_⟩
      · obtain ⟨s, hs, hbs⟩ := List.mem_flatMap.1 hb
        rw [List.mem_singleton.1 ha]
        exact fun e => hsm s (List.mem_of_mem_drop hs) b hbs e.symm
      · obtain ⟨s, hs, has⟩ := List.mem_flatMap.1 ha
        rcases List.mem_append.1 hb with hb | hb
        · rw [List.mem_singleton.1 hb]; exact hsm s (List.mem_of_mem_take hs) a has
        · exact n3 a ha b (List.mem_append.2 (.inr hb))
  · rcases mem_set_of h i r' s hs with rfl | ⟨k, hne, hk'⟩
    · rcases hid with hid | hid
      · exact o.fr r hmem j (hid ▸ hj)
      · rw [hid, List.mem_singleton] at hj
        exact .inl (hj ▸ o.size)
    · exact o.fr s (List.mem_of_getElem? hk') j hj
section
variable {P : Program} {n : Nat} {w0 : World} {bor : List Nat} {l : Env} {h hs : Mem} {o : Oper} {v : Value}
/-- One element type's row of the table. -/
structure El (P : Program) (t e : TypeId) (z : Value) (sz bytes : Nat) : Prop where
  sl : P.underlying t = some (.slice e)
  info : (P.info? e).map (fun i => (i.zero, i.size, i.bytes)) = some (some z, sz, bytes)
  zs : z.cells.size = sz
  pos : 0 < sz
theorem El.row {t e : TypeId} {z : Value} {sz bytes : Nat} (h : El P t e z sz bytes) : ∃ i, P.info? e = some i ∧ i.zero = some z ∧ i.size = sz ∧ i.bytes = bytes := by
  have := h.info
  cases hi : P.info? e with
  | none => rw [hi] at this; cases this
  | some i =>
    rw [hi] at this
    simp only [Option.map_some, Option.some.injEq, Prod.mk.injEq] at this
    exact ⟨i, rfl, this.1, this.2.1, this.2.2⟩
theorem LO.append {x y : Operand} {t e : TypeId} {z : Value} {sz bytes : Nat} {ao : Option Addr} {m cap : Nat} {xs : List Value} {ad : Addr} {k c : Nat} (i : Nat) (news : List Value)
    (ho : o.op = .call { callee := .builtin .append, args := #[x, y], argTypes := #[t, t] }) (hx : ev l x = some (.slice ao m cap)) (hy : ev l y = some (.slice (some ad) k c)) (hi : h[i]? = some (sq ao m cap e sz xs)) (he : El P t e z sz bytes)
    (hl : news.length = k * sz) (hnews : ∀ w, Own w0 bor h w → ∀ j u, news[j]? = some u → w.cell? (ad.add j) = some u) (h1 : ∀ u ∈ news, oneC u = true) (h63 : m + k ≤ maxLen) (hb : (m + k) * bytes ≤ 140737488355328) :
    LO P n w0 bor h l o fun u h' => ∃ ao' cap', u = .slice ao' (m + k) cap' ∧ h' = h.set i (sq ao' (m + k) cap' e sz (xs ++ news)) := by
  obtain ⟨inf, hinf, i1, i2, i3⟩ := he.row
  refine LO.of_value (s := Builtin.append_ #[t, t] o.type #[.slice ao m cap, .slice (some ad) k c]) (fun a hf => ?_) fun w hw => ?_
  · unfold execOp
    simp only [ho, resolve, List.map_toArray, List.map_cons, List.map_nil, hf.eval hx, hf.eval hy]
    rfl
  · have hr := hw.mine _ (List.mem_of_getElem? hi)
    obtain ⟨v', w', hrun, hown, hgr, _, hat⟩ := run_append_own_at (P := P) w 0 t o.type e inf z sz bytes he.sl hinf i1 i2 i3 he.zs he.pos (.slice ao m cap) m xs (sq_own hr) ad k c news hl (hnews w hw) (fun u hu => by
      have := h1 u hu
      cases u <;> first | rfl | (simp [oneC] at this)) h63 hb (Nat.zero_le _)
    obtain ⟨ao', cap', rfl, hsq⟩ := own_sq hown
    refine ⟨_, w', _, hrun, ⟨ao', cap', rfl, rfl⟩, hw.renew hi ?_ hgr.os hgr.tape hgr.output hgr.size (fun j hj hne => hgr.block j hj fun e => hne ?_) hsq⟩
    · have hids : ∀ (a : Option Addr) (p q : Nat), (sq a p q e sz (xs ++ news)).ids = (Value.slice a p q).ownBlock.toList := fun a p q => by cases a <;> rfl
      have hids' : (sq ao m cap e sz xs).ids = (Value.slice ao m cap).ownBlock.toList := by cases ao <;> rfl
      rw [hids, hids']
      rcases hat with e | e
      · exact .inl (by rw [e])
      · exact .inr (by rw [e]; rfl)
    · cases ao with
      | none => cases e
      | some a => simp [Value.ownBlock] at e; simp [sq, e]
/-- A slice literal: a new block. -/
theorem LO.buildSlice {T e : TypeId} {len : Nat} {ps : List (Nat × Operand)} {vs : List (Nat × Value)} {cs : Array Value} (ho : o.op = .buildSlice T len ps.toArray) (hp : ps.map (fun p => (p.1, ev l p.2)) = vs.map (fun p => (p.1, some p.2)))
    (hb : ∀ w, (Instr.buildSlice T len vs.toArray).run P w = .ok (.slice (some ⟨w.heap.size, 0, none⟩) len len) { w with heap := w.heap.push (.cells cs e) }) :
    LO P n w0 bor h l o fun u h' => ∃ b, u = .slice (some ⟨b, 0, none⟩) len len ∧ h' = h ++ [blk b (.cells cs e (0, 0))] :=
  LO.of_value (s := Instr.buildSlice T len vs.toArray) (fun a hf => by
    have : ps.map (fun p => (p.1, a.eval p.2)) = vs := by
      clear hb ho
      induction ps generalizing vs with
      | nil => cases vs with
        | nil => rfl
        | cons _ _ => cases hp
      | cons p ps ih => cases vs with
        | nil => cases hp
        | cons v vs =>
          simp only [List.map_cons, List.cons.injEq, Prod.mk.injEq] at hp ⊢
          refine ⟨?_, ih hp.2⟩
          rw [hf.eval hp.1.2, hp.1.1]
    unfold execOp
    simp only [ho, List.map_toArray, this]) fun w hw => ⟨_, _, _, hb w, ⟨_, rfl, rfl⟩, hw.block _ _⟩
/-- make([]T, n), T of one cell. -/
theorem LO.make1 {x y : Operand} {t e : TypeId} {z : Value} {bytes m : Nat} {j j' : Int} (ho : o.op = .makeSlice t x y) (hx : ev l x = some (.int .i64 j)) (hy : ev l y = some (.int .i64 j')) (hj : j = (m : Int)) (hj' : j' = (m : Int)) (he : El P t e z 1 bytes)
    (hz : z.cells = #[z]) (h63 : m ≤ maxLen) (hb : bytes * m ≤ 281474976710656) :
    LO P n w0 bor h l o fun u h' => ∃ b, u = .slice (some ⟨b, 0, none⟩) m m ∧ h' = h ++ [blk b (.cells (arr m fun _ => z) e (0, 0))] := by
  obtain ⟨inf, hinf, i1, i2, i3⟩ := he.row
  subst hj hj'
  refine LO.of_value (s := Instr.makeSlice t (.int .i64 (m : Int)) (.int .i64 (m : Int))) (fun a hf => by unfold execOp; simp only [ho, hf.eval hx, hf.eval hy]) fun w hw => ?_
  have h63' : (m : Int) ≤ 9223372036854775807 := by have h := h63; simp [maxLen] at h; omega
  have hb' : (inf.bytes : Int) * (m : Int) ≤ 281474976710656 := by
    have h : ((inf.bytes * m : Nat) : Int) ≤ 281474976710656 := by rw [i3]; omega
    rwa [Int.natCast_mul] at h
  have hrun := run_make (P := P) w t e inf z he.sl hinf i1 .i64 .i64 m m (by omega) (Int.le_refl _) hb' h63'
  have hcells : madeCells z.cells ((m : Int).toNat * inf.size) = arr m fun _ => z := by
    rw [i2, Nat.mul_one, Int.toNat_natCast, hz]
    apply Array.ext_getElem?
    intro i
    by_cases hi : i < m
    · rw [arr_at _ _ _ hi]; simp [madeCells, hi, Nat.mod_one]
    · rw [arr_none _ _ _ hi]; exact Array.getElem?_eq_none (by rw [size_madeCells]; omega)
  rw [hcells] at hrun
  exact ⟨_, _, _, hrun, ⟨_, rfl, rfl⟩, hw.block _ _⟩
theorem Sta.sqAt {w : World} (hS : Sta w0 bor hs w) {i g m cap T sz off : Nat} {xs : List Value} (hi : hs[i]? = some (sq (some ⟨g, 0, none⟩) m cap T sz xs)) (hx : xs[off]? = some v) : w.cell? ⟨g, off, none⟩ = some v := by
  obtain ⟨h1, h2⟩ := hS.mine _ (List.mem_of_getElem? hi)
  rcases h2 with ⟨e, _⟩ | ⟨g', cur, e, hg, _, _, _, ht⟩
  · cases e
  · cases e
    rw [cell_hf]
    simp only [cellF, hg]
    rw [← ht, List.getElem?_take] at hx
    split at hx
    · simpa using hx
    · cases hx
/-- A cell of a slice of the call's own. -/
theorem Sil.sqLoad {x : Operand} {T : TypeId} {d : TypeDesc} {g m cap T' sz off : Nat} {xs : List Value} (i : Nat) (ho : o.op = .load T x) (hx : ev l x = some (.pointer (some ⟨g, off, none⟩))) (hi : hs[i]? = some (sq (some ⟨g, 0, none⟩) m cap T' sz xs))
    (hT : P.underlying T = some d) (hd : aggB d = false) (hc : xs[off]? = some v) : Sil P n w0 bor hs l o v :=
  Sil.load ho hx hT hd fun _ hS => hS.sqAt hi hc
theorem LO.sqStore {x y : Operand} {T : TypeId} {g m cap T' sz off : Nat} {xs : List Value} (i : Nat) (ho : o.op = .store T x y) (hx : ev l x = some (.pointer (some ⟨g, off, none⟩))) (hy : ev l y = some v) (hi : h[i]? = some (sq (some ⟨g, 0, none⟩) m cap T' sz xs))
    (hT : (P.info? T).map (·.size) = some 1) (hl : v.cells = #[v]) (h1 : oneC v = true) (hfit : off < m * sz) :
    LO P n w0 bor h l o fun u h' => u = undef ∧ h' = h.set i (sq (some ⟨g, 0, none⟩) m cap T' sz (xs.set off v)) := by
  intro a w hf ho' K Q hk
  obtain ⟨p1, p2⟩ := ho'.mine _ (List.mem_of_getElem? hi)
  rcases p2 with ⟨e, _⟩ | ⟨g', cur, e, hg, hmc, hcm, hcs, ht⟩
  · cases e
  · cases e
    have hmul : m * sz ≤ cap * sz := Nat.mul_le_mul_right _ hmc
    have ho2 : Own w0 bor (h.set i (blk g (.cells cur T' (0, 0)))) w := ho'.set hi rfl rfl rfl rfl rfl (fun _ _ => rfl) hg
    have hil : i < h.length := (List.getElem?_eq_some_iff.1 hi).1
    have hi2 : (h.set i (blk g (.cells cur T' (0, 0))))[i]? = some (blk g (.cells cur T' (0, 0))) := by rw [List.getElem?_set_self hil]
    refine LO.store (P := P) (n := n) (w0 := w0) (bor := bor) i ho hx hy hi2 hT (by rw [hl]; rfl) (fun u hu => by rw [hl] at hu; simp at hu; rw [hu]; exact h1) (by rw [hcs]; omega) a w hf ho2 K Q fun u w' h' hR hown => ?_
    obtain ⟨rfl, rfl⟩ := hR
    refine hk _ w' _ ⟨rfl, rfl⟩ ?_
    rw [List.set_set] at hown
    have hi3 : (h.set i (blk g (.cells (putCells cur off v.cells.toList) T' (0, 0))))[i]? = some (blk g (.cells (putCells cur off v.cells.toList) T' (0, 0))) := by rw [List.getElem?_set_self hil]
    have := hown.recast (r' := sq (some ⟨g, 0, none⟩) m cap T' sz (xs.set off v)) hi3 rfl fun H hH => by
      refine ⟨by rw [List.length_set]; exact p1, .inr ⟨g, _, rfl, hH, hmc, hcm, by rw [size_putCells]; exact hcs, ?_⟩⟩
      rw [hl]
      simp only [putCells]
      rw [Array.toList_setIfInBounds, ← ht, List.take_set]
    rwa [List.set_set] at this
/-- A slice of the call's own that is not empty begins somewhere. -/
theorem Own.sqSome {w : World} (ho : Own w0 bor h w) {i m cap T sz : Nat} {ao : Option Addr} {xs : List Value} (hi : h[i]? = some (sq ao m cap T sz xs)) (hm : 0 < m) : ∃ g, ao = some ⟨g, 0, none⟩ := by
  obtain ⟨_, h2⟩ := ho.mine _ (List.mem_of_getElem? hi)
  rcases h2 with ⟨_, e, _⟩ | ⟨g, _, e, _⟩
  · omega
  · exact ⟨g, e⟩
/-- A new block, seen as a slice of the call's own. -/
theorem Own.asSq {w : World} (ho : Own w0 bor h w) {i b T sz m : Nat} {cs : Array Value} (hi : h[i]? = some (blk b (.cells cs T (0, 0)))) (hc : cs.size = m * sz) (hm : m ≤ maxLen) : Own w0 bor (h.set i (sq (some ⟨b, 0, none⟩) m m T sz cs.toList)) w :=
  ho.recast hi rfl fun H hH => ⟨by rw [Array.length_toList]; exact hc, .inr ⟨b, cs, rfl, hH, Nat.le_refl _, hm, hc, List.take_of_length_le (by rw [Array.length_toList]; omega)⟩⟩
theorem Own.cells {w : World} (ho : Own w0 bor h w) {i b : Nat} {cs : Array Value} {T : TypeId} {fr : Nat × Nat} (hi : h[i]? = some (blk b (.cells cs T fr))) : ∀ j u, cs.toList[j]? = some u → w.cell? ((⟨b, 0, none⟩ : Addr).add j) = some u := fun j u hu => by
  rw [add_lit, Nat.zero_add, (ho.sta fun _ h => h).own hi]
  simpa using hu
end
/-! lists of integers -/
def ints (n : Nat) (g : Nat → Nat) : List Value := (List.range n).map fun t => Value.int .i64 ((g t : Nat) : Int)
theorem ints_length (n : Nat) (g : Nat → Nat) : (ints n g).length = n := by simp [ints]
theorem ints_at (n : Nat) (g : Nat → Nat) (i : Nat) (hi : i < n) : (ints n g)[i]? = some (.int .i64 ((g i : Nat) : Int)) := by simp [ints, hi]
end Go.Cru
