/-
  More of the layer: structs that lie in slices; maps that the call makes; many small blocks as one resource.
-/
import Derived.Test.YtjnopbmanhialaaKitB
namespace Go.Cru
open Go

/-! ### what lies at an address -/
def RdC (w : World) (a : Addr) (cs : List Value) : Prop := ∀ j u, cs[j]? = some u → w.cell? (a.add j) = some u
/-- All that is told of w is told of w' too. -/
def Keep (w w' : World) : Prop := ∀ a u, w.cell? a = some u → w'.cell? a = some u
theorem Keep.refl (w : World) : Keep w w := fun _ _ h => h
theorem Own.keep {w0 w : World} {h : Mem} (ho : Own w0 [] h w) : Keep w0 w := fun a u hc => (ho.sta (hs := []) (by simp)).cell hc (by simp)
theorem RdC.keep {w w' : World} {a : Addr} {cs : List Value} (h : RdC w a cs) (k : Keep w w') : RdC w' a cs := fun j u hj => k _ _ (h j u hj)
theorem nthSome {α : Type} {xs : List α} {j : Nat} (h : (j : Int) < (xs.length : Int)) : ∃ x, xs[j]? = some x := ⟨_, List.getElem?_eq_getElem (by omega)⟩
theorem ltOf {α : Type} {xs : List α} {j : Nat} {x : α} (h : xs[j]? = some x) : j < xs.length := (List.getElem?_eq_some_iff.1 h).1

theorem setSelf {α : Type} {h : List α} {i : Nat} {r : α} (hi : h[i]? = some r) : h.set i r = h := by
  obtain ⟨h1, h2⟩ := List.getElem?_eq_some_iff.1 hi
  rw [← h2, List.set_getElem_self]

section
variable {P : Program} {n : Nat} {w0 : World} {bor : List Nat} {l : Env} {h hs : Mem} {o : Oper} {v : Value}
/-- A struct of old memory. -/
theorem Sil.oldS {x : Operand} {T : TypeId} {d : TypeDesc} {s : Nat} {a : Addr} {cs : List Value} (ho : o.op = .load T x) (hx : ev l x = some (.pointer (some a))) (hc : RdC w0 a cs) (hT : P.underlying T = some d) (hs' : (P.info? T).map (·.size) = some s) (hd : aggB d = true) (hl : cs.length = s) : Sil P n w0 [] hs l o (.agg cs.toArray) :=
  Sil.oldN ho hx ⟨hT, hs'⟩ hd hl hc (by simp)
/-- One cell of it. -/
theorem Sil.oldF {x : Operand} {T : TypeId} {d : TypeDesc} {a : Addr} {cs : List Value} (j : Nat) (ho : o.op = .load T x) (hx : ev l x = some (.pointer (some (a.add j)))) (hc : RdC w0 a cs) (hT : P.underlying T = some d) (hd : aggB d = false) (hv : nth cs j = some v) : Sil P n w0 [] hs l o v :=
  Sil.old ho hx hT hd (hc j v (by rw [← nth_eq]; exact hv)) (by simp)
/-- A struct that lies in a slice of the call's own. -/
theorem Sil.sqLoadN {x : Operand} {T : TypeId} {d : TypeDesc} {s g m cap T' sz off : Nat} {xs cs : List Value} (i : Nat) (ho : o.op = .load T x) (hx : ev l x = some (.pointer (some ⟨g, off, none⟩))) (hi : hs[i]? = some (sq (some ⟨g, 0, none⟩) m cap T' sz xs))
    (hT : P.underlying T = some d) (hs' : (P.info? T).map (·.size) = some s) (hd : aggB d = true) (hl : cs.length = s) (hc : ∀ j u, cs[j]? = some u → xs[off + j]? = some u) : Sil P n w0 bor hs l o (.agg cs.toArray) :=
  Sil.loadN ho hx ⟨hT, hs'⟩ hd hl fun w hS j u hj => by rw [add_lit]; exact hS.sqAt hi (hc j u hj)
/-- A whole variable is written. -/
theorem LO.storeAll {x y : Operand} {T : TypeId} {s b : Nat} {cs cs' : Array Value} {T' : TypeId} (i : Nat) (ho : o.op = .store T x y) (hx : ev l x = some (.pointer (some ⟨b, 0, none⟩))) (hy : ev l y = some (.agg cs')) (hi : h[i]? = some (blk b (.cells cs T' (0, 0))))
    (hT : (P.info? T).map (·.size) = some s) (hl : cs'.size = s) (hsz : cs.size = s) (h1 : cs'.toList.all oneC = true) :
    LO P n w0 bor h l o fun u h' => u = undef ∧ h' = h.set i (blk b (.cells cs' T' (0, 0))) :=
  LO.storeAs i cs' ho hx hy hi hT hl (fun u hu => List.all_eq_true.1 h1 u hu) (by omega) (putCells_all cs cs' (by omega))
theorem LO.store1 {x y : Operand} {T : TypeId} {b : Nat} {u0 : Value} {T' : TypeId} (i : Nat) (ho : o.op = .store T x y) (hx : ev l x = some (.pointer (some ⟨b, 0, none⟩))) (hy : ev l y = some v) (hi : h[i]? = some (blk b (.cells #[u0] T' (0, 0))))
    (hT : (P.info? T).map (·.size) = some 1) (hl : v.cells = #[v]) (h1 : oneC v = true) :
    LO P n w0 bor h l o fun u h' => u = undef ∧ h' = h.set i (blk b (.cells #[v] T' (0, 0))) :=
  LO.storeAs i #[v] ho hx hy hi hT (by rw [hl]; rfl) (fun u hu => by rw [hl] at hu; simp at hu; rw [hu]; exact h1) (by simp) (by rw [hl]; rfl)

/-! ### appending what may be nil -/
theorem run_append0 {t ty e : TypeId} {sz : Nat} {w : World} {ao ya : Option Addr} {m cap c : Nat} (hT : P.underlying t = some (.slice e)) (hs' : (P.info? e).map (·.size) = some sz) (hm : m ≤ cap) :
    (Builtin.append_ #[t, t] ty #[.slice ao m cap, .slice ya 0 c]).run P w = .ok (.slice ao m cap) w := by
  cases hi : P.info? e with
  | none => rw [hi] at hs'; cases hs'
  | some i =>
    cases ya <;> cases ao <;> simp [Builtin.append_, run_underlying hT, sizeOf, typeInfo, hi, Builtin.lenOf, Builtin.firstCells, loadCells, loadCellsFrom, storeCells, hm]
/-- append(s, t...): t may be nil. -/
theorem LO.appendV {x y : Operand} {t e : TypeId} {z : Value} {sz bytes : Nat} {ao ya : Option Addr} {m cap : Nat} {xs : List Value} {k c : Nat} (i : Nat) (news : List Value)
    (ho : o.op = .call { callee := .builtin .append, args := #[x, y], argTypes := #[t, t] }) (hx : ev l x = some (.slice ao m cap)) (hy : ev l y = some (.slice ya k c)) (hi : h[i]? = some (sq ao m cap e sz xs)) (he : El P t e z sz bytes)
    (hl : news.length = k * sz) (hnews : ∀ w, Own w0 bor h w → ∀ j u, news[j]? = some u → ∃ ad, ya = some ad ∧ w.cell? (ad.add j) = some u) (h1 : ∀ u ∈ news, oneC u = true) (h63 : m + k ≤ maxLen) (hb : (m + k) * bytes ≤ 140737488355328) :
    LO P n w0 bor h l o fun u h' => ∃ ao' cap', u = .slice ao' (m + k) cap' ∧ h' = h.set i (sq ao' (m + k) cap' e sz (xs ++ news)) := by
  by_cases hk : k = 0
  · subst hk
    have hn : news = [] := List.eq_nil_of_length_eq_zero (by simpa using hl)
    subst hn
    obtain ⟨inf, hinf, i1, i2, i3⟩ := he.row
    refine LO.of_value (s := Builtin.append_ #[t, t] o.type #[.slice ao m cap, .slice ya 0 c]) (fun a hf => ?_) fun w hw => ?_
    · unfold execOp
      simp only [ho, resolve, List.map_toArray, List.map_cons, List.map_nil, hf.eval hx, hf.eval hy]
      rfl
    · have hr := hw.mine _ (List.mem_of_getElem? hi)
      have hmc : m ≤ cap := by
        rcases hr.2 with ⟨_, e1, e2⟩ | ⟨_, _, _, _, e1, _⟩
        · omega
        · exact e1
      refine ⟨_, w, _, run_append0 he.sl (by rw [hinf]; simpa using i2) hmc, ⟨ao, cap, by rw [Nat.add_zero], rfl⟩, ?_⟩
      rw [List.append_nil, Nat.add_zero, setSelf hi]
      exact hw
  · cases ya with
    | none =>
      intro a w hf hw
      obtain ⟨u, hu⟩ : ∃ u, news[0]? = some u := ⟨_, List.getElem?_eq_getElem (by rw [hl]; exact Nat.mul_pos (by omega) he.pos)⟩
      obtain ⟨ad, e, _⟩ := hnews w hw 0 u hu
      cases e
    | some ad => exact LO.append i news ho hx hy hi he hl (fun w hw j u hj => by obtain ⟨ad', e, hc⟩ := hnews w hw j u hj; cases e; exact hc) h1 h63 hb
end
end Go.Cru
