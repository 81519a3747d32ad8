/-
  More of the layer: a condition of many parts, told as one.
-/
import Derived.Test.YtjnopbmanhialaaKitF
namespace Go.Cru
open Go

section
variable {P : Program} {n : Nat} {w0 : World} {bor : List Nat} {l : Env} {h : Mem} {K : Cont}
/-- Behind c slot d holds whether X, all else is as it was. -/
theorem TC_bool {c : Code} (d : Nat) (X : Prop) [Decidable X] (hc : TC P n w0 bor c (K.then fun l' h' => Sub l l' ∧ fnd l' d = some (.bool (decide X)) ∧ h' = h) l h) (hk : K .normal ((d, .bool (decide X)) :: l) h) : TC P n w0 bor c K l h := by
  intro a w hf ho
  refine wp_mono (hc a w hf ho) fun e a' w' hq => ?_
  cases e with
  | normal =>
    obtain ⟨l', h', hf', ho', hs, hd, rfl⟩ := hq
    exact ⟨_, _, hf'.weak (l' := (d, .bool (decide X)) :: l) ⟨hd, hs⟩, ho', hk⟩
  | _ => exact hq
def del (ds : List Nat) : Env → Env
  | [] => []
  | (t, v) :: r => match ds.any (Nat.beq t) with
    | true => del ds r
    | false => (t, v) :: del ds r
theorem fnd_del (ds : List Nat) : ∀ (l : Env) (t : Nat) (v : Value), fnd (del ds l) t = some v → ds.any (Nat.beq t) = false ∧ fnd l t = some v
  | [], t, v, h => by cases h
  | (s, u) :: r, t, v, h => by
    rw [del] at h
    cases hs : ds.any (Nat.beq s) with
    | true =>
      rw [hs] at h
      obtain ⟨h1, h2⟩ := fnd_del ds r t v h
      refine ⟨h1, ?_⟩
      rw [fnd_cons, if_neg (fun e => by rw [e, h1] at hs; cases hs)]
      exact h2
    | false =>
      rw [hs] at h
      simp only [fnd_cons] at h ⊢
      split at h
      · rename_i e; subst e; exact ⟨hs, by rw [if_pos rfl]; exact h⟩
      · rename_i e; rw [if_neg e]; exact fnd_del ds r t v h
theorem Fr.del {a : Act} (h : Fr n l a) (ds : List Nat) : Fr n (Cru.del ds l) a := ⟨h.size, h.defers, fun t v ht => h.has t v (fnd_del ds l t v ht).2⟩
/-- l with slots of ds written. -/
inductive Ext (ds : List Nat) (l : Env) : Env → Prop
  | refl : Ext ds l l
  | cons {t : Nat} {v : Value} {r : Env} : ds.any (Nat.beq t) = true → Ext ds l r → Ext ds l ((t, v) :: r)
theorem Ext.fnd {ds : List Nat} {l l' : Env} (h : Ext ds l l') {t : Nat} {v : Value} (ht : ds.any (Nat.beq t) = false) (hv : Cru.fnd l t = some v) : Cru.fnd l' t = some v := by
  induction h with
  | refl => exact hv
  | cons h1 _ ih =>
    rw [fnd_cons, if_neg (fun e => by rw [e, ht] at h1; cases h1)]
    exact ih
/-- The same where the slots ds may have been written ahead. -/
theorem TC_boolE {c : Code} (ds : List Nat) (d : Nat) (X : Prop) [Decidable X] (hc : TC P n w0 bor c (K.then fun l' h' => Ext ds l l' ∧ fnd l' d = some (.bool (decide X)) ∧ h' = h) l h) (hk : K .normal ((d, .bool (decide X)) :: del ds l) h) : TC P n w0 bor c K l h := by
  intro a w hf ho
  refine wp_mono (hc a w hf ho) fun e a' w' hq => ?_
  cases e with
  | normal =>
    obtain ⟨l', h', hf', ho', hs, hd, rfl⟩ := hq
    refine ⟨_, _, ⟨hf'.size, hf'.defers, fun t v ht => ?_⟩, ho', hk⟩
    rw [fnd_cons] at ht
    split at ht
    · rename_i e; subst e; exact hf'.has _ _ (hd.trans ht)
    · obtain ⟨h1, h2⟩ := fnd_del ds l t v ht
      exact hf'.has t v (hs.fnd h1 h2)
  | _ => exact hq
/-- A struct that lies in a block of its own, and a second result. -/
theorem retCT {fn : Func} {R : Value → Mem → Prop} {h0 : Mem} {t u T : Nat} {d : TypeDesc} {s b : Nat} {cs : Array Value} {v2 : Value} {T' : TypeId} {fr : Nat × Nat} (i : Nat) (hr : fn.results = #[.cell t T, .tmp u]) (ht : fnd l t = some (.pointer (some ⟨b, 0, none⟩))) (hu : fnd l u = some v2) (hi : h[i]? = some (blk b (.cells cs T' fr)))
    (hT : Ty P T d s) (hd : aggB d = true) (hc : cs.size = s) (hs : h0.Sublist h) (hR : R (.tuple #[.agg cs, v2]) h0) : retK P n w0 bor fn R .ret l h := by
  refine ⟨.tuple #[.agg cs, v2], h0, fun a w hf ho => ?_, hs, hR⟩
  have hl : (loadVar T ⟨b, 0, none⟩).run P w = .ok (.agg cs.toList.toArray) w := run_loadVarN hT hd (by simpa using hc) fun j v hj => by
    rw [add_lit, Nat.zero_add, (ho.sta fun _ h => h).own hi]
    simpa using hj
  simp [results, hr, Array.getD_eq_getD_getElem?, hf.has t _ ht, hf.has u _ hu, asAddr, hl]
theorem LO.of_sil {P : Program} {n : Nat} {w0 : World} {bor : List Nat} {l : Env} {h : Mem} {o : Oper} {v : Value} (hs : Sil P n w0 bor h l o v) : LO P n w0 bor h l o fun u h' => u = v ∧ h' = h := by
  intro a w hf ho K Q hk
  unfold Oper.wp
  rw [hs a w hf (ho.sta fun _ h => h)]
  exact hk v w h ⟨rfl, rfl⟩ ho
/-- A region that draws; what the silent operations look at is hs. -/
theorem TC_drawS {id : Nat} {ops : Array Oper} (hs : Mem) (hsub : ∀ r ∈ hs, r ∈ h) (hm : P.follows .mixedOrders = true) (kill : Nat → Bool) (hk : (∀ r ∈ hs, r ∈ h) → DL P n w0 bor ops K hs kill ops.size (Array.replicate ops.size false) l h) : TC P n w0 bor (.region id ops true) K l h :=
  fun a _ hf ho => wp_region_any hm (Any.wpAny _ _ _ _ (hk hsub a _ hf (ho.drawn _)))
theorem all_nil {h : Mem} : ∀ r ∈ ([] : Mem), r ∈ h := by simp
theorem all_cons {h hs : Mem} {r : Res} (h1 : r ∈ h) (h2 : ∀ x ∈ hs, x ∈ h) : ∀ x ∈ r :: hs, x ∈ h := List.forall_mem_cons.2 ⟨h1, h2⟩
theorem Cont.then_intro {N : Env → Mem → Prop} (hn : N l h) : (K.then N) .normal l h := hn
end
end Go.Cru
