/-
  Walks: the numbers in some order.
-/
import Derived.Test.YtccmgmjfcfacoaaMixE
import Derived.Test.YtccmgmjfcfacoaaKitB
namespace Go.Proofs.Ytccmgmjfcfacoaa
open Go.Cru

theorem bel_le (s i : Nat) : bel s ((i : Int) + 1) ≤ i := by
  by_cases h : (i : Int) + 1 ≤ 1
  · unfold bel; rw [if_pos h]; omega
  · have := bel_lt s ((i : Int) + 1) (by omega)
    omega
/-- The order behind i draws, the source's state. -/
def shf (s : Nat) : Nat → Nat × (Nat → Nat)
  | 0 => (s, fun _ => 0)
  | i + 1 => (nxt (shf s i).1, upd (upd (shf s i).2 i ((shf s i).2 (bel (shf s i).1 ((i : Int) + 1)))) (bel (shf s i).1 ((i : Int) + 1)) i)
theorem shf_lt (s i : Nat) (hs : s < 18446744073709551616) : (shf s i).1 < 18446744073709551616 := by
  cases i with
  | zero => exact hs
  | succ i => exact nxt_lt _
theorem shf_perm (s i : Nat) : (∀ t, t < i → (shf s i).2 t < i) ∧ ∀ t u, t < i → u < i → (shf s i).2 t = (shf s i).2 u → t = u := by
  induction i with
  | zero => exact ⟨fun t h => absurd h (by omega), fun t u h => absurd h (by omega)⟩
  | succ i ih =>
    obtain ⟨h1, h2⟩ := ih
    have hk := bel_le (shf s i).1 i
    simp only [shf]
    generalize bel (shf s i).1 ((i : Int) + 1) = k at hk ⊢
    generalize (shf s i).2 = g at h1 h2 ⊢
    have key : ∀ t, t < i + 1 → (upd (upd g i (g k)) k i t = i ∧ t = k) ∨ (t = i ∧ k ≠ i ∧ upd (upd g i (g k)) k i t = g k) ∨ (t < i ∧ t ≠ k ∧ upd (upd g i (g k)) k i t = g t) := by
      intro t ht
      unfold upd
      by_cases e : t = k
      · left; rw [if_pos e]; exact ⟨rfl, e⟩
      · right
        rw [if_neg e]
        by_cases e2 : t = i
        · left; rw [if_pos e2]; exact ⟨e2, fun h => e (by omega), rfl⟩
        · right; rw [if_neg e2]; exact ⟨by omega, e, rfl⟩
    have hkl : k ≠ i → g k < i := fun h => h1 k (by omega)
    refine ⟨fun t ht => ?_, fun t u ht hu he => ?_⟩
    · rcases key t ht with ⟨e, _⟩ | ⟨_, hki, e⟩ | ⟨hti, _, e⟩
      · rw [e]; omega
      · rw [e]; have := hkl hki; omega
      · rw [e]; have := h1 t hti; omega
    · rcases key t ht with ⟨e, e'⟩ | ⟨e', hki, e⟩ | ⟨hti, htk, e⟩ <;> rcases key u hu with ⟨f, f'⟩ | ⟨f', hkj, f⟩ | ⟨huj, huk, f⟩ <;> rw [e, f] at he
      · omega
      · have := hkl hkj; omega
      · have := h1 u huj; omega
      · have := hkl hki; omega
      · omega
      · exact absurd (h2 k u (by omega) huj he).symm huk
      · have := h1 t hti; omega
      · exact absurd (h2 t k hti (by omega) he) htk
      · exact h2 t u hti huj he
theorem arr_putN (m : Nat) (g : Nat → Nat) (j x : Nat) : putCells (arr m fun t => .int .i64 (g t)) j [.int .i64 x] = arr m fun t => .int .i64 (upd g j x t) := by
  rw [arr_put]
  refine arr_congr fun t _ => ?_
  unfold updV upd
  split <;> rfl
theorem elInt : El Try.prog 30 3 (.int .i64 0) 1 8 := ⟨Try.underlying30, rfl, rfl, by decide⟩
theorem elBool : El Try.prog 40 4 (.bool false) 1 1 := ⟨Try.underlying40, rfl, rfl, by decide⟩

theorem Shuffle_gives (b s : Nat) (n : Int) (m : Nat) (hm : min (max n 0) 1000 = (m : Int)) (w0 : World) (ho : Own w0 [b] [srcR b s] w0) :
    Gives Try.prog 22 [.pointer (some ⟨b, 0, none⟩), .int .i64 n] w0 [b] fun v h => ∃ q, v = .slice (some ⟨q, 0, none⟩) m m ∧ h = [srcR b (shf s m).1, blk q (.cells (arr m fun t => .int .i64 ((shf s m).2 t)) 3 (0, 0))] := by
  refine gives_of Try.func22 rfl rfl rfl ho ?_
  refine TC_seq ?_
  refine TC_region ?_
  refine OL_sil rfl rfl rfl (Sil.assign rfl rfl) ?_
  refine OL_nil ?_
  refine TC_seq ?_
  refine TC_region ?_
  refine OL_sil rfl rfl rfl (Sil.move rfl rfl) ?_
  refine OL_sil rfl rfl rfl (Sil.maxI rfl rfl rfl) ?_
  refine OL_sil rfl rfl rfl (Sil.minI rfl rfl rfl) ?_
  refine OL_loud rfl rfl rfl (LO.make1 (m := m) rfl rfl rfl hm hm elInt rfl (by unfold maxLen; omega) (by omega)) ?_
  rintro _ _ ⟨q, rfl, rfl⟩
  refine OL_sil rfl rfl rfl (Sil.assign rfl rfl) ?_
  refine OL_nil ?_
  refine TC_seq ?_
  refine TC_seq ?_
  refine TC_region ?_
  refine OL_sil rfl rfl rfl (Sil.move rfl rfl) ?_
  refine OL_sil rfl rfl rfl (Sil.lenSl rfl rfl Try.underlying30) ?_
  refine OL_sil rfl rfl rfl (Sil.move rfl rfl) ?_
  refine OL_nil ?_
  refine TC_block ?_
  refine TC_loop (fun i : Nat => [(0, .pointer (some ⟨b, 0, none⟩)), (5, .slice (some ⟨q, 0, none⟩) m m), (12, .slice (some ⟨q, 0, none⟩) m m), (13, .int .i64 m), (14, .int .i64 i)]) (fun i => [srcR b (shf s i).1, blk q (.cells (arr m fun t => .int .i64 ((shf s i).2 t)) 3 (0, 0))]) (fun i => i ≤ m) (fun i => m - i) 0 ?_ ?_
  · exact ⟨Nat.zero_le _, ⟨rfl, rfl, rfl, rfl, rfl, trivial⟩, List.Sublist.refl _⟩
  · intro i hi
    refine TC_seq ?_
    refine TC_region ?_
    refine OL_sil rfl rfl rfl (Sil.lss rfl rfl rfl) ?_
    refine OL_nil ?_
    refine TC_seq ?_
    refine TC_if rfl (fun ht15 => ?_) (fun ht15 => ?_)
    · have hk := bel_le (shf s i).1 i
      have hsh : (shf s (i + 1)) = (nxt (shf s i).1, upd (upd (shf s i).2 i ((shf s i).2 (bel (shf s i).1 ((i : Int) + 1)))) (bel (shf s i).1 ((i : Int) + 1)) i) := rfl
      refine TC_skip ?_
      refine TC_seq ?_
      refine TC_block ?_
      refine TC_seq ?_
      refine TC_region ?_
      refine OL_sil rfl rfl rfl (Sil.move rfl rfl) ?_
      refine OL_sil rfl rfl rfl (Sil.assign rfl rfl) ?_
      refine OL_nil ?_
      refine TC_seq ?_
      refine TC_region ?_
      refine OL_sil rfl rfl rfl (Sil.move rfl rfl) ?_
      refine OL_sil rfl rfl rfl (Sil.move rfl rfl) ?_
      refine OL_sil rfl rfl rfl (Sil.add rfl rfl rfl (by omega) (by omega)) ?_
      refine OL_loud rfl rfl rfl (LO.lent (r' := srcR b (nxt (shf s i).1)) 0 rfl ent21 rfl rfl (Eq.refl [b]) (fun w _ ho' => Below_gives b _ _ (by omega) w ho')) ?_
      rintro _ _ ⟨rfl, rfl⟩
      refine OL_sil rfl rfl rfl (Sil.assign rfl rfl) ?_
      refine OL_nil ?_
      generalize bel (shf s i).1 ((i : Int) + 1) = k at hk hsh ⊢
      generalize hg : (shf s i).2 = g at hsh ⊢
      refine TC_seq ?_
      refine TC_region ?_
      refine OL_sil rfl rfl rfl (Sil.move rfl rfl) ?_
      refine OL_sil rfl rfl rfl (Sil.move rfl rfl) ?_
      refine OL_sil rfl rfl rfl (Sil.move rfl rfl) ?_
      refine OL_sil rfl rfl rfl (Sil.move rfl rfl) ?_
      refine OL_sil rfl rfl rfl (Sil.indexOwn1 k rfl rfl rfl Try.underlying30 rfl rfl (by omega)) ?_
      refine OL_sil rfl rfl rfl (Sil.own 1 rfl rfl rfl Try.underlying3 rfl (arr_at _ _ k (by omega))) ?_
      refine OL_sil rfl rfl rfl (Sil.indexOwn1 i rfl rfl rfl Try.underlying30 rfl rfl (by omega)) ?_
      refine OL_loud0 rfl rfl (LO.storeAs 1 (arr m fun t => .int .i64 (upd g i (g k) t)) rfl rfl rfl rfl rfl rfl (oneC_int _ _) (by rw [arr_size]; show i + 1 ≤ m; omega) (arr_putN m g i (g k))) ?_
      rintro _ _ ⟨rfl, rfl⟩
      refine OL_nil ?_
      refine TC_region ?_
      refine OL_sil rfl rfl rfl (Sil.move rfl rfl) ?_
      refine OL_sil rfl rfl rfl (Sil.move rfl rfl) ?_
      refine OL_sil rfl rfl rfl (Sil.move rfl rfl) ?_
      refine OL_sil rfl rfl rfl (Sil.indexOwn1 k rfl rfl rfl Try.underlying30 rfl rfl (by omega)) ?_
      refine OL_loud0 rfl rfl (LO.storeAs 1 (arr m fun t => .int .i64 (upd (upd g i (g k)) k i t)) rfl rfl rfl rfl rfl rfl (oneC_int _ _) (by rw [arr_size]; show k + 1 ≤ m; omega) (arr_putN m _ k i)) ?_
      rintro _ _ ⟨rfl, rfl⟩
      refine OL_nil ?_
      refine TC_region ?_
      refine OL_sil rfl rfl rfl (Sil.add rfl rfl rfl (by omega) (by omega)) ?_
      refine OL_sil rfl rfl rfl (Sil.move rfl rfl) ?_
      refine OL_nil ?_
      exact ⟨i + 1, ⟨by omega, ⟨rfl, rfl, rfl, rfl, rfl, trivial⟩, by rw [hsh]; exact List.Sublist.refl _⟩, by omega⟩
    · obtain rfl : i = m := by omega
      refine TC_exit ?_
      refine TC_seq ?_
      refine TC_region ?_
      refine OL_sil rfl rfl rfl (Sil.move rfl rfl) ?_
      refine OL_sil rfl rfl rfl (Sil.assign rfl rfl) ?_
      refine OL_nil ?_
      refine TC_ret ?_
      exact ret1h rfl rfl (List.Sublist.refl _) ⟨q, rfl, rfl⟩

theorem ints_snoc (i : Nat) (g : Nat → Nat) (x : Nat) : ints i g ++ [.int .i64 (x : Int)] = ints (i + 1) (upd g i x) := by
  unfold ints
  rw [List.range_succ, List.map_append]
  congr 1
  · refine List.map_congr_left fun t ht => ?_
    have := List.mem_range.1 ht
    unfold upd
    rw [if_neg (by omega)]
  · simp [upd]
theorem ints_set (i : Nat) (g : Nat → Nat) (j x : Nat) : (ints i g).set j (.int .i64 (x : Int)) = ints i (upd g j x) := by
  apply List.ext_getElem?
  intro t
  rw [List.getElem?_set, ints_length]
  by_cases h : t < i
  · rw [ints_at _ _ _ h, ints_at _ _ _ h]
    by_cases e : j = t
    · subst e; rw [if_pos rfl, if_pos h]; simp [upd]
    · rw [if_neg e]; simp [upd, Ne.symm e]
  · have hn : ∀ f, (ints i f)[t]? = none := fun f => List.getElem?_eq_none (by rw [ints_length]; omega)
    rw [hn, hn]
    split
    · rw [if_neg (by omega)]
    · rfl
theorem ints_congr {i : Nat} {f g : Nat → Nat} (h : ∀ t, t < i → f t = g t) : ints i f = ints i g := List.map_congr_left fun t ht => by rw [h t (List.mem_range.1 ht)]
theorem want_same (i : Nat) (g : Nat → Nat) : ints (i + 1) (upd g i i) = ints (i + 1) (upd (upd g i (g i)) i i) := ints_congr fun t _ => by unfold upd; split <;> rfl
theorem want_swap (i k : Nat) (g : Nat → Nat) : ints (i + 1) (upd (upd (upd g i i) i (g k)) k i) = ints (i + 1) (upd (upd g i (g k)) k i) := ints_congr fun t _ => by
  unfold upd
  split
  · rfl
  · split <;> rfl
/-- Has v been met among the first j? -/
def seen (g : Nat → Nat) (j v : Nat) : Bool := (List.range j).any fun t => g t == v
theorem seen_not (g : Nat → Nat) (j m : Nat) (hj : j < m) (hinj : ∀ t u, t < m → u < m → g t = g u → t = u) : seen g j (g j) = false := by
  unfold seen
  rw [List.any_eq_false]
  intro t ht
  have := List.mem_range.1 ht
  simp only [beq_iff_eq]
  exact fun e => by have := hinj t j (by omega) hj e; omega
theorem seen_put (g : Nat → Nat) (j m : Nat) : putCells (arr m fun v => .bool (seen g j v)) (g j) [.bool true] = arr m fun v => .bool (seen g (j + 1) v) := by
  rw [arr_put]
  refine arr_congr fun t _ => ?_
  unfold updV seen
  rw [List.range_succ, List.any_append]
  by_cases e : t = g j
  · rw [if_pos e]; simp [e]
  · rw [if_neg e]; simp [Ne.symm e]

theorem MixShuffles_gives (s : Nat) (n : Int) (hs : s < 18446744073709551616) (w0 : World) : Gives Try.prog 7 [.int .u64 s, .int .i64 n] w0 [] fun v h => v = .bool true ∧ h = [] := by
  obtain ⟨m, hm⟩ : ∃ m : Nat, min (max n 0) 1000 = (m : Int) := ⟨(min (max n 0) 1000).toNat, by omega⟩
  obtain ⟨hrange, hinj⟩ := shf_perm s m
  refine gives_of Try.func7 rfl rfl rfl (Own.start w0) ?_
  refine TC_seq ?_
  refine TC_region ?_
  refine OL_sil rfl rfl rfl (Sil.assign rfl rfl) ?_
  refine OL_nil ?_
  refine TC_seq ?_
  refine TC_seq ?_
  refine TC_region ?_
  refine OL_pure rfl rfl rfl (LO.pure rfl ent16 rfl (fun w _ => head_gives w)) ?_
  refine OL_sil rfl rfl rfl (Sil.not rfl rfl) ?_
  refine OL_nil ?_
  refine TC_no rfl ?_
  refine TC_skip ?_
  refine TC_seq ?_
  refine TC_seq ?_
  refine TC_region ?_
  refine OL_sil rfl rfl rfl (Sil.move rfl rfl) ?_
  refine OL_sil rfl rfl rfl (Sil.gtr rfl rfl rfl) ?_
  refine OL_nil ?_
  refine TC_if rfl (fun ht16 => ?_) (fun ht16 => ?_)
  · refine TC_seq ?_
    refine TC_region ?_
    refine OL_sil rfl rfl rfl (Sil.move rfl rfl) ?_
    refine OL_loud rfl rfl rfl (LO.calls rfl ent17 rfl (fun w _ => New_gives s w)) ?_
    rintro _ _ ⟨_, ⟨b, rfl, rfl⟩, rfl⟩
    refine OL_sil rfl rfl rfl (Sil.move rfl rfl) ?_
    refine OL_loud rfl rfl rfl (LO.callsLent (R := fun v h => ∃ q, v = .slice (some ⟨q, 0, none⟩) m m ∧ h = [srcR b (shf s m).1, blk q (.cells (arr m fun t => .int .i64 ((shf s m).2 t)) 3 (0, 0))]) 0 rfl ent22 rfl rfl (fun w _ ho' => (Shuffle_gives b s n m hm w ho').mono fun v h ⟨q, e1, e2⟩ => ⟨_, _, e2, rfl, q, e1, rfl⟩)) ?_
    rintro _ _ ⟨r', h1, ⟨q, rfl, hh⟩, rfl⟩
    refine OL_sil rfl rfl rfl (Sil.lenSl rfl rfl Try.underlying30) ?_
    refine OL_sil rfl rfl rfl (Sil.eql rfl rfl rfl) ?_
    refine OL_sil rfl rfl rfl (Sil.assign rfl rfl) ?_
    refine OL_nil ?_
    obtain ⟨rfl, rfl⟩ := List.cons.inj hh
    refine TC_ret ?_
    exact ret1 rfl rfl ⟨congrArg Value.bool (decide_eq_true (by omega)), rfl⟩
  · refine TC_skip ?_
    refine TC_seq ?_
    refine TC_region ?_
    refine OL_sil rfl rfl rfl (Sil.move rfl rfl) ?_
    refine OL_loud rfl rfl rfl (LO.calls rfl ent17 rfl (fun w _ => New_gives s w)) ?_
    rintro _ _ ⟨_, ⟨b, rfl, rfl⟩, rfl⟩
    refine OL_sil rfl rfl rfl (Sil.move rfl rfl) ?_
    refine OL_loud rfl rfl rfl (LO.callsLent (R := fun v h => ∃ q, v = .slice (some ⟨q, 0, none⟩) m m ∧ h = [srcR b (shf s m).1, blk q (.cells (arr m fun t => .int .i64 ((shf s m).2 t)) 3 (0, 0))]) 0 rfl ent22 rfl rfl (fun w _ ho' => (Shuffle_gives b s n m hm w ho').mono fun v h ⟨q, e1, e2⟩ => ⟨_, _, e2, rfl, q, e1, rfl⟩)) ?_
    rintro _ _ ⟨r', h1, ⟨q, rfl, hh⟩, rfl⟩
    refine OL_sil rfl rfl rfl (Sil.assign rfl rfl) ?_
    refine OL_nil ?_
    obtain ⟨rfl, rfl⟩ := List.cons.inj hh
    refine TC_seq ?_
    refine TC_seq ?_
    refine TC_region ?_
    refine OL_sil rfl rfl rfl (Sil.move rfl rfl) ?_
    refine OL_sil rfl rfl rfl (Sil.lss rfl rfl rfl) ?_
    refine OL_nil ?_
    refine TC_cut (fun _ : Unit => [(0, .int .u64 s), (1, .int .i64 m), (5, .slice (some ⟨q, 0, none⟩) m m)]) (fun _ => [blk q (.cells (arr m fun t => .int .i64 ((shf s m).2 t)) 3 (0, 0))]) (fun _ => True) ?_ ?_
    · refine TC_if rfl (fun ht28 => ?_) (fun ht28 => ?_)
      · refine TC_region ?_
        refine OL_sil rfl rfl rfl (Sil.assign rfl rfl) ?_
        refine OL_nil ?_
        exact ⟨(), trivial, ⟨rfl, slotI rfl (by omega), rfl, trivial⟩, by simp⟩
      · refine TC_skip ?_
        exact ⟨(), trivial, ⟨rfl, slotI rfl (by omega), rfl, trivial⟩, by simp⟩
    · intro _ _
      refine TC_seq ?_
      refine TC_seq ?_
      refine TC_region ?_
      refine OL_sil rfl rfl rfl (Sil.move rfl rfl) ?_
      refine OL_sil rfl rfl rfl (Sil.lenSl rfl rfl Try.underlying30) ?_
      refine OL_sil rfl rfl rfl (Sil.move rfl rfl) ?_
      refine OL_sil rfl rfl rfl (Sil.neq rfl rfl rfl) ?_
      refine OL_nil ?_
      refine TC_ifn rfl (fun ht32 => ?_) (fun ht32 => ?_)
      · exact absurd rfl ht32
      · refine TC_skip ?_
        refine TC_seq ?_
        refine TC_region ?_
        refine OL_sil rfl rfl rfl (Sil.move rfl rfl) ?_
        refine OL_sil rfl rfl rfl (Sil.assign rfl rfl) ?_
        refine OL_nil ?_
        refine TC_seq ?_
        refine TC_region ?_
        refine OL_loud rfl rfl rfl (LO.buildSlice (vs := []) (cs := #[]) (e := 3) rfl rfl (fun w => by kernel_rfl)) ?_
        rintro _ _ ⟨g0, rfl, rfl⟩
        refine OL_own (fun w hw => hw.asSq (i := 1) (sz := 1) (m := 0) rfl rfl (by unfold maxLen; omega)) ?_
        refine OL_sil rfl rfl rfl (Sil.assign rfl rfl) ?_
        refine OL_nil ?_
        refine TC_seq ?_
        refine TC_seq ?_
        refine TC_region ?_
        refine OL_sil rfl rfl rfl (Sil.assign rfl rfl) ?_
        refine OL_nil ?_
        refine TC_block ?_
        refine TC_loop (fun ((i, ao, cap) : Nat × Option Addr × Nat) => [(1, .int .i64 m), (5, .slice (some ⟨q, 0, none⟩) m m), (6, .int .u64 (shf s i).1), (7, .slice ao i cap), (8, .int .i64 i)]) (fun (i, ao, cap) => [blk q (.cells (arr m fun t => .int .i64 ((shf s m).2 t)) 3 (0, 0)), sq ao i cap 3 1 (ints i (shf s i).2)]) (fun (i, _, _) => i ≤ m) (fun (i, _, _) => m - i) (0, some ⟨g0, 0, none⟩, 0) ?_ ?_
        · exact ⟨Nat.zero_le _, ⟨rfl, rfl, rfl, rfl, rfl, trivial⟩, List.Sublist.refl _⟩
        · rintro ⟨i, ao, cap⟩ hi
          refine TC_seq ?_
          refine TC_seq ?_
          refine TC_region ?_
          refine OL_sil rfl rfl rfl (Sil.move rfl rfl) ?_
          refine OL_sil rfl rfl rfl (Sil.move rfl rfl) ?_
          refine OL_sil rfl rfl rfl (Sil.lss rfl rfl rfl) ?_
          refine OL_nil ?_
          refine TC_if rfl (fun ht37 => ?_) (fun ht37 => ?_)
          · have hsl := shf_lt s i hs
            have hk := bel_le (shf s i).1 i
            have hsh : (shf s (i + 1)) = (nxt (shf s i).1, upd (upd (shf s i).2 i ((shf s i).2 (bel (shf s i).1 ((i : Int) + 1)))) (bel (shf s i).1 ((i : Int) + 1)) i) := rfl
            refine TC_skip ?_
            refine TC_seq ?_
            refine TC_block ?_
            refine TC_seq ?_
            refine TC_region ?_
            refine OL_sil rfl rfl rfl (Sil.move rfl rfl) ?_
            refine OL_sil rfl rfl rfl (Sil.move rfl rfl) ?_
            refine OL_sil rfl rfl rfl (Sil.add rfl rfl rfl (by omega) (by omega)) ?_
            refine OL_pure rfl rfl rfl (LO.pure rfl ent20 rfl (fun w _ => refBelow_gives _ _ hsl (by omega) w)) ?_
            refine OL_sil rfl rfl rfl (Sil.move rfl rfl) ?_
            refine OL_sil rfl rfl rfl (Sil.extract rfl rfl rfl) ?_
            refine OL_sil rfl rfl rfl (Sil.extract rfl rfl rfl) ?_
            refine OL_sil rfl rfl rfl (Sil.assign rfl rfl) ?_
            refine OL_sil rfl rfl rfl (Sil.assign rfl rfl) ?_
            refine OL_nil ?_
            generalize bel (shf s i).1 ((i : Int) + 1) = k at hk hsh ⊢
            refine TC_seq ?_
            refine TC_region ?_
            refine OL_sil rfl rfl rfl (Sil.move rfl rfl) ?_
            refine OL_sil rfl rfl rfl (Sil.assign rfl rfl) ?_
            refine OL_nil ?_
            refine TC_seq ?_
            refine TC_region ?_
            refine OL_sil rfl rfl rfl (Sil.move rfl rfl) ?_
            refine OL_sil rfl rfl rfl (Sil.move rfl rfl) ?_
            refine OL_loud rfl rfl rfl (LO.buildSlice (vs := [(0, .int .i64 i)]) (cs := #[.int .i64 i]) (e := 3) rfl rfl (fun w => by kernel_rfl)) ?_
            rintro _ _ ⟨tb, rfl, rfl⟩
            refine OL_loud rfl rfl rfl (LO.append 1 [.int .i64 i] rfl rfl rfl rfl elInt rfl (fun w hw => hw.cells (i := 2) rfl) (by simp [oneC]) (by unfold maxLen; omega) (by omega)) ?_
            rintro _ _ ⟨ao1, cap1, rfl, rfl⟩
            rw [ints_snoc]
            refine OL_sil rfl rfl rfl (Sil.assign rfl rfl) ?_
            refine OL_nil ?_
            refine TC_seq ?_
            refine TC_region ?_
            refine OL_sil rfl rfl rfl (Sil.move rfl rfl) ?_
            refine OL_sil rfl rfl rfl (Sil.move rfl rfl) ?_
            refine OL_sil rfl rfl rfl (Sil.neq rfl rfl rfl) ?_
            refine OL_nil ?_
            refine TC_ifn rfl (fun ht54 => ?_) (fun ht54 => ?_)
            · refine TC_know (fun w hw => hw.sqSome (i := 1) rfl (by omega)) (fun hsome => ?_)
              obtain ⟨g1, rfl⟩ := hsome
              refine TC_seq ?_
              refine TC_region ?_
              refine OL_sil rfl rfl rfl (Sil.move rfl rfl) ?_
              refine OL_sil rfl rfl rfl (Sil.move rfl rfl) ?_
              refine OL_sil rfl rfl rfl (Sil.move rfl rfl) ?_
              refine OL_sil rfl rfl rfl (Sil.move rfl rfl) ?_
              refine OL_sil rfl rfl rfl (Sil.indexOwn1 k rfl rfl rfl Try.underlying30 rfl rfl (by omega)) ?_
              refine OL_sil rfl rfl rfl (Sil.sqLoad 1 rfl rfl rfl Try.underlying3 rfl (ints_at _ _ k (by omega))) ?_
              refine OL_sil rfl rfl rfl (Sil.indexOwn1 i rfl rfl rfl Try.underlying30 rfl rfl (by omega)) ?_
              refine OL_loud0 rfl rfl (LO.sqStore 1 rfl rfl rfl rfl rfl rfl rfl (by omega)) ?_
              rintro _ _ ⟨rfl, rfl⟩
              refine OL_nil ?_
              refine TC_region ?_
              refine OL_sil rfl rfl rfl (Sil.move rfl rfl) ?_
              refine OL_sil rfl rfl rfl (Sil.move rfl rfl) ?_
              refine OL_sil rfl rfl rfl (Sil.move rfl rfl) ?_
              refine OL_sil rfl rfl rfl (Sil.indexOwn1 k rfl rfl rfl Try.underlying30 rfl rfl (by omega)) ?_
              refine OL_loud0 rfl rfl (LO.sqStore 1 rfl rfl rfl rfl rfl rfl rfl (by omega)) ?_
              rintro _ _ ⟨rfl, rfl⟩
              refine OL_nil ?_
              refine TC_region ?_
              refine OL_sil rfl rfl rfl (Sil.move rfl rfl) ?_
              refine OL_sil rfl rfl rfl (Sil.add rfl rfl rfl (by omega) (by omega)) ?_
              refine OL_sil rfl rfl rfl (Sil.assign rfl rfl) ?_
              refine OL_nil ?_
              have hki : ¬ k = i := fun e => ht54 (by rw [e])
              have hu : upd (shf s i).2 i i k = (shf s i).2 k := by unfold upd; rw [if_neg hki]
              rw [hu, ints_set, ints_set, want_swap]
              exact ⟨(i + 1, some ⟨g1, 0, none⟩, cap1), ⟨by show i + 1 ≤ m; omega, ⟨rfl, rfl, slotV rfl (by rw [hsh]), rfl, rfl, trivial⟩, by show List.Sublist [_, sq _ _ _ _ _ (ints (i + 1) (shf s (i + 1)).2)] _; rw [hsh]; exact List.Sublist.cons_cons _ (List.Sublist.cons_cons _ (List.Sublist.cons _ .slnil))⟩, by show m - (i + 1) < m - i; omega⟩
            · refine TC_skip ?_
              refine TC_region ?_
              refine OL_sil rfl rfl rfl (Sil.move rfl rfl) ?_
              refine OL_sil rfl rfl rfl (Sil.add rfl rfl rfl (by omega) (by omega)) ?_
              refine OL_sil rfl rfl rfl (Sil.assign rfl rfl) ?_
              refine OL_nil ?_
              have hki : k = i := by omega
              subst hki
              rw [want_same]
              exact ⟨(k + 1, ao1, cap1), ⟨by show k + 1 ≤ m; omega, ⟨rfl, rfl, slotV rfl (by rw [hsh]), rfl, rfl, trivial⟩, by show List.Sublist [_, sq _ _ _ _ _ (ints (k + 1) (shf s (k + 1)).2)] _; rw [hsh]; exact List.Sublist.cons_cons _ (List.Sublist.cons_cons _ (List.Sublist.cons _ .slnil))⟩, by show m - (k + 1) < m - k; omega⟩
          · obtain rfl : i = m := by have : i ≤ m := hi; omega
            obtain ⟨g, hg⟩ : ∃ g, g = (shf s i).2 := ⟨_, rfl⟩
            rw [← hg] at hrange hinj
            refine TC_exit ?_
            refine TC_seq ?_
            refine TC_region ?_
            refine OL_sil rfl rfl rfl (Sil.move rfl rfl) ?_
            refine OL_loud rfl rfl rfl (LO.make1 (m := i) rfl rfl rfl rfl rfl elBool rfl (by unfold maxLen; omega) (by omega)) ?_
            rintro _ _ ⟨p, rfl, rfl⟩
            refine OL_sil rfl rfl rfl (Sil.assign rfl rfl) ?_
            refine OL_nil ?_
            refine TC_seq ?_
            refine TC_seq ?_
            refine TC_region ?_
            refine OL_sil rfl rfl rfl (Sil.move rfl rfl) ?_
            refine OL_sil rfl rfl rfl (Sil.lenSl rfl rfl Try.underlying30) ?_
            refine OL_sil rfl rfl rfl (Sil.move rfl rfl) ?_
            refine OL_nil ?_
            refine TC_block ?_
            refine TC_loop (fun j : Nat => [(5, .slice (some ⟨q, 0, none⟩) i i), (7, .slice ao i cap), (11, .slice (some ⟨p, 0, none⟩) i i), (68, .slice ao i cap), (69, .int .i64 i), (70, .int .i64 j)]) (fun j => [blk q (.cells (arr i fun t => .int .i64 (g t)) 3 (0, 0)), sq ao i cap 3 1 (ints i g), blk p (.cells (arr i fun v => .bool (seen g j v)) 4 (0, 0))]) (fun j => j ≤ i) (fun j => i - j) 0 ?_ ?_
            · exact ⟨Nat.zero_le _, ⟨rfl, rfl, rfl, rfl, rfl, rfl, trivial⟩, by subst hg; exact List.Sublist.refl _⟩
            · intro j hj
              refine TC_seq ?_
              refine TC_region ?_
              refine OL_sil rfl rfl rfl (Sil.lss rfl rfl rfl) ?_
              refine OL_nil ?_
              refine TC_seq ?_
              refine TC_if rfl (fun ht71 => ?_) (fun ht71 => ?_)
              · refine TC_know (fun w hw => hw.sqSome (i := 1) rfl (by omega)) (fun hsome => ?_)
                obtain ⟨g1, rfl⟩ := hsome
                have hgj := hrange j (by omega)
                have hsn := seen_not g j i (by omega) hinj
                refine TC_skip ?_
                refine TC_seq ?_
                refine TC_block ?_
                refine TC_seq ?_
                refine TC_region ?_
                refine OL_sil rfl rfl rfl (Sil.move rfl rfl) ?_
                refine OL_sil rfl rfl rfl (Sil.assign rfl rfl) ?_
                refine OL_nil ?_
                refine TC_seq ?_
                refine TC_seq ?_
                refine TC_draw rfl (fun j => false) ?_
                refine DL_take 0 rfl (by kernel_rfl) rfl rfl rfl (Sil.move rfl rfl) (fun _ hr => hr) ?_
                refine DL_take 1 rfl (by kernel_rfl) rfl rfl rfl (Sil.move rfl rfl) (fun _ hr => hr) ?_
                refine DL_take 2 rfl (by kernel_rfl) rfl rfl rfl (Sil.indexOwn1 j rfl rfl rfl Try.underlying30 rfl rfl (by omega)) (fun _ hr => hr) ?_
                refine DL_take 3 rfl (by kernel_rfl) rfl rfl rfl (Sil.own 0 rfl rfl rfl Try.underlying3 rfl (arr_at _ _ j (by omega))) (fun _ hr => hr) ?_
                refine DL_take 4 rfl (by kernel_rfl) rfl rfl rfl (Sil.move rfl rfl) (fun _ hr => hr) ?_
                refine DL_take 5 rfl (by kernel_rfl) rfl rfl rfl (Sil.move rfl rfl) (fun _ hr => hr) ?_
                refine DL_take 6 rfl (by kernel_rfl) rfl rfl rfl (Sil.indexOwn1 j rfl rfl rfl Try.underlying30 rfl rfl (by omega)) (fun _ hr => hr) ?_
                refine DL_take 7 rfl (by kernel_rfl) rfl rfl rfl (Sil.sqLoad 1 rfl rfl rfl Try.underlying3 rfl (ints_at _ _ j (by omega))) (fun _ hr => hr) ?_
                refine DL_take 8 rfl (by kernel_rfl) rfl rfl rfl (Sil.neq rfl rfl rfl) (fun _ hr => hr) ?_
                refine DL_take 9 rfl (by kernel_rfl) rfl rfl rfl (Sil.move rfl rfl) (fun _ hr => hr) ?_
                refine DL_decn 82 rfl (fun ht82 => ?_) (fun ht82 => ?_)
                · exact absurd rfl ht82
                · refine DL_take 10 rfl (by kernel_rfl) rfl rfl rfl (Sil.move rfl rfl) (fun _ hr => hr) ?_
                  refine DL_take 11 rfl (by kernel_rfl) rfl rfl rfl (Sil.move rfl rfl) (fun _ hr => hr) ?_
                  refine DL_take 12 rfl (by kernel_rfl) rfl rfl rfl (Sil.move rfl rfl) (fun _ hr => hr) ?_
                  refine DL_take 13 rfl (by kernel_rfl) rfl rfl rfl (Sil.indexOwn1 j rfl rfl rfl Try.underlying30 rfl rfl (by omega)) (fun _ hr => hr) ?_
                  refine DL_take 14 rfl (by kernel_rfl) rfl rfl rfl (Sil.own 0 rfl rfl rfl Try.underlying3 rfl (arr_at _ _ j (by omega))) (fun _ hr => hr) ?_
                  refine DL_take 15 rfl (by kernel_rfl) rfl rfl rfl (Sil.indexOwn1 (g j) rfl rfl rfl Try.underlying40 rfl rfl hgj) (fun _ hr => hr) ?_
                  refine DL_take 16 rfl (by kernel_rfl) rfl rfl rfl (Sil.own 2 rfl rfl rfl Try.underlying4 rfl (arr_at _ _ (g j) hgj)) (fun _ hr => hr) ?_
                  refine DL_take 17 rfl (by kernel_rfl) rfl rfl rfl (Sil.pick0 rfl rfl rfl) (fun _ hr => hr) ?_
                  refine DL_done (by kernel_rfl) ?_
                  refine TC_cond rfl (fun ht90 => ?_) (fun ht90 => ?_)
                  · rw [hsn] at ht90; cases ht90
                  · refine TC_skip ?_
                    refine TC_region ?_
                    refine OL_sil rfl rfl rfl (Sil.move rfl rfl) ?_
                    refine OL_sil rfl rfl rfl (Sil.move rfl rfl) ?_
                    refine OL_sil rfl rfl rfl (Sil.move rfl rfl) ?_
                    refine OL_sil rfl rfl rfl (Sil.indexOwn1 j rfl rfl rfl Try.underlying30 rfl rfl (by omega)) ?_
                    refine OL_sil rfl rfl rfl (Sil.own 0 rfl rfl rfl Try.underlying3 rfl (arr_at _ _ j (by omega))) ?_
                    refine OL_sil rfl rfl rfl (Sil.indexOwn1 (g j) rfl rfl rfl Try.underlying40 rfl rfl hgj) ?_
                    refine OL_loud0 rfl rfl (LO.storeAs 2 (arr i fun v => .bool (seen g (j + 1) v)) rfl rfl rfl rfl rfl rfl (by simp [Value.cells, oneC]) (by rw [arr_size]; show g j + 1 ≤ i; omega) (seen_put g j i)) ?_
                    rintro _ _ ⟨rfl, rfl⟩
                    refine OL_nil ?_
                    refine TC_region ?_
                    refine OL_sil rfl rfl rfl (Sil.add rfl rfl rfl (by omega) (by omega)) ?_
                    refine OL_sil rfl rfl rfl (Sil.move rfl rfl) ?_
                    refine OL_nil ?_
                    exact ⟨j + 1, ⟨by omega, ⟨rfl, rfl, rfl, rfl, rfl, rfl, trivial⟩, List.Sublist.refl _⟩, by omega⟩
              · refine TC_exit ?_
                refine TC_seq ?_
                refine TC_region ?_
                refine OL_sil rfl rfl rfl (Sil.assign rfl rfl) ?_
                refine OL_nil ?_
                refine TC_ret ?_
                exact ret1 rfl rfl ⟨rfl, rfl⟩
end Go.Proofs.Ytccmgmjfcfacoaa
