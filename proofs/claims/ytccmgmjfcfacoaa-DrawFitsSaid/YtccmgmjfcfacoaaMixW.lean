/-
  Walks: a place is drawn as its weight says.
-/
import Derived.Test.YtccmgmjfcfacoaaMixE
namespace Go.Proofs.Ytccmgmjfcfacoaa
open Go.Cru

/-- A weight that counts. -/
def cl (w : Int) : Int := min (max w 0) 1048576
theorem cl_swap (w : Int) : max 0 (min w 1048576) = cl w := by unfold cl; omega
theorem cl_nonneg (w : Int) : 0 ≤ cl w := by unfold cl; omega
theorem cl_le (w : Int) : cl w ≤ 1048576 := by unfold cl; omega
def wsum (f : Nat → Int) : Nat → Int
  | 0 => 0
  | i + 1 => wsum f i + cl (f i)
theorem wsum_bd (f : Nat → Int) (i : Nat) : 0 ≤ wsum f i ∧ wsum f i ≤ 1048576 * i := by
  induction i with
  | zero => simp [wsum]
  | succ i ih =>
    have h1 := cl_nonneg (f i)
    have h2 := cl_le (f i)
    rw [wsum]
    omega
/-- The first place at which the sum is over x. -/
def pickW (f : Nat → Int) (x : Int) : Nat → Option Nat
  | 0 => none
  | i + 1 => match pickW f x i with
    | some j => some j
    | none => if x < wsum f (i + 1) then some i else none
theorem pickW_some (f : Nat → Int) (x : Int) (i : Nat) (hn : pickW f x i = none) (hx : x < wsum f (i + 1)) (m : Nat) (hm : i < m) : pickW f x m = some i := by
  induction m with
  | zero => omega
  | succ m ih =>
    by_cases h : i = m
    · subst h; simp [pickW, hn, hx]
    · simp [pickW, ih (by omega)]
theorem pickW_none (f : Nat → Int) (x : Int) (i : Nat) (hn : pickW f x i = none) : 0 < i → wsum f i ≤ x := by
  cases i with
  | zero => intro h; omega
  | succ i =>
    intro _
    rw [pickW] at hn
    split at hn
    · cases hn
    · split at hn
      · cases hn
      · omega
theorem pickW_spec (f : Nat → Int) (x : Int) (hx0 : 0 ≤ x) (m : Nat) (hx : x < wsum f m) : ∃ j, j < m ∧ pickW f x m = some j ∧ 0 < f j := by
  induction m with
  | zero => simp [wsum] at hx; omega
  | succ m ih =>
    by_cases h : x < wsum f m
    · obtain ⟨j, h1, h2, h3⟩ := ih h
      exact ⟨j, by omega, by simp [pickW, h2], h3⟩
    · cases hp : pickW f x m with
      | none =>
        refine ⟨m, by omega, by simp [pickW, hp, hx], ?_⟩
        rw [wsum] at hx
        have : 0 < cl (f m) := by omega
        unfold cl at this
        omega
      | some j =>
        exfalso
        have key : ∀ i, pickW f x i = some j → x < wsum f i := by
          intro i
          induction i with
          | zero => intro h; cases h
          | succ i ih =>
            intro h
            rw [pickW] at h
            split at h
            · rename_i k hk
              cases h
              have h1 := ih hk
              have h2 := cl_nonneg (f i)
              rw [wsum]
              omega
            · split at h
              · assumption
              · cases h
        exact h (key m hp)

theorem Weigh_gives (b s : Nat) (a : Option Addr) (len cap : Nat) (f : Nat → Int) (hlen : len ≤ 1000) (w0 : World) (ho : Own w0 [b] [srcR b s] w0) (hd : IntSl w0 a len f) (hab : ∀ x, a = some x → 0 < len → x.block ≠ b) :
    Gives Try.prog 23 [.pointer (some ⟨b, 0, none⟩), .slice a len cap] w0 [b] fun v h => v = .int .i64 (((pickW f (bel s (wsum f len)) len).getD 0 : Nat) : Int) ∧ h = [srcR b (nxt s)] := by
  refine gives_of Try.func23 rfl rfl rfl ho ?_
  refine TC_seq ?_
  refine TC_region ?_
  refine OL_sil rfl rfl rfl (Sil.assign rfl rfl) ?_
  refine OL_nil ?_
  refine TC_seq ?_
  refine TC_region ?_
  refine OL_sil rfl rfl rfl (Sil.assign rfl rfl) ?_
  refine OL_nil ?_
  refine TC_seq ?_
  refine TC_seq ?_
  refine TC_region ?_
  refine OL_sil rfl rfl rfl (Sil.move rfl rfl) ?_
  refine OL_sil rfl rfl rfl (Sil.lenSl rfl rfl Try.underlying30) ?_
  refine OL_sil rfl rfl rfl (Sil.move rfl rfl) ?_
  refine OL_nil ?_
  refine TC_block ?_
  refine TC_loop (fun i : Nat => [(0, .pointer (some ⟨b, 0, none⟩)), (1, .slice a len cap), (5, .int .i64 (wsum f i)), (11, .slice a len cap), (12, .int .i64 len), (13, .int .i64 i)]) (fun _ => [srcR b s]) (fun i => i ≤ len) (fun i => len - i) 0 ?_ ?_
  · exact ⟨Nat.zero_le _, ⟨rfl, rfl, rfl, rfl, rfl, rfl, trivial⟩, List.Sublist.refl _⟩
  · intro i hi
    refine TC_seq ?_
    refine TC_region ?_
    refine OL_sil rfl rfl rfl (Sil.lss rfl rfl rfl) ?_
    refine OL_nil ?_
    refine TC_seq ?_
    refine TC_if rfl (fun ht14 => ?_) (fun ht14 => ?_)
    · obtain ⟨x, rfl, hc⟩ := hd i (by omega)
      have hxb := hab x rfl (by omega)
      have hw := wsum_bd f i
      have hw1 := wsum_bd f (i + 1)
      have hws : wsum f (i + 1) = wsum f i + cl (f i) := rfl
      refine TC_skip ?_
      refine TC_seq ?_
      refine TC_block ?_
      refine TC_seq ?_
      refine TC_region ?_
      refine OL_sil rfl rfl rfl (Sil.indexSl1 i rfl rfl rfl Try.underlying30 rfl rfl (by omega)) ?_
      refine OL_sil rfl rfl rfl (Sil.old rfl rfl Try.underlying3 rfl hc (by rw [add_block]; simpa using hxb)) ?_
      refine OL_sil rfl rfl rfl (Sil.assign rfl rfl) ?_
      refine OL_nil ?_
      refine TC_region ?_
      refine OL_sil rfl rfl rfl (Sil.move rfl rfl) ?_
      refine OL_sil rfl rfl rfl (Sil.move rfl rfl) ?_
      refine OL_sil rfl rfl rfl (Sil.maxI rfl rfl rfl) ?_
      refine OL_sil rfl rfl rfl (Sil.minI rfl rfl rfl) ?_
      refine OL_slot 20 (v := .int .i64 (cl (f i))) rfl rfl ?_
      refine OL_sil rfl rfl rfl (Sil.add rfl rfl rfl (by omega) (by omega)) ?_
      refine OL_sil rfl rfl rfl (Sil.assign rfl rfl) ?_
      refine OL_nil ?_
      refine TC_region ?_
      refine OL_sil rfl rfl rfl (Sil.add rfl rfl rfl (by omega) (by omega)) ?_
      refine OL_sil rfl rfl rfl (Sil.move rfl rfl) ?_
      refine OL_nil ?_
      exact ⟨i + 1, ⟨by omega, ⟨rfl, rfl, rfl, rfl, rfl, rfl, trivial⟩, List.Sublist.refl _⟩, by omega⟩
    · obtain rfl : i = len := by omega
      have hw := wsum_bd f i
      refine TC_exit ?_
      refine TC_seq ?_
      refine TC_region ?_
      refine OL_sil rfl rfl rfl (Sil.move rfl rfl) ?_
      refine OL_sil rfl rfl rfl (Sil.move rfl rfl) ?_
      refine OL_loud rfl rfl rfl (LO.lent (r' := srcR b (nxt s)) 0 rfl ent21 rfl rfl (Eq.refl [b]) (fun w _ ho' => Below_gives b s (wsum f i) (by omega) w ho')) ?_
      rintro _ _ ⟨rfl, rfl⟩
      refine OL_sil rfl rfl rfl (Sil.assign rfl rfl) ?_
      refine OL_nil ?_
      refine TC_seq ?_
      refine TC_seq ?_
      refine TC_region ?_
      refine OL_sil rfl rfl rfl (Sil.move rfl rfl) ?_
      refine OL_sil rfl rfl rfl (Sil.lenSl rfl rfl Try.underlying30) ?_
      refine OL_sil rfl rfl rfl (Sil.move rfl rfl) ?_
      refine OL_nil ?_
      refine TC_block ?_
      refine TC_loop (fun k : Nat => [(8, .int .i64 ((bel s (wsum f i) : Int) - wsum f k)), (26, .slice a i cap), (27, .int .i64 i), (28, .int .i64 k)]) (fun _ => [srcR b (nxt s)]) (fun k => k ≤ i ∧ pickW f (bel s (wsum f i)) k = none) (fun k => i - k) 0 ?_ ?_
      · exact ⟨⟨Nat.zero_le _, rfl⟩, ⟨slotI rfl (by simp [wsum]), rfl, rfl, rfl, trivial⟩, List.Sublist.refl _⟩
      · intro k ⟨hk, hpk⟩
        refine TC_seq ?_
        refine TC_region ?_
        refine OL_sil rfl rfl rfl (Sil.lss rfl rfl rfl) ?_
        refine OL_nil ?_
        refine TC_seq ?_
        refine TC_if rfl (fun ht29 => ?_) (fun ht29 => ?_)
        · obtain ⟨x, rfl, hc⟩ := hd k (by omega)
          have hxb := hab x rfl (by omega)
          have hwk := wsum_bd f k
          have hwk1 := wsum_bd f (k + 1)
          have hws : wsum f (k + 1) = wsum f k + cl (f k) := rfl
          have hbel : (bel s (wsum f i) : Int) ≤ 9223372036854775807 := by
            by_cases h1 : wsum f i ≤ 1
            · have : bel s (wsum f i) = 0 := by unfold bel; rw [if_pos h1]
              omega
            · have := bel_lt s (wsum f i) (by omega)
              omega
          refine TC_skip ?_
          refine TC_seq ?_
          refine TC_block ?_
          refine TC_seq ?_
          refine TC_region ?_
          refine OL_sil rfl rfl rfl (Sil.move rfl rfl) ?_
          refine OL_sil rfl rfl rfl (Sil.indexSl1 k rfl rfl rfl Try.underlying30 rfl rfl (by omega)) ?_
          refine OL_sil rfl rfl rfl (Sil.old rfl rfl Try.underlying3 rfl hc (by rw [add_block]; simpa using hxb)) ?_
          refine OL_sil rfl rfl rfl (Sil.assign rfl rfl) ?_
          refine OL_sil rfl rfl rfl (Sil.assign rfl rfl) ?_
          refine OL_nil ?_
          refine TC_seq ?_
          refine TC_region ?_
          refine OL_sil rfl rfl rfl (Sil.move rfl rfl) ?_
          refine OL_sil rfl rfl rfl (Sil.move rfl rfl) ?_
          refine OL_sil rfl rfl rfl (Sil.maxI rfl rfl rfl) ?_
          refine OL_sil rfl rfl rfl (Sil.minI rfl rfl rfl) ?_
          refine OL_slot 36 (v := .int .i64 (cl (f k))) rfl rfl ?_
          refine OL_sil rfl rfl rfl (Sil.sub rfl rfl rfl (by omega) (by omega)) ?_
          refine OL_sil rfl rfl rfl (Sil.assign rfl rfl) ?_
          refine OL_nil ?_
          refine TC_seq ?_
          refine TC_region ?_
          refine OL_sil rfl rfl rfl (Sil.move rfl rfl) ?_
          refine OL_sil rfl rfl rfl (Sil.lss rfl rfl rfl) ?_
          refine OL_nil ?_
          refine TC_if rfl (fun ht39 => ?_) (fun ht39 => ?_)
          · refine TC_seq ?_
            refine TC_region ?_
            refine OL_sil rfl rfl rfl (Sil.move rfl rfl) ?_
            refine OL_sil rfl rfl rfl (Sil.assign rfl rfl) ?_
            refine OL_nil ?_
            refine TC_ret ?_
            exact ret1h rfl rfl (List.Sublist.refl _) ⟨by rw [pickW_some f _ k hpk (by omega) i (by omega)]; rfl, rfl⟩
          · refine TC_skip ?_
            refine TC_region ?_
            refine OL_sil rfl rfl rfl (Sil.add rfl rfl rfl (by omega) (by omega)) ?_
            refine OL_sil rfl rfl rfl (Sil.move rfl rfl) ?_
            refine OL_nil ?_
            exact ⟨k + 1, ⟨⟨by omega, by rw [pickW, hpk]; exact if_neg (by omega)⟩, ⟨slotI rfl (by omega), rfl, rfl, rfl, trivial⟩, List.Sublist.refl _⟩, by omega⟩
        · obtain rfl : k = i := by omega
          refine TC_exit ?_
          refine TC_seq ?_
          refine TC_region ?_
          refine OL_sil rfl rfl rfl (Sil.assign rfl rfl) ?_
          refine OL_nil ?_
          refine TC_ret ?_
          exact ret1h rfl rfl (List.Sublist.refl _) ⟨by rw [hpk]; rfl, rfl⟩

theorem MixWeighs_gives (s : Nat) (a : Option Addr) (len cap : Nat) (f : Nat → Int) (hs : s < 18446744073709551616) (w0 : World) (hd : IntSl w0 a len f) :
    Gives Try.prog 8 [.int .u64 s, .slice a len cap] w0 [] fun v h => v = .bool true ∧ h = [] := by
  refine gives_of Try.func8 rfl rfl rfl (Own.start w0) ?_
  refine TC_seq ?_
  refine TC_region ?_
  refine OL_sil rfl rfl rfl (Sil.assign rfl rfl) ?_
  refine OL_nil ?_
  refine TC_seq ?_
  refine TC_seq ?_
  refine TC_region ?_
  refine OL_pure rfl rfl rfl (LO.pure rfl ent16 rfl (fun w _ => head_gives w)) ?_
  refine OL_sil rfl rfl rfl (Sil.not rfl rfl) ?_
  refine OL_nil ?_
  refine TC_no rfl ?_
  refine TC_skip ?_
  refine TC_seq ?_
  refine TC_seq ?_
  refine TC_region ?_
  refine OL_sil rfl rfl rfl (Sil.move rfl rfl) ?_
  refine OL_sil rfl rfl rfl (Sil.lenSl rfl rfl Try.underlying30) ?_
  refine OL_sil rfl rfl rfl (Sil.gtr rfl rfl rfl) ?_
  refine OL_nil ?_
  refine TC_if rfl (fun ht23 => ?_) (fun ht23 => ?_)
  · refine TC_seq ?_
    refine TC_region ?_
    refine OL_sil rfl rfl rfl (Sil.assign rfl rfl) ?_
    refine OL_nil ?_
    refine TC_ret ?_
    exact ret1 rfl rfl ⟨rfl, rfl⟩
  · refine TC_skip ?_
    refine TC_seq ?_
    refine TC_region ?_
    refine OL_sil rfl rfl rfl (Sil.assign rfl rfl) ?_
    refine OL_nil ?_
    refine TC_seq ?_
    refine TC_seq ?_
    refine TC_region ?_
    refine OL_sil rfl rfl rfl (Sil.move rfl rfl) ?_
    refine OL_sil rfl rfl rfl (Sil.lenSl rfl rfl Try.underlying30) ?_
    refine OL_sil rfl rfl rfl (Sil.move rfl rfl) ?_
    refine OL_nil ?_
    refine TC_block ?_
    refine TC_loop (fun i : Nat => [(0, .int .u64 s), (1, .slice a len cap), (5, .int .i64 (wsum f i)), (24, .slice a len cap), (25, .int .i64 len), (26, .int .i64 i)]) (fun _ => []) (fun i => i ≤ len) (fun i => len - i) 0 ?_ ?_
    · exact ⟨Nat.zero_le _, ⟨rfl, rfl, rfl, rfl, rfl, rfl, trivial⟩, List.Sublist.refl _⟩
    · intro i hi
      refine TC_seq ?_
      refine TC_region ?_
      refine OL_sil rfl rfl rfl (Sil.lss rfl rfl rfl) ?_
      refine OL_nil ?_
      refine TC_seq ?_
      refine TC_if rfl (fun ht27 => ?_) (fun ht27 => ?_)
      · obtain ⟨x, rfl, hc⟩ := hd i (by omega)
        have hw := wsum_bd f i
        have hw1 := wsum_bd f (i + 1)
        have hws : wsum f (i + 1) = wsum f i + cl (f i) := rfl
        refine TC_skip ?_
        refine TC_seq ?_
        refine TC_block ?_
        refine TC_seq ?_
        refine TC_region ?_
        refine OL_sil rfl rfl rfl (Sil.indexSl1 i rfl rfl rfl Try.underlying30 rfl rfl (by omega)) ?_
        refine OL_sil rfl rfl rfl (Sil.old rfl rfl Try.underlying3 rfl hc (by simp)) ?_
        refine OL_sil rfl rfl rfl (Sil.assign rfl rfl) ?_
        refine OL_nil ?_
        refine TC_region ?_
        refine OL_sil rfl rfl rfl (Sil.move rfl rfl) ?_
        refine OL_sil rfl rfl rfl (Sil.move rfl rfl) ?_
        refine OL_sil rfl rfl rfl (Sil.minI rfl rfl rfl) ?_
        refine OL_sil rfl rfl rfl (Sil.maxI rfl rfl rfl) ?_
        refine OL_slot 33 (v := .int .i64 (cl (f i))) rfl (by rw [cl_swap]) ?_
        refine OL_sil rfl rfl rfl (Sil.add rfl rfl rfl (by omega) (by omega)) ?_
        refine OL_sil rfl rfl rfl (Sil.assign rfl rfl) ?_
        refine OL_nil ?_
        refine TC_region ?_
        refine OL_sil rfl rfl rfl (Sil.add rfl rfl rfl (by omega) (by omega)) ?_
        refine OL_sil rfl rfl rfl (Sil.move rfl rfl) ?_
        refine OL_nil ?_
        exact ⟨i + 1, ⟨by omega, ⟨rfl, rfl, rfl, rfl, rfl, rfl, trivial⟩, List.Sublist.refl _⟩, by omega⟩
      · obtain rfl : i = len := by omega
        have hw := wsum_bd f i
        refine TC_exit ?_
        refine TC_seq ?_
        refine TC_region ?_
        refine OL_sil rfl rfl rfl (Sil.move rfl rfl) ?_
        refine OL_sil rfl rfl rfl (Sil.move rfl rfl) ?_
        refine OL_pure rfl rfl rfl (LO.pure rfl ent20 rfl (fun w _ => refBelow_gives s (wsum f i) hs (by omega) w)) ?_
        refine OL_sil rfl rfl rfl (Sil.move rfl rfl) ?_
        refine OL_sil rfl rfl rfl (Sil.extract rfl rfl rfl) ?_
        refine OL_sil rfl rfl rfl (Sil.extract rfl rfl rfl) ?_
        refine OL_sil rfl rfl rfl (Sil.assign rfl rfl) ?_
        refine OL_sil rfl rfl rfl (Sil.assign rfl rfl) ?_
        refine OL_nil ?_
        refine TC_seq ?_
        refine TC_region ?_
        refine OL_sil rfl rfl rfl (Sil.assign rfl rfl) ?_
        refine OL_nil ?_
        refine TC_seq ?_
        refine TC_region ?_
        refine OL_sil rfl rfl rfl (Sil.assign rfl rfl) ?_
        refine OL_nil ?_
        refine TC_seq ?_
        refine TC_region ?_
        refine OL_sil rfl rfl rfl (Sil.assign rfl rfl) ?_
        refine OL_nil ?_
        refine TC_seq ?_
        refine TC_seq ?_
        refine TC_region ?_
        refine OL_sil rfl rfl rfl (Sil.move rfl rfl) ?_
        refine OL_sil rfl rfl rfl (Sil.lenSl rfl rfl Try.underlying30) ?_
        refine OL_sil rfl rfl rfl (Sil.move rfl rfl) ?_
        refine OL_nil ?_
        refine TC_block ?_
        refine TC_loop (fun k : Nat => [(0, .int .u64 s), (1, .slice a i cap), (5, .int .i64 (wsum f i)), (8, .int .u64 (nxt s)), (9, .int .i64 (bel s (wsum f i))), (10, .int .i64 (((pickW f (bel s (wsum f i)) k).getD 0 : Nat) : Int)), (11, .int .i64 (wsum f k)), (12, .bool (pickW f (bel s (wsum f i)) k).isSome), (42, .slice a i cap), (43, .int .i64 i), (44, .int .i64 k)]) (fun _ => []) (fun k => k ≤ i) (fun k => i - k) 0 ?_ ?_
        · exact ⟨Nat.zero_le _, ⟨rfl, rfl, rfl, rfl, rfl, rfl, rfl, rfl, rfl, rfl, rfl, trivial⟩, List.nil_sublist _⟩
        · intro k hk
          refine TC_seq ?_
          refine TC_region ?_
          refine OL_sil rfl rfl rfl (Sil.lss rfl rfl rfl) ?_
          refine OL_nil ?_
          refine TC_seq ?_
          refine TC_if rfl (fun ht45 => ?_) (fun ht45 => ?_)
          · obtain ⟨x, rfl, hc⟩ := hd k (by omega)
            have hwk := wsum_bd f k
            have hwk1 := wsum_bd f (k + 1)
            have hws : wsum f (k + 1) = wsum f k + cl (f k) := rfl
            refine TC_skip ?_
            refine TC_seq ?_
            refine TC_block ?_
            refine TC_seq ?_
            refine TC_region ?_
            refine OL_sil rfl rfl rfl (Sil.move rfl rfl) ?_
            refine OL_sil rfl rfl rfl (Sil.indexSl1 k rfl rfl rfl Try.underlying30 rfl rfl (by omega)) ?_
            refine OL_sil rfl rfl rfl (Sil.old rfl rfl Try.underlying3 rfl hc (by simp)) ?_
            refine OL_sil rfl rfl rfl (Sil.assign rfl rfl) ?_
            refine OL_sil rfl rfl rfl (Sil.assign rfl rfl) ?_
            refine OL_nil ?_
            refine TC_seq ?_
            refine TC_region ?_
            refine OL_sil rfl rfl rfl (Sil.move rfl rfl) ?_
            refine OL_sil rfl rfl rfl (Sil.move rfl rfl) ?_
            refine OL_sil rfl rfl rfl (Sil.minI rfl rfl rfl) ?_
            refine OL_sil rfl rfl rfl (Sil.maxI rfl rfl rfl) ?_
            refine OL_slot 52 (v := .int .i64 (cl (f k))) rfl (by rw [cl_swap]) ?_
            refine OL_sil rfl rfl rfl (Sil.add rfl rfl rfl (by omega) (by omega)) ?_
            refine OL_sil rfl rfl rfl (Sil.assign rfl rfl) ?_
            refine OL_nil ?_
            refine TC_seq ?_
            refine TC_region ?_
            refine OL_sil rfl rfl rfl (Sil.move rfl rfl) ?_
            refine OL_sil rfl rfl rfl (Sil.not rfl rfl) ?_
            refine OL_sil rfl rfl rfl (Sil.move rfl rfl) ?_
            refine OL_cases 56 rfl (fun ht56 => ?_) (fun ht56 => ?_)
            · have hpk : pickW f (bel s (wsum f i)) k = none := by
                cases hp : pickW f (bel s (wsum f i)) k with
                | none => rfl
                | some j => rw [hp] at ht56; cases ht56
              refine OL_sil rfl rfl rfl (Sil.move rfl rfl) ?_
              refine OL_sil rfl rfl rfl (Sil.move rfl rfl) ?_
              refine OL_sil rfl rfl rfl (Sil.gtr rfl rfl rfl) ?_
              refine OL_sil rfl rfl rfl (Sil.pick1 rfl rfl rfl) ?_
              refine OL_nil ?_
              refine TC_if rfl (fun ht60 => ?_) (fun ht60 => ?_)
              · have hpk1 : pickW f (bel s (wsum f i)) (k + 1) = some k := by rw [pickW, hpk]; exact if_pos (by omega)
                refine TC_seq ?_
                refine TC_region ?_
                refine OL_sil rfl rfl rfl (Sil.move rfl rfl) ?_
                refine OL_sil rfl rfl rfl (Sil.assign rfl rfl) ?_
                refine OL_nil ?_
                refine TC_region ?_
                refine OL_sil rfl rfl rfl (Sil.assign rfl rfl) ?_
                refine OL_nil ?_
                refine TC_region ?_
                refine OL_sil rfl rfl rfl (Sil.add rfl rfl rfl (by omega) (by omega)) ?_
                refine OL_sil rfl rfl rfl (Sil.move rfl rfl) ?_
                refine OL_nil ?_
                exact ⟨k + 1, ⟨by omega, ⟨rfl, rfl, rfl, rfl, rfl, slotI rfl (by rw [hpk1]; rfl), rfl, slotV rfl (by rw [hpk1]; rfl), rfl, rfl, rfl, trivial⟩, List.nil_sublist _⟩, by omega⟩
              · have hpk1 : pickW f (bel s (wsum f i)) (k + 1) = none := by rw [pickW, hpk]; exact if_neg (by omega)
                refine TC_skip ?_
                refine TC_region ?_
                refine OL_sil rfl rfl rfl (Sil.add rfl rfl rfl (by omega) (by omega)) ?_
                refine OL_sil rfl rfl rfl (Sil.move rfl rfl) ?_
                refine OL_nil ?_
                exact ⟨k + 1, ⟨by omega, ⟨rfl, rfl, rfl, rfl, rfl, slotI rfl (by rw [hpk1, hpk]), rfl, slotV rfl (by rw [hpk1, hpk]), rfl, rfl, rfl, trivial⟩, List.nil_sublist _⟩, by omega⟩
            · obtain ⟨j, hpk⟩ : ∃ j, pickW f (bel s (wsum f i)) k = some j := by
                cases hp : pickW f (bel s (wsum f i)) k with
                | none => rw [hp] at ht56; cases ht56
                | some j => exact ⟨j, rfl⟩
              refine OL_skip rfl rfl rfl ?_
              refine OL_skip rfl rfl rfl ?_
              refine OL_skip rfl rfl rfl ?_
              refine OL_sil rfl rfl rfl (Sil.pick0 rfl rfl rfl) ?_
              refine OL_nil ?_
              refine TC_no rfl ?_
              refine TC_skip ?_
              refine TC_region ?_
              refine OL_sil rfl rfl rfl (Sil.add rfl rfl rfl (by omega) (by omega)) ?_
              refine OL_sil rfl rfl rfl (Sil.move rfl rfl) ?_
              refine OL_nil ?_
              have hpk1 : pickW f (bel s (wsum f i)) (k + 1) = some j := by rw [pickW, hpk]
              exact ⟨k + 1, ⟨by omega, ⟨rfl, rfl, rfl, rfl, rfl, slotI rfl (by rw [hpk1, hpk]), rfl, slotV rfl (by rw [hpk1, hpk]), rfl, rfl, rfl, trivial⟩, List.nil_sublist _⟩, by omega⟩
          · obtain rfl : k = i := by omega
            refine TC_exit ?_
            refine TC_seq ?_
            refine TC_region ?_
            refine OL_sil rfl rfl rfl (Sil.move rfl rfl) ?_
            refine OL_loud rfl rfl rfl (LO.calls rfl ent17 rfl (fun w _ => New_gives s w)) ?_
            rintro _ _ ⟨_, ⟨b, rfl, rfl⟩, rfl⟩
            refine OL_sil rfl rfl rfl (Sil.assign rfl rfl) ?_
            refine OL_nil ?_
            refine TC_seq ?_
            refine TC_region ?_
            refine OL_sil rfl rfl rfl (Sil.move rfl rfl) ?_
            refine OL_sil rfl rfl rfl (Sil.move rfl rfl) ?_
            refine OL_loud rfl rfl rfl (LO.lent (r' := srcR b (nxt s)) 0 rfl ent23 rfl rfl (Eq.refl [b]) (fun w ho ho' => Weigh_gives b s a k cap f (by omega) w ho' (hd.at ho (by simp)) (hd.apart (ho.fresh (List.mem_singleton.2 rfl) (List.mem_singleton.2 rfl))))) ?_
            rintro _ _ ⟨rfl, rfl⟩
            refine OL_sil rfl rfl rfl (Sil.assign rfl rfl) ?_
            refine OL_nil ?_
            refine TC_seq ?_
            refine TC_region ?_
            refine OL_sil rfl rfl rfl (Sil.move rfl rfl) ?_
            refine OL_pure rfl rfl rfl (LO.pure rfl ent19 rfl (fun w _ => refNext_gives (nxt s) (nxt_lt s) w)) ?_
            refine OL_sil rfl rfl rfl (Sil.move rfl rfl) ?_
            refine OL_sil rfl rfl rfl (Sil.extract rfl rfl rfl) ?_
            refine OL_sil rfl rfl rfl (Sil.extract rfl rfl rfl) ?_
            refine OL_sil rfl rfl rfl (Sil.assign rfl rfl) ?_
            refine OL_sil rfl rfl rfl (Sil.assign rfl rfl) ?_
            refine OL_nil ?_
            refine TC_seq ?_
            refine TC_region ?_
            refine OL_sil rfl rfl rfl (Sil.move rfl rfl) ?_
            refine OL_sil rfl rfl rfl (Sil.move rfl rfl) ?_
            refine OL_sil rfl rfl rfl (Sil.eql rfl rfl rfl) ?_
            refine OL_sil rfl rfl rfl (Sil.move rfl rfl) ?_
            refine OL_dec 76 rfl (fun ht76 => ?_) (fun ht76 => ?_)
            · refine OL_sil rfl rfl rfl (Sil.move rfl rfl) ?_
              refine OL_sil rfl rfl rfl (Sil.eql rfl rfl rfl) ?_
              refine OL_sil rfl rfl rfl (Sil.move rfl rfl) ?_
              refine OL_dec 79 rfl (fun ht79 => ?_) (fun ht79 => ?_)
              · refine OL_skip rfl rfl rfl ?_
                refine OL_skip rfl rfl rfl ?_
                refine OL_skip rfl rfl rfl ?_
                refine OL_skip rfl rfl rfl ?_
                refine OL_skip rfl rfl rfl ?_
                refine OL_sil rfl rfl rfl (Sil.pick1 rfl rfl rfl) ?_
                refine OL_sil rfl rfl rfl (Sil.pick1 rfl rfl rfl) ?_
                refine OL_sil rfl rfl rfl (Sil.move rfl rfl) ?_
                refine OL_sil rfl rfl rfl (Sil.move rfl rfl) ?_
                refine OL_loud rfl rfl rfl (LO.lent (r' := srcR b (nxt (nxt s))) 0 rfl ent18 rfl rfl (Eq.refl [b]) (fun w _ ho' => Next_gives b (nxt s) w ho')) ?_
                rintro _ _ ⟨rfl, rfl⟩
                refine OL_sil rfl rfl rfl (Sil.move rfl rfl) ?_
                refine OL_sil rfl rfl rfl (Sil.eql rfl rfl rfl) ?_
                refine OL_sil rfl rfl rfl (Sil.pick1 rfl rfl rfl) ?_
                refine OL_sil rfl rfl rfl (Sil.assign rfl rfl) ?_
                refine OL_nil ?_
                refine TC_ret ?_
                exact ret1 rfl rfl ⟨congrArg Value.bool (decide_eq_true rfl), rfl⟩
              · obtain ⟨j, hj, hpj, hfj⟩ : ∃ j, j < k ∧ pickW f (bel s (wsum f k)) k = some j ∧ 0 < f j := by
                  refine pickW_spec f _ (by omega) k ?_
                  by_cases h1 : wsum f k ≤ 1
                  · have : bel s (wsum f k) = 0 := by unfold bel; rw [if_pos h1]
                    omega
                  · exact bel_lt s _ (by omega)
                obtain ⟨x, rfl, hc⟩ := hd j hj
                have hget : (pickW f (bel s (wsum f k)) k).getD 0 = j := by rw [hpj]; rfl
                refine OL_sil rfl rfl rfl (Sil.move rfl rfl) ?_
                refine OL_sil rfl rfl rfl (Sil.move rfl rfl) ?_
                refine OL_sil rfl rfl rfl (Sil.indexSl1 j rfl rfl rfl Try.underlying30 rfl (congrArg (fun z : Nat => (z : Int)) hget) hj) ?_
                refine OL_sil rfl rfl rfl (Sil.old rfl rfl Try.underlying3 rfl hc (by simp)) ?_
                refine OL_sil rfl rfl rfl (Sil.gtr rfl rfl rfl) ?_
                refine OL_sil rfl rfl rfl (Sil.pick0 rfl rfl rfl) ?_
                refine OL_sil rfl rfl rfl (Sil.pick1 rfl rfl rfl) ?_
                refine OL_sil rfl rfl rfl (Sil.move rfl rfl) ?_
                refine OL_dec 87 rfl (fun ht87 => ?_) (fun ht87 => ?_)
                · refine OL_sil rfl rfl rfl (Sil.move rfl rfl) ?_
                  refine OL_loud rfl rfl rfl (LO.lent (r' := srcR b (nxt (nxt s))) 0 rfl ent18 rfl rfl (Eq.refl [b]) (fun w _ ho' => Next_gives b (nxt s) w ho')) ?_
                  rintro _ _ ⟨rfl, rfl⟩
                  refine OL_sil rfl rfl rfl (Sil.move rfl rfl) ?_
                  refine OL_sil rfl rfl rfl (Sil.eql rfl rfl rfl) ?_
                  refine OL_sil rfl rfl rfl (Sil.pick1 rfl rfl rfl) ?_
                  refine OL_sil rfl rfl rfl (Sil.assign rfl rfl) ?_
                  refine OL_nil ?_
                  refine TC_ret ?_
                  exact ret1 rfl rfl ⟨congrArg Value.bool (decide_eq_true rfl), rfl⟩
                · exact absurd hfj ht87
            · exact absurd rfl ht76
end Go.Proofs.Ytccmgmjfcfacoaa
