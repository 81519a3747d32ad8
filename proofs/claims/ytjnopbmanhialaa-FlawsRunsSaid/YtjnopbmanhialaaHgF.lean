/-
  A slice of integers, opened. What FlawsRuns builds: transactions one behind the other; their flaws.
-/
import Derived.Test.YtjnopbmanhialaaHgE
import Derived.Test.YtjnopbmanhialaaOpn
namespace Go.Cru
open Go Go.ChangeShapes Go.WideShapes Go.Deep
section
variable {H : Type} {enc : TypeId × Value → H} {P : Program} {w : World} {base : Nat} {spare : Nat → Bool} {held : Bool} {fuel : Nat}
/-- A slice of integers. -/
theorem open_intsl {t e : TypeId} {r : Reach} {b0 : Nat} {v : Value} {d : DataW H} {p : List MemPlace} (ht : P.underlying t = some (.slice e)) (he : P.underlying e = some (.int .i64)) (hC : P.cellsOf e = 1)
    (hv : Value.okWide P w r b0 t v) (h : DataW.Trod enc P w base spare held t v d p) : ∃ (a : Option Addr) (cap : Nat) (zs : List Int), v = .slice a zs.length cap ∧ IntSl w a zs.length (fun i => zs.getD i 0) ∧ zs.length ≤ maxLen ∧ ∀ x ∈ zs, (Lit.int .i64 x).wf = true := by
  obtain ⟨a1, len1, cap1, rfl⟩ := okWide_slice ht hv
  obtain ⟨fuel, hf⟩ := h
  rcases open_slice ht hf with ⟨h0, _⟩ | ⟨a, len, cap, m, n, D, Pl, hcs, hb, hl, hm, hmm, _, hx⟩
  · simp [Value.cells] at h0
    obtain ⟨rfl, rfl, rfl⟩ := h0
    exact ⟨none, 0, [], rfl, fun i hi => absurd hi (Nat.not_lt_zero i), Nat.zero_le _, fun x hx => absurd hx (by simp)⟩
  · simp [Value.cells] at hcs
    obtain ⟨rfl, rfl, rfl⟩ := hcs
    have hlm : len1 ≤ m := by rw [hmm]; split <;> omega
    obtain ⟨zs, hzl, hzp⟩ := exists_list (fun j (z : Int) => w.cell? (a.add j) = some (.int .i64 z) ∧ (Lit.int .i64 z).wf = true) len1 fun i hi' => by
      obtain ⟨cs', hc, ht'⟩ := hx i (by omega)
      rw [hC] at hc
      obtain ⟨hlen, _, hat⟩ := World.cells?_some hc
      match cs', hlen with
      | [u], _ =>
        obtain ⟨z, e1, _, e2⟩ := DataW.trod_int he ht'
        simp at e1
        subst e1
        have h0 := hat 0 (by omega)
        rw [Nat.mul_one] at h0
        exact ⟨z, h0, e2⟩
    refine ⟨some a, cap1, zs, by rw [hzl], fun i hi => ?_, by rw [hzl]; omega, fun x hx => ?_⟩
    · obtain ⟨z, hz⟩ : ∃ z, zs[i]? = some z := ⟨_, List.getElem?_eq_getElem hi⟩
      exact ⟨a, rfl, by rw [(hzp i z hz).1]; show _ = some (Value.int .i64 (zs.getD i 0)); rw [List.getD_eq_getElem?_getD, hz]; rfl⟩
    · obtain ⟨j, hj⟩ := List.mem_iff_getElem?.1 hx
      exact (hzp j x hj).2
end
end Go.Cru
namespace Go.Proofs.Ytjnopbmanhialaa
open Go.Cru

/-- What was written last to key k, by the first i: 0 if nothing was. -/
def lastU (ks : List Nat) : Nat → Nat → Nat
  | 0, _ => 0
  | i + 1, k => match ks[i]? with
    | some c => if c = k then i + 1 else lastU ks i k
    | none => lastU ks i k
theorem lastU_hit {ks : List Nat} {i c : Nat} (h : ks[i]? = some c) : lastU ks (i + 1) c = i + 1 := by rw [lastU, h]; exact if_pos rfl
theorem lastU_miss {ks : List Nat} {i c k : Nat} (h : ks[i]? = some c) (hk : c ≠ k) : lastU ks (i + 1) k = lastU ks i k := by rw [lastU, h]; exact if_neg hk
theorem lastU_spec (ks : List Nat) (k : Nat) : ∀ i : Nat, lastU ks i k = 0 ∨ ∃ j, lastU ks i k = j + 1 ∧ j < i ∧ ks[j]? = some k
  | 0 => .inl rfl
  | i + 1 => by
    have up : (lastU ks i k = 0 ∨ ∃ j, lastU ks i k = j + 1 ∧ j < i ∧ ks[j]? = some k) → lastU ks i k = 0 ∨ ∃ j, lastU ks i k = j + 1 ∧ j < i + 1 ∧ ks[j]? = some k := fun h => h.imp id fun ⟨j, h1, h2, h3⟩ => ⟨j, h1, by omega, h3⟩
    cases hc : ks[i]? with
    | none => rw [lastU, hc]; exact up (lastU_spec ks k i)
    | some c =>
      by_cases e : c = k
      · subst e; rw [lastU_hit hc]; exact .inr ⟨i, rfl, by omega, hc⟩
      · rw [lastU_miss hc e]; exact up (lastU_spec ks k i)
def runO (ks : List Nat) (i c : Nat) : List OpD := [⟨1, c, lastU ks i c⟩, ⟨2, c, (i : Int) + 1⟩]
def runT (ks : List Nat) (i c : Nat) : RcD := ⟨1, 1, runO ks i c⟩
def runN (ks : List Nat) : Nat → List RcD
  | 0 => []
  | i + 1 => match ks[i]? with
    | some c => runN ks i ++ [runT ks i c]
    | none => runN ks i
theorem runN_succ {ks : List Nat} {i c : Nat} (h : ks[i]? = some c) : runN ks (i + 1) = runN ks i ++ [runT ks i c] := by rw [runN, h]
theorem runN_len (ks : List Nat) : ∀ i, i ≤ ks.length → (runN ks i).length = i
  | 0, _ => rfl
  | i + 1, hi => by
    obtain ⟨c, hc⟩ : ∃ c, ks[i]? = some c := ⟨_, List.getElem?_eq_getElem (by omega)⟩
    rw [runN_succ hc, List.length_append, runN_len ks i (by omega)]
    rfl
theorem runN_at (ks : List Nat) {j c : Nat} (hc : ks[j]? = some c) : ∀ i, i ≤ ks.length → j < i → (runN ks i)[j]? = some (runT ks j c)
  | 0, _, hj => by omega
  | i + 1, hi, hj => by
    obtain ⟨c', hc'⟩ : ∃ c, ks[i]? = some c := ⟨_, List.getElem?_eq_getElem (by omega)⟩
    have hl := runN_len ks i (by omega)
    rw [runN_succ hc']
    by_cases e : j = i
    · subst e
      rw [hc] at hc'
      cases hc'
      rw [List.getElem?_append_right (by omega), hl, Nat.sub_self]
      rfl
    · rw [List.getElem?_append_left (by omega)]
      exact runN_at ks hc i (by omega) (by omega)
theorem rd_run (ks : List Nat) (i c : Nat) : rdF (runT ks i c) = [⟨1, c, lastU ks i c⟩] := by
  simp [rdF, runT, runO, rdN, wroB]
theorem run_wr {ks : List Nat} {i c : Nat} {p : Int × Int} (h : wrHas (runO ks i c) (runO ks i c).length p = true) : ((c : Int), (i : Int) + 1) = p := by
  obtain ⟨o, ho, hk, hp⟩ := wrHas_mem h
  unfold runO at ho
  rcases List.mem_cons.1 ho with rfl | ho
  · exact absurd hk (show ¬ (1 : Int) = 2 by decide)
  · rw [List.mem_singleton.1 ho] at hp; exact hp
theorem run_has (ks : List Nat) (i c : Nat) : wrHas (runO ks i c) (runO ks i c).length ((c : Int), (i : Int) + 1) = true := wrHas_of (j := 1) (o := ⟨2, c, (i : Int) + 1⟩) rfl rfl rfl
theorem run_at' (ks : List Nat) {w : Nat} {t : RcD} (h : (runN ks ks.length)[w]? = some t) : ∃ c, ks[w]? = some c ∧ t = runT ks w c := by
  have hlt := ltOf h
  rw [runN_len ks _ (Nat.le_refl _)] at hlt
  obtain ⟨c, hc⟩ : ∃ c, ks[w]? = some c := ⟨_, List.getElem?_eq_getElem hlt⟩
  have h2 := runN_at ks hc ks.length (Nat.le_refl _) hlt
  rw [h] at h2
  exact ⟨c, hc, Option.some.inj h2⟩
theorem run_by (ks : List Nat) {j c : Nat} (hc : ks[j]? = some c) : byI (runN ks ks.length) ((c : Int), (j : Int) + 1) = j := by
  rcases byI_spec (runN ks ks.length) ((c : Int), (j : Int) + 1) with ⟨_, h2⟩ | ⟨w, t, h1, h2, h3⟩
  · have := h2 j _ (runN_at ks hc ks.length (Nat.le_refl _) (ltOf hc))
    rw [show (runT ks j c).ops = runO ks j c from rfl, run_has] at this
    cases this
  · obtain ⟨c', _, rfl⟩ := run_at' ks h2
    have h4 := (Prod.mk.inj (run_wr h3)).2
    rw [h1]
    omega
theorem wrN_has {ops : List OpD} {k : Nat} {o : OpD} (h : lastOp ops k ops.length = some o) : ∀ n, k < n → o ∈ wrN ops n
  | 0, hk => by omega
  | n + 1, hk => by
    by_cases e : k = n
    · subst e; rw [wrN_hit h]; simp
    · rw [wrN]; exact List.mem_append_left _ (wrN_has h n (by omega))
theorem run_la (ks : List Nat) {j c : Nat} (hc : ks[j]? = some c) (h3 : c ≤ 3) : laN (runN ks ks.length) (runN ks ks.length).length ((c : Int), (j : Int) + 1) = true := by
  unfold laN
  rw [List.take_length, List.any_eq_true]
  refine ⟨runT ks j c, List.mem_of_getElem? (runN_at ks hc ks.length (Nat.le_refl _) (ltOf hc)), ?_⟩
  have hl : lastOp (runO ks j c) c (runO ks j c).length = some ⟨2, c, (j : Int) + 1⟩ := lastOp_hit (i := 1) rfl ⟨rfl, rfl⟩
  obtain ⟨m, hm⟩ := List.mem_iff_getElem?.1 (wrN_has hl 16 (by omega))
  exact laHas_of hm rfl
/-- What each reads: of one done, the last write. -/
theorem run_kind (ks : List Nat) (h3 : ∀ c ∈ ks, c ≤ 3) {i c : Nat} : kindA (runN ks ks.length) i ⟨1, c, lastU ks i c⟩ = 0 := by
  rcases lastU_spec ks c i with h | ⟨j, h, hj, hc⟩
  · exact kindG_0 (by rw [h]; rfl)
  · rw [h]
    unfold kindA
    have hby := run_by ks hc
    have hla := run_la ks hc (h3 c (List.mem_of_getElem? hc))
    have hcast : ((j + 1 : Nat) : Int) = (j : Int) + 1 := by push_cast; rfl
    simp only [hcast]
    rw [hby, hla, kindG_3 (t := runT ks j c) (show ¬ ((j : Int) + 1) = 0 by omega) (by omega) (by rw [Int.toNat_natCast]; exact runN_at ks hc ks.length (Nat.le_refl _) (ltOf hc)) (show ¬ (1 : Int) = 2 by decide)]
    rfl
theorem run_fl (ks : List Nat) (h3 : ∀ c ∈ ks, c ≤ 3) : ∀ i, i ≤ ks.length → flN (kindA (runN ks ks.length)) (runN ks ks.length) i = []
  | 0, _ => rfl
  | i + 1, hi => by
    obtain ⟨c, hc⟩ : ∃ c, ks[i]? = some c := ⟨_, List.getElem?_eq_getElem (by omega)⟩
    rw [flN_succ (runN_at ks hc ks.length (Nat.le_refl _) (by omega)), run_fl ks h3 i (by omega), rd_run]
    exact flR_stay (k := 0) (rs := [⟨1, c, lastU ks i c⟩]) rfl (run_kind ks h3)
theorem run_sure (ks : List Nat) (wf : OpD → Int) {j : Nat} (hj : j < ks.length) : gN wf (runN ks ks.length) (runN ks ks.length).length j = true := by
  obtain ⟨c, hc⟩ : ∃ c, ks[j]? = some c := ⟨_, List.getElem?_eq_getElem hj⟩
  unfold gN
  rw [qOf_at (runN_at ks hc ks.length (Nat.le_refl _) hj), runN_len ks _ (Nat.le_refl _), decide_eq_true (show j < ks.length ∧ (runT ks j c).q = 1 from ⟨hj, rfl⟩), Bool.true_or]
/-- Who reads next what w wrote to c: the first behind w that has the key, among the first i. -/
def nx (ks : List Nat) (w c : Nat) : Nat → Option Nat
  | 0 => none
  | i + 1 => match nx ks w c i with
    | some m => some m
    | none => if w < i ∧ ks[i]? = some c then some i else none
theorem nx_at {ks : List Nat} {w c m : Nat} : ∀ {i : Nat}, nx ks w c i = some m → w < m ∧ m < i
  | 0, h => by cases h
  | i + 1, h => by
    cases hn : nx ks w c i with
    | some m' =>
      rw [nx, hn] at h
      cases h
      have := nx_at hn
      omega
    | none =>
      rw [nx, hn] at h
      simp only at h
      split at h
      · rename_i hh; cases h; omega
      · cases h
theorem nx_last {ks : List Nat} {w c : Nat} (hw : ks[w]? = some c) : ∀ i : Nat, w < i → i ≤ ks.length → ((nx ks w c i = none ∧ lastU ks i c = w + 1) ∨ ((∃ m, nx ks w c i = some m) ∧ w + 1 < lastU ks i c))
  | 0, hi, _ => by omega
  | i + 1, hi, hn => by
    by_cases e : w = i
    · subst e
      have h0 : nx ks w c w = none := by
        cases h : nx ks w c w with
        | none => rfl
        | some m => have := nx_at h; omega
      exact .inl ⟨by rw [nx, h0]; exact if_neg (fun h => by omega), lastU_hit hw⟩
    · obtain ⟨d, hd⟩ : ∃ d, ks[i]? = some d := ⟨_, List.getElem?_eq_getElem (by omega)⟩
      by_cases ed : d = c
      · subst ed
        rw [lastU_hit hd]
        refine .inr ⟨?_, by omega⟩
        rw [nx]
        cases nx ks w d i with
        | some m => exact ⟨m, rfl⟩
        | none => exact ⟨i, if_pos ⟨by omega, hd⟩⟩
      · rw [lastU_miss hd ed]
        have hcond : ¬ (w < i ∧ ks[i]? = some c) := fun h => ed (by rw [hd] at h; exact Option.some.inj h.2)
        rcases nx_last hw i (by omega) (by omega) with ⟨h1, h2⟩ | ⟨⟨m, h1⟩, h2⟩
        · exact .inl ⟨by rw [nx, h1]; exact if_neg hcond, h2⟩
        · exact .inr ⟨⟨m, by rw [nx, h1]⟩, h2⟩
/-- The run with w called failed. -/
def runG (ks : List Nat) (w c : Nat) : List RcD := (runN ks ks.length).set w ⟨1, 2, runO ks w c⟩
theorem runG_len (ks : List Nat) (w c : Nat) : (runG ks w c).length = ks.length := by unfold runG; rw [List.length_set, runN_len ks _ (Nat.le_refl _)]
theorem runG_ops {ks : List Nat} {w c : Nat} (hw : ks[w]? = some c) : (runG ks w c).map RcD.ops = (runN ks ks.length).map RcD.ops := set_ops (t := runT ks w c) (runN_at ks hw ks.length (Nat.le_refl _) (ltOf hw)) 2
theorem gone_kind {ks : List Nat} (h3 : ∀ c ∈ ks, c ≤ 3) {w c : Nat} (hw : ks[w]? = some c) {i d : Nat} (hi : i ≤ ks.length) : kindA (runG ks w c) i ⟨1, d, lastU ks i d⟩ = if lastU ks i d = w + 1 ∧ d = c then 2 else 0 := by
  have hops := runG_ops hw
  have hwl := ltOf hw
  rcases lastU_spec ks d i with h | ⟨j, h, hj, hc⟩
  · rw [if_neg (by omega)]
    exact kindG_0 (by rw [h]; rfl)
  · have hcast : ((j + 1 : Nat) : Int) = (j : Int) + 1 := by push_cast; rfl
    have hby : byI (runG ks w c) ((d : Int), (j : Int) + 1) = j := by rw [byI_ops hops]; exact run_by ks hc
    have hla : laN (runG ks w c) (runG ks w c).length ((d : Int), (j : Int) + 1) = true := by
      rw [laN_ops hops, runG_len]
      have := run_la ks hc (h3 d (List.mem_of_getElem? hc))
      rwa [runN_len ks ks.length (Nat.le_refl _)] at this
    rw [h]
    unfold kindA
    simp only [hcast]
    rw [hby, hla]
    by_cases e : j = w
    · subst e
      rw [hw] at hc
      cases hc
      rw [if_pos ⟨rfl, rfl⟩]
      refine kindG_2 (t := ⟨1, 2, runO ks j c⟩) (show ¬ ((j : Int) + 1) = 0 by omega) (by omega) ?_ rfl
      rw [Int.toNat_natCast]
      exact List.getElem?_set_self (by rw [runN_len ks _ (Nat.le_refl _)]; exact hwl)
    · rw [if_neg (by omega), kindG_3 (t := runT ks j d) (show ¬ ((j : Int) + 1) = 0 by omega) (by omega) ?_ (show ¬ (1 : Int) = 2 by decide)]
      · rfl
      · rw [Int.toNat_natCast]
        unfold runG
        rw [List.getElem?_set, if_neg (Ne.symm e)]
        exact runN_at ks hc ks.length (Nat.le_refl _) (by omega)
theorem gone_fl {ks : List Nat} (h3 : ∀ c ∈ ks, c ≤ 3) {w c : Nat} (hw : ks[w]? = some c) : ∀ i, i ≤ ks.length → flN (kindA (runG ks w c)) (runG ks w c) i = (nx ks w c i).toList.map fun m : Nat => (⟨m, 0, 2⟩ : OpD)
  | 0, _ => rfl
  | i + 1, hi => by
    have ih := gone_fl h3 hw i (by omega)
    have hwl := ltOf hw
    obtain ⟨d, hd⟩ : ∃ d, ks[i]? = some d := ⟨_, List.getElem?_eq_getElem (by omega)⟩
    by_cases e : w = i
    · subst e
      rw [hw] at hd
      cases hd
      have hat : (runG ks w c)[w]? = some ⟨1, 2, runO ks w c⟩ := List.getElem?_set_self (by rw [runN_len ks _ (Nat.le_refl _)]; exact hwl)
      have hrd : rdF ⟨1, 2, runO ks w c⟩ = [] := if_neg (show ¬ (2 : Int) = 1 by decide)
      have h0 : nx ks w c w = none := by
        cases h : nx ks w c w with
        | none => rfl
        | some m => have := nx_at h; omega
      rw [flN_succ hat, ih, hrd, nx, h0, if_neg (fun h => by omega)]
      rfl
    · have hat : (runG ks w c)[i]? = some (runT ks i d) := by
        unfold runG
        rw [List.getElem?_set, if_neg e]
        exact runN_at ks hd ks.length (Nat.le_refl _) (by omega)
      have hk := gone_kind h3 hw (i := i) (d := d) (by omega)
      rw [flN_succ hat, rd_run, ih]
      by_cases hc : lastU ks i d = w + 1 ∧ d = c
      · rw [if_pos hc] at hk
        obtain ⟨h1, h2⟩ := hc
        subst h2
        have hwi : w < i := by
          rcases lastU_spec ks d i with h | ⟨j, h, hj, _⟩ <;> omega
        have hno : nx ks w d i = none := by
          rcases nx_last hw i hwi (by omega) with h | h
          · exact h.1
          · omega
        rw [nx, hno, if_pos ⟨hwi, hd⟩]
        exact flR_put (f := kindA (runG ks w d) i) (i := i) (k := 0) (rs := [⟨1, d, lastU ks i d⟩]) rfl hk (by decide)
      · rw [if_neg hc] at hk
        have hsame : nx ks w c (i + 1) = nx ks w c i := by
          rw [nx]
          cases hn : nx ks w c i with
          | some m => rfl
          | none =>
            refine if_neg (fun h => ?_)
            obtain ⟨h1, h2⟩ := h
            rw [hd] at h2
            cases h2
            rcases nx_last hw i h1 (by omega) with h | ⟨⟨m, h⟩, _⟩
            · exact hc ⟨h.2, rfl⟩
            · rw [hn] at h; cases h
        rw [hsame, show flR (kindA (runG ks w c) i) i [⟨1, d, lastU ks i d⟩] ([⟨1, d, lastU ks i d⟩] : List OpD).length = [] from flR_stay (f := kindA (runG ks w c) i) (i := i) (k := 0) (rs := [⟨1, d, lastU ks i d⟩]) rfl hk, List.append_nil]
theorem nx_succ (ks : List Nat) {w c i d : Nat} (hd : ks[i]? = some d) : hn (nx ks w c (i + 1)).isSome = 1 ↔ (hn (nx ks w c i).isSome = 1 ∨ ((w : Int) < i ∧ (d : Int) = c)) := by
  rw [nx]
  cases nx ks w c i with
  | some m => simp [hn]
  | none =>
    by_cases h : w < i ∧ ks[i]? = some c
    · have h2 := h.2
      rw [hd] at h2
      cases h2
      simp only [if_pos h]
      have := h.1
      simp [hn]
      omega
    · simp only [if_neg h]
      have : ¬ ((w : Int) < i ∧ (d : Int) = c) := fun hh => h ⟨by omega, by rw [hd, show d = c by omega]⟩
      simp only [hn, this]
      simp
end Go.Proofs.Ytjnopbmanhialaa
