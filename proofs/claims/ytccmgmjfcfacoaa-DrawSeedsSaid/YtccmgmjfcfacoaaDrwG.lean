/-
  Laws of draw: the same seed draws the same (a client that may not be); whatever is drawn fits the plan.
-/
import Derived.Test.YtccmgmjfcfacoaaDrwF
namespace Go.Proofs.Ytccmgmjfcfacoaa
open Go.Cru

theorem DrawSeeds_no (p : PlD) (cl : Int) (s : Nat) (n : Int) (hs : s < 18446744073709551616) (hn : ¬ (okP p ∧ 1 ≤ cl ∧ cl ≤ 16)) (w0 : World) : Gives Try.prog 12 [agI p.is, .int .i64 cl, .int .u64 s, .int .i64 n] w0 [] fun v h => v = .bool true ∧ h = [] := by
  have ha : (cl % 18446744073709551616).toNat &&& 15 ≤ 15 := Nat.and_le_right
  refine gives_of Try.func12 rfl rfl rfl (Own.start w0) ?_
  refine TC_seq ?_
  refine TC_region ?_
  refine OL_loud rfl rfl rfl (LO.box rfl rfl) ?_
  rintro _ _ ⟨b4, _, rfl, rfl⟩
  refine OL_sil rfl rfl rfl (Sil.assign rfl rfl) ?_
  refine OL_nil ?_
  refine TC_seq ?_
  refine TC_seq ?_
  refine TC_region ?_
  refine OL_pure rfl rfl rfl (LO.pure rfl ent24 rfl (fun w _ => dhead_gives w)) ?_
  refine OL_sil rfl rfl rfl (Sil.not rfl rfl) ?_
  refine OL_nil ?_
  refine TC_no rfl ?_
  refine TC_skip ?_
  refine TC_seq ?_
  refine TC_region ?_
  refine OL_sil rfl rfl rfl (by first | exact Sil.ownV rfl rfl (by first | exact at0 | exact at1 | exact at2 | exact at3 | exact at4 | exact at5 | exact at6 | exact at7 | exact at8 | exact at9 | exact at10 | exact at11 | exact at12 | exact at13 | exact at14 | exact at15) Try.underlying43 rfl (by rfl) | exact Sil.wholeV rfl rfl (by first | exact at0 | exact at1 | exact at2 | exact at3 | exact at4 | exact at5 | exact at6 | exact at7 | exact at8 | exact at9 | exact at10 | exact at11 | exact at12 | exact at13 | exact at14 | exact at15) ⟨Try.underlying43, rfl⟩ rfl (by rfl)) ?_
  refine OL_sil rfl rfl rfl (Sil.move rfl rfl) ?_
  refine OL_sil rfl rfl rfl (Sil.move rfl rfl) ?_
  refine OL_loud rfl rfl rfl (LO.calls rfl ent26 rfl (fun w _ => dNew_no p cl s hs hn w)) ?_
  rintro _ _ ⟨_, ⟨rfl, rfl⟩, rfl⟩
  refine OL_sil rfl rfl rfl (Sil.move rfl rfl) ?_
  refine OL_sil rfl rfl rfl (Sil.extract rfl rfl rfl) ?_
  refine OL_sil rfl rfl rfl (Sil.extract rfl rfl rfl) ?_
  refine OL_sil rfl rfl rfl (Sil.assign rfl rfl) ?_
  refine OL_sil rfl rfl rfl (Sil.assign rfl rfl) ?_
  refine OL_nil ?_
  refine TC_seq ?_
  refine TC_region ?_
  refine OL_sil rfl rfl rfl (by first | exact Sil.ownV rfl rfl (by first | exact at0 | exact at1 | exact at2 | exact at3 | exact at4 | exact at5 | exact at6 | exact at7 | exact at8 | exact at9 | exact at10 | exact at11 | exact at12 | exact at13 | exact at14 | exact at15) Try.underlying43 rfl (by rfl) | exact Sil.wholeV rfl rfl (by first | exact at0 | exact at1 | exact at2 | exact at3 | exact at4 | exact at5 | exact at6 | exact at7 | exact at8 | exact at9 | exact at10 | exact at11 | exact at12 | exact at13 | exact at14 | exact at15) ⟨Try.underlying43, rfl⟩ rfl (by rfl)) ?_
  refine OL_sil rfl rfl rfl (Sil.move rfl rfl) ?_
  refine OL_sil rfl rfl rfl (Sil.move rfl rfl) ?_
  refine OL_loud rfl rfl rfl (LO.calls rfl ent26 rfl (fun w _ => dNew_no p cl s hs hn w)) ?_
  rintro _ _ ⟨_, ⟨rfl, rfl⟩, rfl⟩
  refine OL_sil rfl rfl rfl (Sil.move rfl rfl) ?_
  refine OL_sil rfl rfl rfl (Sil.extract rfl rfl rfl) ?_
  refine OL_sil rfl rfl rfl (Sil.extract rfl rfl rfl) ?_
  refine OL_sil rfl rfl rfl (Sil.assign rfl rfl) ?_
  refine OL_sil rfl rfl rfl (Sil.assign rfl rfl) ?_
  refine OL_nil ?_
  refine TC_seq ?_
  refine TC_region ?_
  refine OL_sil rfl rfl rfl (by first | exact Sil.ownV rfl rfl (by first | exact at0 | exact at1 | exact at2 | exact at3 | exact at4 | exact at5 | exact at6 | exact at7 | exact at8 | exact at9 | exact at10 | exact at11 | exact at12 | exact at13 | exact at14 | exact at15) Try.underlying43 rfl (by rfl) | exact Sil.wholeV rfl rfl (by first | exact at0 | exact at1 | exact at2 | exact at3 | exact at4 | exact at5 | exact at6 | exact at7 | exact at8 | exact at9 | exact at10 | exact at11 | exact at12 | exact at13 | exact at14 | exact at15) ⟨Try.underlying43, rfl⟩ rfl (by rfl)) ?_
  refine OL_sil rfl rfl rfl (Sil.move rfl rfl) ?_
  refine OL_sil rfl rfl rfl (Sil.andw (j := 15) rfl rfl rfl (by decide)) ?_
  refine OL_sil rfl rfl rfl (Sil.add rfl rfl rfl (by omega) (by omega)) ?_
  refine OL_sil rfl rfl rfl (Sil.move rfl rfl) ?_
  refine OL_loud rfl rfl rfl (LO.calls rfl ent26 rfl (fun w _ => (dNew_gives p (1 + (((cl % 18446744073709551616).toNat &&& 15 : Nat) : Int)) s hs w).mono (R' := fun v h => ∃ u e : Value, v = .tuple #[u, e]) (fun v h hR => by rcases hR with ⟨_, e1, _⟩ | ⟨_, _, _, _, _, _, _, e1, _⟩ <;> exact ⟨_, _, e1⟩))) ?_
  rintro _ _ ⟨h9, ⟨u9, e9, rfl⟩, rfl⟩
  refine OL_sil rfl rfl rfl (Sil.move rfl rfl) ?_
  refine OL_sil rfl rfl rfl (Sil.extract rfl rfl rfl) ?_
  refine OL_sil rfl rfl rfl (Sil.extract rfl rfl rfl) ?_
  refine OL_sil rfl rfl rfl (Sil.assign rfl rfl) ?_
  refine OL_sil rfl rfl rfl (Sil.assign rfl rfl) ?_
  refine OL_nil ?_
  refine TC_seq ?_
  refine TC_seq ?_
  refine TC_region ?_
  refine OL_sil rfl rfl rfl (Sil.move rfl rfl) ?_
  refine OL_sil rfl rfl rfl (Sil.neq rfl rfl rfl) ?_
  refine OL_sil rfl rfl rfl (Sil.move rfl rfl) ?_
  refine OL_decn 46 rfl (fun ht46 => ?_) (fun ht46 => ?_)
  · refine OL_skip rfl rfl rfl ?_
    refine OL_skip rfl rfl rfl ?_
    refine OL_sil rfl rfl rfl (Sil.pick1 rfl rfl rfl) ?_
    refine OL_nil ?_
    refine TC_yes rfl ?_
    refine TC_seq ?_
    refine TC_region ?_
    refine OL_sil rfl rfl rfl (Sil.move rfl rfl) ?_
    refine OL_sil rfl rfl rfl (Sil.move rfl rfl) ?_
    refine OL_sil rfl rfl rfl (Sil.eql rfl rfl rfl) ?_
    refine OL_sil rfl rfl rfl (Sil.assign rfl rfl) ?_
    refine OL_nil ?_
    refine TC_ret ?_
    exact ret1 rfl rfl ⟨congrArg Value.bool (decide_eq_true rfl), rfl⟩
  · exact absurd ht46 (by decide)
theorem DrawSeeds_gives (p : PlD) (cl : Int) (s : Nat) (n : Int) (hs : s < 18446744073709551616) (w0 : World) : Gives Try.prog 12 [agI p.is, .int .i64 cl, .int .u64 s, .int .i64 n] w0 [] fun v h => v = .bool true ∧ h = [] := by
  by_cases hp : okP p ∧ 1 ≤ cl ∧ cl ≤ 16
  · obtain ⟨c, rfl⟩ := Int.eq_ofNat_of_zero_le (show 0 ≤ cl by omega)
    exact DrawSeeds_ok p c s n hs hp.1 (by omega) w0
  · exact DrawSeeds_no p cl s n hs hp w0

/-! ### what fits -/
/-- The how-many-th write of client c has this value. -/
def valD (c j : Nat) : Nat := 16 * (j + 1) + (c - 1)
def fitO (p : PlD) (c lo hi : Nat) (o : OpD) : Prop := 0 ≤ o.key ∧ o.key < p.keys ∧ ((o.k = 1 ∧ o.val = 0 ∧ p.reads + p.both + p.scans ≠ 0) ∨ (o.k = 2 ∧ p.writes + p.both ≠ 0 ∧ ∃ j, lo ≤ j ∧ j < hi ∧ o.val = (valD c j : Nat)))
def fitS (p : PlD) (c lo : Nat) (st : DSt) : Prop := lo ≤ st.n ∧ (∀ o ∈ st.out, fitO p c lo st.n o) ∧ st.out.Pairwise fun a b => a.k = 2 → b.k = 2 → a.val < b.val
theorem fitO.mono {p : PlD} {c lo hi hi' : Nat} {o : OpD} (h : fitO p c lo hi o) (hh : hi ≤ hi') : fitO p c lo hi' o :=
  ⟨h.1, h.2.1, h.2.2.imp id fun ⟨h1, h2, j, h3, h4, h5⟩ => ⟨h1, h2, j, h3, by omega, h5⟩⟩
theorem fit_read {p : PlD} {c lo : Nat} {st : DSt} {s : Nat} (h : fitS p c lo st) (ks : List OpD) (hk : ∀ o ∈ ks, o.k = 1 ∧ fitO p c lo st.n o) : fitS p c lo ⟨s, st.n, st.out ++ ks⟩ := by
  obtain ⟨h1, h2, h3⟩ := h
  refine ⟨h1, fun o ho => ?_, List.pairwise_append.2 ⟨h3, ?_, fun a _ b hb _ hb2 => ?_⟩⟩
  · rcases List.mem_append.1 ho with ho | ho
    · exact h2 o ho
    · exact (hk o ho).2
  · have key : ∀ l : List OpD, (∀ o ∈ l, o.k = 1) → l.Pairwise fun a b => a.k = 2 → b.k = 2 → a.val < b.val := by
      intro l
      induction l with
      | nil => exact fun _ => .nil
      | cons x l ih => exact fun hl => List.pairwise_cons.2 ⟨fun b _ hx => absurd hx (by have := hl x (by simp); omega), ih fun o ho => hl o (by simp [ho])⟩
    exact key ks fun o ho => (hk o ho).1
  · have := (hk b hb).1; omega
theorem fit_write {p : PlD} {c lo key : Nat} {st : DSt} {s : Nat} (h : fitS p c lo st) (hk : (key : Int) < p.keys) (hw : p.writes + p.both ≠ 0) : fitS p c lo ⟨s, st.n + 1, st.out ++ [wrD c st.n key]⟩ := by
  obtain ⟨h1, h2, h3⟩ := h
  refine ⟨by show lo ≤ st.n + 1; omega, fun o ho => ?_, List.pairwise_append.2 ⟨h3, List.pairwise_singleton _ _, fun a ha b hb ha2 _ => ?_⟩⟩
  · rcases List.mem_append.1 ho with ho | ho
    · exact (h2 o ho).mono (by show st.n ≤ st.n + 1; omega)
    · rw [List.mem_singleton.1 ho]
      exact ⟨by show (0 : Int) ≤ (key : Int); omega, hk, .inr ⟨rfl, hw, st.n, h1, by show st.n < st.n + 1; omega, rfl⟩⟩
  · rw [List.mem_singleton.1 hb]
    rcases (h2 a ha).2.2 with ⟨e, _⟩ | ⟨_, _, j, _, hj, e⟩
    · omega
    · rw [e]
      show ((valD c j : Nat) : Int) < ((16 * (st.n + 1) + (c - 1) : Nat) : Int)
      unfold valD
      omega
theorem fit_step (p : PlD) (hp : okP p) (c want lo : Nat) (st : DSt) (h : fitS p c lo st) : fitS p c lo (stepD p c want st) := by
  unfold okP wOK at hp
  have hkey := bel_below st.s p.keys (by omega)
  have hx := bel_below (nxt st.s) (sumP p) (by unfold sumP; omega)
  unfold stepD
  generalize bel st.s p.keys = key at hkey
  generalize bel (nxt st.s) (sumP p) = x at hx
  generalize nxt (nxt st.s) = s2
  unfold sumP at hx
  unfold stepX
  generalize nxt s2 = s3
  generalize bel s2 3 = m
  have hr : ∀ k : Nat, (k : Int) < p.keys → p.reads + p.both + p.scans ≠ 0 → fitO p c lo st.n ⟨1, k, 0⟩ := fun k hk hn => ⟨by show (0 : Int) ≤ (k : Int); omega, hk, .inl ⟨rfl, rfl, hn⟩⟩
  have h1s : ∀ o ∈ [(⟨1, key, 0⟩ : OpD)], p.reads + p.both + p.scans ≠ 0 → o.k = 1 ∧ fitO p c lo st.n o := fun o ho hn => by
    rw [List.mem_singleton.1 ho]; exact ⟨rfl, hr key hkey hn⟩
  split
  · exact fit_read h _ fun o ho => h1s o ho (by omega)
  · split
    · exact fit_write h hkey (by omega)
    · split
      · split
        · exact fit_write (st := ⟨s2, st.n, st.out ++ [⟨1, key, 0⟩]⟩) (fit_read h _ fun o ho => h1s o ho (by omega)) hkey (by omega)
        · exact fit_read h _ fun o ho => h1s o ho (by omega)
      · refine fit_read h _ fun o ho => ?_
        unfold rdsK at ho
        obtain ⟨i, hi, rfl⟩ := List.mem_map.1 ho
        have := List.mem_range.1 hi
        exact ⟨rfl, hr (key + i) (by unfold cntD at this; omega) (by omega)⟩
theorem fit_next (p : PlD) (hp : okP p) (c s n : Nat) : fitS p c n (nextD p c s n) := by
  unfold nextD
  generalize nxt s = s1
  generalize bel s p.most + 1 = want
  exact finD_inv p c want (fitS p c n) (fun st _ hq => fit_step p hp c want n st hq) _ ⟨s1, n, []⟩ (Nat.le_refl _) (show n ≤ n ∧ (∀ o ∈ ([] : List OpD), fitO p c n n o) ∧ ([] : List OpD).Pairwise (fun a b => a.k = 2 → b.k = 2 → a.val < b.val) from ⟨Nat.le_refl _, by simp, .nil⟩)

/-- What is held as seen: writes of clients ahead of c, of c the first n, what stood ahead of place i in out. -/
def seenD (f : Int → Option Value) (c n : Nat) (out : List OpD) (i : Nat) : Prop :=
  ∀ v x, f v = some x → (∃ c' j : Nat, 1 ≤ c' ∧ c' < c ∧ v = (valD c' j : Nat)) ∨ (∃ j, j < n ∧ v = (valD c j : Nat)) ∨ ∃ i' o, i' < i ∧ out[i']? = some o ∧ o.k = 2 ∧ o.val = v
theorem val_inj {c c' j j' : Nat} (h1 : 1 ≤ c ∧ c ≤ 16) (h2 : 1 ≤ c' ∧ c' ≤ 16) (h : ((valD c j : Nat) : Int) = ((valD c' j' : Nat) : Int)) : c = c' ∧ j = j' := by
  unfold valD at h
  omega
theorem seen_new {f : Int → Option Value} {p : PlD} {c n m : Nat} {out : List OpD} {i : Nat} {o : OpD} {s : Nat} (hc : 1 ≤ c ∧ c ≤ 16) (hs : seenD f c n out i) (hf : fitS p c n ⟨s, m, out⟩) (hi : out[i]? = some o) (h2 : o.k = 2) : f o.val = none := by
  cases hx : f o.val with
  | none => rfl
  | some x =>
    exfalso
    obtain ⟨_, hfo, hpw⟩ := hf
    rcases (hfo o (List.mem_of_getElem? hi)).2.2 with ⟨e, _⟩ | ⟨_, _, j, hj1, hj2, hj⟩
    · omega
    · rcases hs o.val x hx with ⟨c', j', g1, g2, g3⟩ | ⟨j', g1, g3⟩ | ⟨i', o', g1, g2, g3, g4⟩
      · rw [hj] at g3
        have := (val_inj hc (by omega) g3).1
        omega
      · rw [hj] at g3
        have := (val_inj hc hc g3).2
        omega
      · have := List.pairwise_iff_getElem.1 hpw i' i (ltOf g2) (ltOf hi) g1
        rw [(List.getElem?_eq_some_iff.1 g2).2, (List.getElem?_eq_some_iff.1 hi).2] at this
        have := this g3 h2
        omega
theorem seen_put {f : Int → Option Value} {c n : Nat} {out : List OpD} {i : Nat} {o : OpD} {u : Value} (hs : seenD f c n out i) (hi : out[i]? = some o) (h2 : o.k = 2) : seenD (updK f o.val (some u)) c n out (i + 1) := by
  intro v x hx
  unfold updK at hx
  by_cases e : v = o.val
  · exact .inr (.inr ⟨i, o, by omega, hi, h2, e.symm⟩)
  · rw [if_neg e] at hx
    rcases hs v x hx with g | g | ⟨i', o', g1, g2⟩
    · exact .inl g
    · exact .inr (.inl g)
    · exact .inr (.inr ⟨i', o', by omega, g2⟩)
theorem seen_step {f : Int → Option Value} {c n : Nat} {out : List OpD} {i : Nat} (hs : seenD f c n out i) : seenD f c n out (i + 1) := fun v x hx => by
  rcases hs v x hx with g | g | ⟨i', o', g1, g2⟩
  · exact .inl g
  · exact .inr (.inl g)
  · exact .inr (.inr ⟨i', o', by omega, g2⟩)
theorem seen_end {f : Int → Option Value} {p : PlD} {c n m s : Nat} {out out' : List OpD} {i : Nat} (hs : seenD f c n out i) (hf : fitS p c n ⟨s, m, out⟩) : seenD f c m out' 0 := fun v x hx => by
  obtain ⟨h1, hfo, _⟩ := hf
  have h1 : n ≤ m := h1
  rcases hs v x hx with g | ⟨j, g1, g2⟩ | ⟨i', o, _, g2, g3, g4⟩
  · exact .inl g
  · exact .inr (.inl ⟨j, by omega, g2⟩)
  · rcases (hfo o (List.mem_of_getElem? g2)).2.2 with ⟨e, _⟩ | ⟨_, _, j, _, hj2, hj⟩
    · omega
    · exact .inr (.inl ⟨j, hj2, g4.symm.trans hj⟩)
theorem seen_client {f : Int → Option Value} {c n : Nat} {out out' : List OpD} (hc : 1 ≤ c) (hs : seenD f c n out 0) : seenD f (c + 1) 0 out' 0 := fun v x hx => by
  rcases hs v x hx with ⟨c', j, g1, g2, g3⟩ | ⟨j, g1, g2⟩ | ⟨i', o, g1, _⟩
  · exact .inl ⟨c', j, g1, by omega, g3⟩
  · exact .inl ⟨c, j, hc, by omega, g2⟩
  · omega

theorem DrawFits_ok (p : PlD) (s : Nat) (n : Int) (hs : s < 18446744073709551616) (hp : okP p) (w0 : World) : Gives Try.prog 11 [agI p.is, .int .u64 s, .int .i64 n] w0 [] fun v h => v = .bool true ∧ h = [] := by
  have ha : (n % 18446744073709551616).toNat &&& 15 ≤ 15 := Nat.and_le_right
  have hp' := hp
  unfold okP wOK at hp'
  refine gives_of Try.func11 rfl rfl rfl (Own.start w0) ?_
  refine TC_seq ?_
  refine TC_region ?_
  refine OL_loud rfl rfl rfl (LO.box rfl rfl) ?_
  rintro _ _ ⟨b3, _, rfl, rfl⟩
  refine OL_sil rfl rfl rfl (Sil.assign rfl rfl) ?_
  refine OL_nil ?_
  refine TC_seq ?_
  refine TC_seq ?_
  refine TC_region ?_
  refine OL_pure rfl rfl rfl (LO.pure rfl ent24 rfl (fun w _ => dhead_gives w)) ?_
  refine OL_sil rfl rfl rfl (Sil.not rfl rfl) ?_
  refine OL_nil ?_
  refine TC_no rfl ?_
  refine TC_skip ?_
  refine TC_seq ?_
  refine TC_region ?_
  refine OL_loud rfl rfl rfl (LO.makeMap (intK .i64) rfl) ?_
  rintro _ _ ⟨mb, rfl, rfl⟩
  refine OL_sil rfl rfl rfl (Sil.assign rfl rfl) ?_
  refine OL_nil ?_
  refine TC_seq ?_
  refine TC_seq ?_
  refine TC_region ?_
  refine OL_sil rfl rfl rfl (Sil.assign rfl rfl) ?_
  refine OL_nil ?_
  refine TC_block ?_
  refine TC_loop (fun ((c, _) : Nat × (Int → Option Value)) => [(1, .int .u64 s), (2, .int .i64 n), (3, .pointer (some ⟨b3, 0, none⟩)), (7, .map (some mb)), (8, .int .i64 c)]) (fun (_, f) => [blk b3 (.cells (iv p.is).toArray 43 (0, 0)), mpR (intK .i64) mb f]) (fun (c, f) => 1 ≤ c ∧ c ≤ 5 ∧ seenD f c 0 [] 0) (fun (c, _) => 5 - c) (1, fun _ => none) ?_ ?_
  · exact ⟨⟨by decide, by decide, fun v x hx => by cases hx⟩, ⟨rfl, rfl, rfl, rfl, rfl, trivial⟩, List.Sublist.refl _⟩
  · rintro ⟨c, f⟩ ⟨hc1, hc5, hsn⟩
    have hc1 : 1 ≤ c := hc1
    have hc5 : c ≤ 5 := hc5
    refine TC_seq ?_
    refine TC_seq ?_
    refine TC_region ?_
    refine OL_sil rfl rfl rfl (Sil.move rfl rfl) ?_
    refine OL_sil rfl rfl rfl (Sil.leq rfl rfl rfl) ?_
    refine OL_nil ?_
    refine TC_if rfl (fun ht19 => ?_) (fun ht19 => ?_)
    · refine TC_skip ?_
      refine TC_seq ?_
      refine TC_block ?_
      refine TC_seq ?_
      refine TC_region ?_
      refine OL_sil rfl rfl rfl (by first | exact Sil.ownV rfl rfl (by first | exact at0 | exact at1 | exact at2 | exact at3 | exact at4 | exact at5 | exact at6 | exact at7 | exact at8 | exact at9 | exact at10 | exact at11 | exact at12 | exact at13 | exact at14 | exact at15) Try.underlying43 rfl (by rfl) | exact Sil.wholeV rfl rfl (by first | exact at0 | exact at1 | exact at2 | exact at3 | exact at4 | exact at5 | exact at6 | exact at7 | exact at8 | exact at9 | exact at10 | exact at11 | exact at12 | exact at13 | exact at14 | exact at15) ⟨Try.underlying43, rfl⟩ rfl (by rfl)) ?_
      refine OL_sil rfl rfl rfl (Sil.move rfl rfl) ?_
      refine OL_sil rfl rfl rfl (Sil.move rfl rfl) ?_
      refine OL_loud rfl rfl rfl (LO.calls rfl ent26 rfl (fun w _ => dNew_ok p c s hs hp (by omega) w)) ?_
      rintro _ _ ⟨_, ⟨bg, bs, rfl, rfl⟩, rfl⟩
      refine OL_sil rfl rfl rfl (Sil.move rfl rfl) ?_
      refine OL_sil rfl rfl rfl (Sil.extract rfl rfl rfl) ?_
      refine OL_sil rfl rfl rfl (Sil.extract rfl rfl rfl) ?_
      refine OL_sil rfl rfl rfl (Sil.assign rfl rfl) ?_
      refine OL_sil rfl rfl rfl (Sil.assign rfl rfl) ?_
      refine OL_nil ?_
      refine TC_seq ?_
      refine TC_seq ?_
      refine TC_region ?_
      refine OL_sil rfl rfl rfl (Sil.move rfl rfl) ?_
      refine OL_sil rfl rfl rfl (Sil.neq rfl rfl rfl) ?_
      refine OL_nil ?_
      refine TC_ifn rfl (fun ht30 => ?_) (fun ht30 => ?_)
      · exact absurd rfl ht30
      · refine TC_skip ?_
        refine TC_seq ?_
        have hfl := frk_lt s c
        generalize frk s c = s1 at hfl ⊢
        refine TC_region ?_
        refine OL_sil rfl rfl rfl (Sil.assign rfl rfl) ?_
        refine OL_nil ?_
        refine TC_block ?_
        refine TC_loop (fun ((i, _, _) : Nat × DSt × (Int → Option Value)) => [(1, .int .u64 s), (2, .int .i64 n), (3, .pointer (some ⟨b3, 0, none⟩)), (7, .map (some mb)), (8, .int .i64 c), (9, .pointer (some ⟨bg, 0, none⟩)), (11, .int .i64 i)]) (fun (_, st, f) => [blk b3 (.cells (iv p.is).toArray 43 (0, 0)), mpR (intK .i64) mb f, genR bg bs p c st.n st.s]) (fun (i, st, f) => i ≤ (n % 18446744073709551616).toNat &&& 15 ∧ st.n ≤ 12 * i ∧ seenD f c st.n [] 0) (fun (i, _) => ((n % 18446744073709551616).toNat &&& 15) - i) (0, ⟨s1, 0, []⟩, f) ?_ ?_
        · exact ⟨⟨Nat.zero_le _, Nat.zero_le _, hsn⟩, ⟨rfl, rfl, rfl, rfl, rfl, rfl, rfl, trivial⟩, List.Sublist.refl _⟩
        · rintro ⟨i, st, f⟩ ⟨hi, hn, hsn⟩
          have hi : i ≤ (n % 18446744073709551616).toNat &&& 15 := hi
          have hn : st.n ≤ 12 * i := hn
          have hsn : seenD f c st.n [] 0 := hsn
          obtain ⟨f1, f2, f3, f4, f5⟩ := nextD_facts p hp c st.s st.n
          have hfit := fit_next p hp c st.s st.n
          obtain ⟨u, hu⟩ : ∃ u, u = nextD p c st.s st.n := ⟨_, rfl⟩
          rw [← hu] at f1 f2 f3 f4 f5 hfit
          refine TC_seq ?_
          refine TC_seq ?_
          refine TC_region ?_
          refine OL_sil rfl rfl rfl (Sil.move rfl rfl) ?_
          refine OL_sil rfl rfl rfl (Sil.move rfl rfl) ?_
          refine OL_sil rfl rfl rfl (Sil.andw (j := 15) rfl rfl rfl (by decide)) ?_
          refine OL_sil rfl rfl rfl (Sil.lss rfl rfl rfl) ?_
          refine OL_nil ?_
          refine TC_if rfl (fun ht34 => ?_) (fun ht34 => ?_)
          · refine TC_skip ?_
            refine TC_seq ?_
            refine TC_block ?_
            refine TC_seq ?_
            refine TC_region ?_
            refine OL_sil rfl rfl rfl (Sil.move rfl rfl) ?_
            refine OL_loud rfl rfl rfl (LO.callsLent (R := fun v h => ∃ ao cap, v = .slice ao u.out.length cap ∧ h = [genR bg bs p c u.n u.s, sq ao u.out.length cap 63 3 (opsC u.out)]) 2 rfl ent28 rfl rfl (fun w _ ho' => (dNext_gives bg bs p c st.n st.s hp (by omega) (by omega) w ho').mono fun v h ⟨ao, cap, e1, e2⟩ => ⟨_, _, e2, genR_ids, ao, cap, by rw [e1, hu], by rw [hu]⟩)) ?_
            rintro _ _ ⟨r', h1, ⟨ax, cx, rfl, hh⟩, rfl⟩
            obtain ⟨rfl, rfl⟩ := List.cons.inj hh
            refine OL_sil rfl rfl rfl (Sil.assign rfl rfl) ?_
            refine OL_nil ?_
            refine TC_seq ?_
            refine TC_seq ?_
            refine TC_bool 48 ((u.out.length : Int) < 1 ∨ (u.out.length : Int) > p.most) ?_ ?_
            · refine TC_region ?_
              refine OL_sil rfl rfl rfl (Sil.move rfl rfl) ?_
              refine OL_sil rfl rfl rfl (Sil.lenSl rfl rfl Try.underlying51) ?_
              refine OL_sil rfl rfl rfl (Sil.lss rfl rfl rfl) ?_
              refine OL_sil rfl rfl rfl (Sil.move rfl rfl) ?_
              refine OL_dec 42 rfl (fun ht42 => ?_) (fun ht42 => ?_)
              · refine OL_skip rfl rfl rfl ?_
                refine OL_skip rfl rfl rfl ?_
                refine OL_skip rfl rfl rfl ?_
                refine OL_skip rfl rfl rfl ?_
                refine OL_skip rfl rfl rfl ?_
                refine OL_sil rfl rfl rfl (Sil.pick1 rfl rfl rfl) ?_
                refine OL_nil ?_
                (refine Cont.then_intro (And.intro (by (repeat' (first | exact trivial | refine ⟨rfl, ?_⟩))) (And.intro ?_ rfl)); first | exact slotV rfl (congrArg Value.bool (decide_eq_true (by omega)).symm) | exact slotV rfl (congrArg Value.bool (decide_eq_false (by omega)).symm) | exact slotV rfl (congrArg Value.bool (decide_eq_decide.2 (by omega))) | exact slotV rfl (congrArg Value.bool (decide_not.symm.trans (decide_eq_decide.2 (by omega)))))
              · refine OL_sil rfl rfl rfl (Sil.move rfl rfl) ?_
                refine OL_sil rfl rfl rfl (Sil.lenSl rfl rfl Try.underlying51) ?_
                refine OL_sil rfl rfl rfl (Sil.fieldLoc 1 rfl rfl Try.underlying43 rfl rfl) ?_
                refine OL_sil rfl rfl rfl (by exact Sil.ownV rfl rfl (by first | exact at0 | exact at1 | exact at2 | exact at3 | exact at4 | exact at5 | exact at6 | exact at7 | exact at8 | exact at9 | exact at10 | exact at11 | exact at12 | exact at13 | exact at14 | exact at15) Try.underlying3 rfl (by rfl)) ?_
                refine OL_sil rfl rfl rfl (Sil.gtr rfl rfl rfl) ?_
                refine OL_sil rfl rfl rfl (Sil.pick0 rfl rfl rfl) ?_
                refine OL_nil ?_
                (refine Cont.then_intro (And.intro (by (repeat' (first | exact trivial | refine ⟨rfl, ?_⟩))) (And.intro ?_ rfl)); first | exact slotV rfl (congrArg Value.bool (decide_eq_true (by omega)).symm) | exact slotV rfl (congrArg Value.bool (decide_eq_false (by omega)).symm) | exact slotV rfl (congrArg Value.bool (decide_eq_decide.2 (by omega))) | exact slotV rfl (congrArg Value.bool (decide_not.symm.trans (decide_eq_decide.2 (by omega)))))
            refine TC_if rfl (fun ht48 => ?_) (fun ht48 => ?_)
            · omega
            · refine TC_skip ?_
              refine TC_seq ?_
              refine TC_region ?_
              refine OL_sil rfl rfl rfl (Sil.move rfl rfl) ?_
              refine OL_sil rfl rfl rfl (Sil.lenSl rfl rfl Try.underlying51) ?_
              refine OL_sil rfl rfl rfl (Sil.move rfl rfl) ?_
              refine OL_nil ?_
              refine TC_block ?_
              refine TC_loop (fun ((j, _) : Nat × (Int → Option Value)) => [(1, .int .u64 s), (2, .int .i64 n), (3, .pointer (some ⟨b3, 0, none⟩)), (7, .map (some mb)), (8, .int .i64 c), (9, .pointer (some ⟨bg, 0, none⟩)), (11, .int .i64 i), (49, .slice ax u.out.length cx), (50, .int .i64 u.out.length), (51, .int .i64 j)]) (fun (_, f) => [blk b3 (.cells (iv p.is).toArray 43 (0, 0)), mpR (intK .i64) mb f, genR bg bs p c u.n u.s, sq ax u.out.length cx 63 3 (opsC u.out)]) (fun (j, f) => j ≤ u.out.length ∧ seenD f c st.n u.out j) (fun (j, _) => u.out.length - j) (0, f) ?_ ?_
              · exact ⟨⟨Nat.zero_le _, fun v x hx => (hsn v x hx).imp id (fun h => h.imp id fun ⟨i', o, g1, _⟩ => absurd g1 (by omega))⟩, ⟨rfl, rfl, rfl, rfl, rfl, rfl, rfl, rfl, rfl, rfl, trivial⟩, List.Sublist.refl _⟩
              · rintro ⟨j, f⟩ ⟨hj, hsn⟩
                have hj : j ≤ u.out.length := hj
                have hsn : seenD f c st.n u.out j := hsn
                refine TC_seq ?_
                refine TC_region ?_
                refine OL_sil rfl rfl rfl (Sil.lss rfl rfl rfl) ?_
                refine OL_nil ?_
                refine TC_seq ?_
                refine TC_if rfl (fun ht52 => ?_) (fun ht52 => ?_)
                · obtain ⟨o, ho⟩ := nthSome ht52
                  obtain ⟨g1, g2, g3⟩ := hfit.2.1 o (List.mem_of_getElem? ho)
                  refine TC_know (fun w hw => hw.sqSome (i := 3) rfl (by omega)) (fun hsome => ?_)
                  obtain ⟨g, rfl⟩ := hsome
                  refine TC_skip ?_
                  refine TC_seq ?_
                  refine TC_block ?_
                  refine TC_seq ?_
                  refine TC_region ?_
                  refine OL_sil rfl rfl rfl (Sil.indexOwn j rfl rfl rfl Try.underlying51 rfl rfl (by omega)) ?_
                  refine OL_sil rfl rfl rfl (Sil.sqLoadN (cs := iv o.is) 3 rfl rfl rfl Try.underlying63 rfl rfl rfl (opsC_at ho)) ?_
                  refine OL_loud rfl rfl rfl (LO.alloc rfl rfl) ?_
                  rintro _ _ ⟨b14, _, rfl, rfl⟩
                  refine OL_loud0 rfl rfl (by first | exact LO.storeAllV rfl rfl rfl (by first | exact at0 | exact at1 | exact at2 | exact at3 | exact at4 | exact at5 | exact at6 | exact at7 | exact at8 | exact at9 | exact at10 | exact at11 | exact at12 | exact at13 | exact at14 | exact at15) (by rfl) (by rfl) (by rfl) (by rfl) | exact LO.store1V rfl rfl rfl (by first | exact at0 | exact at1 | exact at2 | exact at3 | exact at4 | exact at5 | exact at6 | exact at7 | exact at8 | exact at9 | exact at10 | exact at11 | exact at12 | exact at13 | exact at14 | exact at15) (by rfl) (by rfl) (by rfl)) ?_
                  rintro _ _ ⟨rfl, rfl⟩
                  refine OL_nil ?_
                  refine TC_seq ?_
                  refine TC_seq ?_
                  refine TC_bool 74 (o.key < 0 ∨ o.key ≥ p.keys ∨ o.k ≠ 1 ∧ o.k ≠ 2) ?_ ?_
                  · refine TC_region ?_
                    refine OL_sil rfl rfl rfl (Sil.fieldLoc 1 rfl rfl Try.underlying63 rfl rfl) ?_
                    refine OL_sil rfl rfl rfl (by exact Sil.ownV rfl rfl (by first | exact at0 | exact at1 | exact at2 | exact at3 | exact at4 | exact at5 | exact at6 | exact at7 | exact at8 | exact at9 | exact at10 | exact at11 | exact at12 | exact at13 | exact at14 | exact at15) Try.underlying3 rfl (by rfl)) ?_
                    refine OL_sil rfl rfl rfl (Sil.lss rfl rfl rfl) ?_
                    refine OL_sil rfl rfl rfl (Sil.move rfl rfl) ?_
                    refine OL_dec 58 rfl (fun ht58 => ?_) (fun ht58 => ?_)
                    · refine OL_skip rfl rfl rfl ?_
                      refine OL_skip rfl rfl rfl ?_
                      refine OL_skip rfl rfl rfl ?_
                      refine OL_skip rfl rfl rfl ?_
                      refine OL_skip rfl rfl rfl ?_
                      refine OL_sil rfl rfl rfl (Sil.pick1 rfl rfl rfl) ?_
                      refine OL_sil rfl rfl rfl (Sil.move rfl rfl) ?_
                      refine OL_skip rfl rfl rfl ?_
                      refine OL_skip rfl rfl rfl ?_
                      refine OL_skip rfl rfl rfl ?_
                      refine OL_skip rfl rfl rfl ?_
                      refine OL_skip rfl rfl rfl ?_
                      refine OL_skip rfl rfl rfl ?_
                      refine OL_skip rfl rfl rfl ?_
                      refine OL_skip rfl rfl rfl ?_
                      refine OL_sil rfl rfl rfl (Sil.pick1 rfl rfl rfl) ?_
                      refine OL_nil ?_
                      (refine Cont.then_intro (And.intro (by (repeat' (first | exact trivial | refine ⟨rfl, ?_⟩))) (And.intro ?_ rfl)); first | exact slotV rfl (congrArg Value.bool (decide_eq_true (by omega)).symm) | exact slotV rfl (congrArg Value.bool (decide_eq_false (by omega)).symm) | exact slotV rfl (congrArg Value.bool (decide_eq_decide.2 (by omega))) | exact slotV rfl (congrArg Value.bool (decide_not.symm.trans (decide_eq_decide.2 (by omega)))))
                    · refine OL_sil rfl rfl rfl (Sil.fieldLoc 1 rfl rfl Try.underlying63 rfl rfl) ?_
                      refine OL_sil rfl rfl rfl (by exact Sil.ownV rfl rfl (by first | exact at0 | exact at1 | exact at2 | exact at3 | exact at4 | exact at5 | exact at6 | exact at7 | exact at8 | exact at9 | exact at10 | exact at11 | exact at12 | exact at13 | exact at14 | exact at15) Try.underlying3 rfl (by rfl)) ?_
                      refine OL_sil rfl rfl rfl (Sil.fieldLoc 0 rfl rfl Try.underlying43 rfl rfl) ?_
                      refine OL_sil rfl rfl rfl (by exact Sil.ownV rfl rfl (by first | exact at0 | exact at1 | exact at2 | exact at3 | exact at4 | exact at5 | exact at6 | exact at7 | exact at8 | exact at9 | exact at10 | exact at11 | exact at12 | exact at13 | exact at14 | exact at15) Try.underlying3 rfl (by rfl)) ?_
                      refine OL_sil rfl rfl rfl (Sil.geq rfl rfl rfl) ?_
                      refine OL_sil rfl rfl rfl (Sil.pick0 rfl rfl rfl) ?_
                      refine OL_sil rfl rfl rfl (Sil.move rfl rfl) ?_
                      refine OL_dec 65 rfl (fun ht65 => ?_) (fun ht65 => ?_)
                      · refine OL_skip rfl rfl rfl ?_
                        refine OL_skip rfl rfl rfl ?_
                        refine OL_skip rfl rfl rfl ?_
                        refine OL_skip rfl rfl rfl ?_
                        refine OL_skip rfl rfl rfl ?_
                        refine OL_skip rfl rfl rfl ?_
                        refine OL_skip rfl rfl rfl ?_
                        refine OL_skip rfl rfl rfl ?_
                        refine OL_sil rfl rfl rfl (Sil.pick1 rfl rfl rfl) ?_
                        refine OL_nil ?_
                        (refine Cont.then_intro (And.intro (by (repeat' (first | exact trivial | refine ⟨rfl, ?_⟩))) (And.intro ?_ rfl)); first | exact slotV rfl (congrArg Value.bool (decide_eq_true (by omega)).symm) | exact slotV rfl (congrArg Value.bool (decide_eq_false (by omega)).symm) | exact slotV rfl (congrArg Value.bool (decide_eq_decide.2 (by omega))) | exact slotV rfl (congrArg Value.bool (decide_not.symm.trans (decide_eq_decide.2 (by omega)))))
                      · refine OL_sil rfl rfl rfl (Sil.fieldLoc 0 rfl rfl Try.underlying63 rfl rfl) ?_
                        refine OL_sil rfl rfl rfl (by exact Sil.ownV rfl rfl (by first | exact at0 | exact at1 | exact at2 | exact at3 | exact at4 | exact at5 | exact at6 | exact at7 | exact at8 | exact at9 | exact at10 | exact at11 | exact at12 | exact at13 | exact at14 | exact at15) Try.underlying3 rfl (by rfl)) ?_
                        refine OL_sil rfl rfl rfl (Sil.neq rfl rfl rfl) ?_
                        refine OL_sil rfl rfl rfl (Sil.move rfl rfl) ?_
                        refine OL_decn 69 rfl (fun ht69 => ?_) (fun ht69 => ?_)
                        · refine OL_sil rfl rfl rfl (Sil.fieldLoc 0 rfl rfl Try.underlying63 rfl rfl) ?_
                          refine OL_sil rfl rfl rfl (by exact Sil.ownV rfl rfl (by first | exact at0 | exact at1 | exact at2 | exact at3 | exact at4 | exact at5 | exact at6 | exact at7 | exact at8 | exact at9 | exact at10 | exact at11 | exact at12 | exact at13 | exact at14 | exact at15) Try.underlying3 rfl (by rfl)) ?_
                          refine OL_sil rfl rfl rfl (Sil.neq rfl rfl rfl) ?_
                          refine OL_sil rfl rfl rfl (Sil.pick1 rfl rfl rfl) ?_
                          refine OL_sil rfl rfl rfl (Sil.pick0 rfl rfl rfl) ?_
                          refine OL_nil ?_
                          (refine Cont.then_intro (And.intro (by (repeat' (first | exact trivial | refine ⟨rfl, ?_⟩))) (And.intro ?_ rfl)); first | exact slotV rfl (congrArg Value.bool (decide_eq_true (by omega)).symm) | exact slotV rfl (congrArg Value.bool (decide_eq_false (by omega)).symm) | exact slotV rfl (congrArg Value.bool (decide_eq_decide.2 (by omega))) | exact slotV rfl (congrArg Value.bool (decide_not.symm.trans (decide_eq_decide.2 (by omega)))))
                        · refine OL_skip rfl rfl rfl ?_
                          refine OL_skip rfl rfl rfl ?_
                          refine OL_skip rfl rfl rfl ?_
                          refine OL_sil rfl rfl rfl (Sil.pick0 rfl rfl rfl) ?_
                          refine OL_sil rfl rfl rfl (Sil.pick0 rfl rfl rfl) ?_
                          refine OL_nil ?_
                          (refine Cont.then_intro (And.intro (by (repeat' (first | exact trivial | refine ⟨rfl, ?_⟩))) (And.intro ?_ rfl)); first | exact slotV rfl (congrArg Value.bool (decide_eq_true (by omega)).symm) | exact slotV rfl (congrArg Value.bool (decide_eq_false (by omega)).symm) | exact slotV rfl (congrArg Value.bool (decide_eq_decide.2 (by omega))) | exact slotV rfl (congrArg Value.bool (decide_not.symm.trans (decide_eq_decide.2 (by omega)))))
                  refine TC_if rfl (fun ht74 => ?_) (fun ht74 => ?_)
                  · omega
                  · refine TC_skip ?_
                    refine TC_seq ?_
                    refine TC_seq ?_
                    refine TC_region ?_
                    refine OL_sil rfl rfl rfl (Sil.fieldLoc 0 rfl rfl Try.underlying63 rfl rfl) ?_
                    refine OL_sil rfl rfl rfl (by exact Sil.ownV rfl rfl (by first | exact at0 | exact at1 | exact at2 | exact at3 | exact at4 | exact at5 | exact at6 | exact at7 | exact at8 | exact at9 | exact at10 | exact at11 | exact at12 | exact at13 | exact at14 | exact at15) Try.underlying3 rfl (by rfl)) ?_
                    refine OL_sil rfl rfl rfl (Sil.eql rfl rfl rfl) ?_
                    refine OL_nil ?_
                    refine TC_if rfl (fun ht77 => ?_) (fun ht77 => ?_)
                    · refine TC_seq ?_
                      refine TC_seq ?_
                      refine TC_bool 91 (o.val ≠ 0 ∨ p.reads + p.both + p.scans = 0) ?_ ?_
                      · refine TC_region ?_
                        refine OL_sil rfl rfl rfl (Sil.fieldLoc 2 rfl rfl Try.underlying63 rfl rfl) ?_
                        refine OL_sil rfl rfl rfl (by exact Sil.ownV rfl rfl (by first | exact at0 | exact at1 | exact at2 | exact at3 | exact at4 | exact at5 | exact at6 | exact at7 | exact at8 | exact at9 | exact at10 | exact at11 | exact at12 | exact at13 | exact at14 | exact at15) Try.underlying3 rfl (by rfl)) ?_
                        refine OL_sil rfl rfl rfl (Sil.neq rfl rfl rfl) ?_
                        refine OL_sil rfl rfl rfl (Sil.move rfl rfl) ?_
                        refine OL_decn 81 rfl (fun ht81 => ?_) (fun ht81 => ?_)
                        · refine OL_skip rfl rfl rfl ?_
                          refine OL_skip rfl rfl rfl ?_
                          refine OL_skip rfl rfl rfl ?_
                          refine OL_skip rfl rfl rfl ?_
                          refine OL_skip rfl rfl rfl ?_
                          refine OL_skip rfl rfl rfl ?_
                          refine OL_skip rfl rfl rfl ?_
                          refine OL_skip rfl rfl rfl ?_
                          refine OL_skip rfl rfl rfl ?_
                          refine OL_sil rfl rfl rfl (Sil.pick1 rfl rfl rfl) ?_
                          refine OL_nil ?_
                          (refine Cont.then_intro (And.intro (by (repeat' (first | exact trivial | refine ⟨rfl, ?_⟩))) (And.intro ?_ rfl)); first | exact slotV rfl (congrArg Value.bool (decide_eq_true (by omega)).symm) | exact slotV rfl (congrArg Value.bool (decide_eq_false (by omega)).symm) | exact slotV rfl (congrArg Value.bool (decide_eq_decide.2 (by omega))) | exact slotV rfl (congrArg Value.bool (decide_not.symm.trans (decide_eq_decide.2 (by omega)))))
                        · refine OL_sil rfl rfl rfl (Sil.fieldLoc 2 rfl rfl Try.underlying43 rfl rfl) ?_
                          refine OL_sil rfl rfl rfl (by exact Sil.ownV rfl rfl (by first | exact at0 | exact at1 | exact at2 | exact at3 | exact at4 | exact at5 | exact at6 | exact at7 | exact at8 | exact at9 | exact at10 | exact at11 | exact at12 | exact at13 | exact at14 | exact at15) Try.underlying3 rfl (by rfl)) ?_
                          refine OL_sil rfl rfl rfl (Sil.fieldLoc 4 rfl rfl Try.underlying43 rfl rfl) ?_
                          refine OL_sil rfl rfl rfl (by exact Sil.ownV rfl rfl (by first | exact at0 | exact at1 | exact at2 | exact at3 | exact at4 | exact at5 | exact at6 | exact at7 | exact at8 | exact at9 | exact at10 | exact at11 | exact at12 | exact at13 | exact at14 | exact at15) Try.underlying3 rfl (by rfl)) ?_
                          refine OL_sil rfl rfl rfl (Sil.add rfl rfl rfl (by omega) (by omega)) ?_
                          refine OL_sil rfl rfl rfl (Sil.fieldLoc 5 rfl rfl Try.underlying43 rfl rfl) ?_
                          refine OL_sil rfl rfl rfl (by exact Sil.ownV rfl rfl (by first | exact at0 | exact at1 | exact at2 | exact at3 | exact at4 | exact at5 | exact at6 | exact at7 | exact at8 | exact at9 | exact at10 | exact at11 | exact at12 | exact at13 | exact at14 | exact at15) Try.underlying3 rfl (by rfl)) ?_
                          refine OL_sil rfl rfl rfl (Sil.add rfl rfl rfl (by omega) (by omega)) ?_
                          refine OL_sil rfl rfl rfl (Sil.eql rfl rfl rfl) ?_
                          refine OL_sil rfl rfl rfl (Sil.pick0 rfl rfl rfl) ?_
                          refine OL_nil ?_
                          (refine Cont.then_intro (And.intro (by (repeat' (first | exact trivial | refine ⟨rfl, ?_⟩))) (And.intro ?_ rfl)); first | exact slotV rfl (congrArg Value.bool (decide_eq_true (by omega)).symm) | exact slotV rfl (congrArg Value.bool (decide_eq_false (by omega)).symm) | exact slotV rfl (congrArg Value.bool (decide_eq_decide.2 (by omega))) | exact slotV rfl (congrArg Value.bool (decide_not.symm.trans (decide_eq_decide.2 (by omega)))))
                      refine TC_if rfl (fun ht91 => ?_) (fun ht91 => ?_)
                      · omega
                      · refine TC_skip ?_
                        refine TC_exit ?_
                        refine TC_region ?_
                        refine OL_sil rfl rfl rfl (Sil.add rfl rfl rfl (by omega) (by omega)) ?_
                        refine OL_sil rfl rfl rfl (Sil.move rfl rfl) ?_
                        refine OL_nil ?_
                        exact ⟨(j + 1, f), ⟨⟨by show j + 1 ≤ u.out.length; omega, seen_step hsn⟩, ⟨rfl, rfl, rfl, rfl, rfl, rfl, rfl, rfl, rfl, rfl, trivial⟩, List.Sublist.cons_cons _ (List.Sublist.cons_cons _ (List.Sublist.cons_cons _ (List.Sublist.cons_cons _ (List.nil_sublist _))))⟩, by show _ - (j + 1) < _ - j; omega⟩
                    · obtain ⟨q1, q2, jj, q3, q4, q5⟩ := g3.resolve_left (fun h => ht77 h.1)
                      have hnone := seen_new (by omega) hsn hfit ho q1
                      have hval : (16 * (jj + 1) + (c - 1)) % 16 + 1 = c := by omega
                      refine TC_skip ?_
                      refine TC_seq ?_
                      refine TC_seq ?_
                      refine TC_region ?_
                      refine OL_sil rfl rfl rfl (Sil.fieldLoc 3 rfl rfl Try.underlying43 rfl rfl) ?_
                      refine OL_sil rfl rfl rfl (by exact Sil.ownV rfl rfl (by first | exact at0 | exact at1 | exact at2 | exact at3 | exact at4 | exact at5 | exact at6 | exact at7 | exact at8 | exact at9 | exact at10 | exact at11 | exact at12 | exact at13 | exact at14 | exact at15) Try.underlying3 rfl (by rfl)) ?_
                      refine OL_sil rfl rfl rfl (Sil.fieldLoc 4 rfl rfl Try.underlying43 rfl rfl) ?_
                      refine OL_sil rfl rfl rfl (by exact Sil.ownV rfl rfl (by first | exact at0 | exact at1 | exact at2 | exact at3 | exact at4 | exact at5 | exact at6 | exact at7 | exact at8 | exact at9 | exact at10 | exact at11 | exact at12 | exact at13 | exact at14 | exact at15) Try.underlying3 rfl (by rfl)) ?_
                      refine OL_sil rfl rfl rfl (Sil.add rfl rfl rfl (by omega) (by omega)) ?_
                      refine OL_sil rfl rfl rfl (Sil.eql rfl rfl rfl) ?_
                      refine OL_sil rfl rfl rfl (Sil.move rfl rfl) ?_
                      refine OL_dec 98 rfl (fun ht98 => ?_) (fun ht98 => ?_)
                      · omega
                      · refine OL_sil rfl rfl rfl (Sil.move rfl rfl) ?_
                        refine OL_sil rfl rfl rfl (Sil.fieldLoc 2 rfl rfl Try.underlying63 rfl rfl) ?_
                        refine OL_sil rfl rfl rfl (by exact Sil.ownV rfl rfl (by first | exact at0 | exact at1 | exact at2 | exact at3 | exact at4 | exact at5 | exact at6 | exact at7 | exact at8 | exact at9 | exact at10 | exact at11 | exact at12 | exact at13 | exact at14 | exact at15) Try.underlying3 rfl (by rfl)) ?_
                        refine OL_sil rfl rfl rfl (Sil.lookup1 1 o.val (int_row Try.underlying3) rfl rfl rfl rfl Try.underlying61 rfl) ?_
                        refine OL_slot 102 (v := .bool false) rfl (by rw [hnone]; rfl) ?_
                        refine OL_sil rfl rfl rfl (Sil.pick0 rfl rfl rfl) ?_
                        refine OL_sil rfl rfl rfl (Sil.move rfl rfl) ?_
                        refine OL_sil rfl rfl rfl (Sil.fieldLoc 2 rfl rfl Try.underlying63 rfl rfl) ?_
                        refine OL_sil rfl rfl rfl (by exact Sil.ownV rfl rfl (by first | exact at0 | exact at1 | exact at2 | exact at3 | exact at4 | exact at5 | exact at6 | exact at7 | exact at8 | exact at9 | exact at10 | exact at11 | exact at12 | exact at13 | exact at14 | exact at15) Try.underlying3 rfl (by rfl)) ?_
                        refine OL_slot 106 (v := .int .i64 ((16 * (jj + 1) + (c - 1) : Nat) : Int)) rfl (congrArg _ q5) ?_
                        refine OL_pure rfl rfl rfl (LO.pure rfl ent32 rfl (fun w _ => whoV (16 * (jj + 1) + (c - 1)) (by omega) w)) ?_
                        refine OL_sil rfl rfl rfl (Sil.move rfl rfl) ?_
                        refine OL_sil rfl rfl rfl (Sil.neq rfl rfl rfl) ?_
                        refine OL_sil rfl rfl rfl (Sil.pick0 rfl rfl rfl) ?_
                        refine OL_sil rfl rfl rfl (Sil.move rfl rfl) ?_
                        refine OL_decn 111 rfl (fun ht111 => ?_) (fun ht111 => ?_)
                        · exact absurd (by rw [hval]) ht111
                        · refine OL_sil rfl rfl rfl (Sil.fieldLoc 2 rfl rfl Try.underlying63 rfl rfl) ?_
                          refine OL_sil rfl rfl rfl (by exact Sil.ownV rfl rfl (by first | exact at0 | exact at1 | exact at2 | exact at3 | exact at4 | exact at5 | exact at6 | exact at7 | exact at8 | exact at9 | exact at10 | exact at11 | exact at12 | exact at13 | exact at14 | exact at15) Try.underlying3 rfl (by rfl)) ?_
                          refine OL_sil rfl rfl rfl (Sil.lss rfl rfl rfl) ?_
                          refine OL_sil rfl rfl rfl (Sil.pick0 rfl rfl rfl) ?_
                          refine OL_nil ?_
                          refine TC_if rfl (fun ht115 => ?_) (fun ht115 => ?_)
                          · unfold valD at q5; omega
                          · refine TC_skip ?_
                            refine TC_region ?_
                            refine OL_sil rfl rfl rfl (Sil.move rfl rfl) ?_
                            refine OL_sil rfl rfl rfl (Sil.fieldLoc 2 rfl rfl Try.underlying63 rfl rfl) ?_
                            refine OL_sil rfl rfl rfl (by exact Sil.ownV rfl rfl (by first | exact at0 | exact at1 | exact at2 | exact at3 | exact at4 | exact at5 | exact at6 | exact at7 | exact at8 | exact at9 | exact at10 | exact at11 | exact at12 | exact at13 | exact at14 | exact at15) Try.underlying3 rfl (by rfl)) ?_
                            refine OL_loud0 rfl rfl (LO.mapUpdate 1 o.val (int_row Try.underlying3) rfl rfl rfl rfl rfl Try.underlying61) ?_
                            rintro _ _ ⟨rfl, rfl⟩
                            refine OL_nil ?_
                            refine TC_region ?_
                            refine OL_sil rfl rfl rfl (Sil.add rfl rfl rfl (by omega) (by omega)) ?_
                            refine OL_sil rfl rfl rfl (Sil.move rfl rfl) ?_
                            refine OL_nil ?_
                            exact ⟨(j + 1, _), ⟨⟨by show j + 1 ≤ u.out.length; omega, seen_put hsn ho q1⟩, ⟨rfl, rfl, rfl, rfl, rfl, rfl, rfl, rfl, rfl, rfl, trivial⟩, List.Sublist.cons_cons _ (List.Sublist.cons_cons _ (List.Sublist.cons_cons _ (List.Sublist.cons_cons _ (List.nil_sublist _))))⟩, by show _ - (j + 1) < _ - j; omega⟩
                · refine TC_exit ?_
                  refine TC_region ?_
                  refine OL_sil rfl rfl rfl (Sil.move rfl rfl) ?_
                  refine OL_sil rfl rfl rfl (Sil.add rfl rfl rfl (by omega) (by omega)) ?_
                  refine OL_sil rfl rfl rfl (Sil.assign rfl rfl) ?_
                  refine OL_nil ?_
                  exact ⟨(i + 1, u, f), ⟨⟨by show i + 1 ≤ _; omega, by show u.n ≤ 12 * (i + 1); omega, seen_end hsn hfit⟩, ⟨rfl, rfl, rfl, rfl, rfl, rfl, rfl, trivial⟩, List.Sublist.cons_cons _ (List.Sublist.cons_cons _ (List.Sublist.cons_cons _ (List.nil_sublist _)))⟩, by show _ - (i + 1) < _ - i; omega⟩
          · refine TC_exit ?_
            refine TC_region ?_
            refine OL_sil rfl rfl rfl (Sil.move rfl rfl) ?_
            refine OL_sil rfl rfl rfl (Sil.add rfl rfl rfl (by omega) (by omega)) ?_
            refine OL_sil rfl rfl rfl (Sil.assign rfl rfl) ?_
            refine OL_nil ?_
            exact ⟨(c + 1, f), ⟨⟨by show 1 ≤ c + 1; omega, by show c + 1 ≤ 5; omega, seen_client hc1 hsn⟩, ⟨rfl, rfl, rfl, rfl, rfl, trivial⟩, List.Sublist.cons_cons _ (List.Sublist.cons_cons _ (List.nil_sublist _))⟩, by show 5 - (c + 1) < 5 - c; omega⟩
    · refine TC_exit ?_
      refine TC_seq ?_
      refine TC_region ?_
      refine OL_sil rfl rfl rfl (Sil.assign rfl rfl) ?_
      refine OL_nil ?_
      refine TC_ret ?_
      exact ret1 rfl rfl ⟨rfl, rfl⟩
theorem DrawFits_no (p : PlD) (s : Nat) (n : Int) (hs : s < 18446744073709551616) (hp : ¬ okP p) (w0 : World) : Gives Try.prog 11 [agI p.is, .int .u64 s, .int .i64 n] w0 [] fun v h => v = .bool true ∧ h = [] := by
  refine gives_of Try.func11 rfl rfl rfl (Own.start w0) ?_
  refine TC_seq ?_
  refine TC_region ?_
  refine OL_loud rfl rfl rfl (LO.box rfl rfl) ?_
  rintro _ _ ⟨b3, _, rfl, rfl⟩
  refine OL_sil rfl rfl rfl (Sil.assign rfl rfl) ?_
  refine OL_nil ?_
  refine TC_seq ?_
  refine TC_seq ?_
  refine TC_region ?_
  refine OL_pure rfl rfl rfl (LO.pure rfl ent24 rfl (fun w _ => dhead_gives w)) ?_
  refine OL_sil rfl rfl rfl (Sil.not rfl rfl) ?_
  refine OL_nil ?_
  refine TC_no rfl ?_
  refine TC_skip ?_
  refine TC_seq ?_
  refine TC_region ?_
  refine OL_loud rfl rfl rfl (LO.makeMap (intK .i64) rfl) ?_
  rintro _ _ ⟨mb, rfl, rfl⟩
  refine OL_sil rfl rfl rfl (Sil.assign rfl rfl) ?_
  refine OL_nil ?_
  refine TC_seq ?_
  refine TC_seq ?_
  refine TC_region ?_
  refine OL_sil rfl rfl rfl (Sil.assign rfl rfl) ?_
  refine OL_nil ?_
  refine TC_block ?_
  refine TC_loop (fun _ : Unit => [(1, .int .u64 s), (3, .pointer (some ⟨b3, 0, none⟩)), (8, .int .i64 1)]) (fun _ => [blk b3 (.cells (iv p.is).toArray 43 (0, 0))]) (fun _ => True) (fun _ => 0) () ?_ ?_
  · exact ⟨trivial, ⟨rfl, rfl, rfl, trivial⟩, List.Sublist.cons_cons _ (List.nil_sublist _)⟩
  · rintro _ _
    refine TC_seq ?_
    refine TC_seq ?_
    refine TC_region ?_
    refine OL_sil rfl rfl rfl (Sil.move rfl rfl) ?_
    refine OL_sil rfl rfl rfl (Sil.leq rfl rfl rfl) ?_
    refine OL_nil ?_
    refine TC_if rfl (fun ht19 => ?_) (fun ht19 => ?_)
    · refine TC_skip ?_
      refine TC_seq ?_
      refine TC_block ?_
      refine TC_seq ?_
      refine TC_region ?_
      refine OL_sil rfl rfl rfl (by first | exact Sil.ownV rfl rfl (by first | exact at0 | exact at1 | exact at2 | exact at3 | exact at4 | exact at5 | exact at6 | exact at7 | exact at8 | exact at9 | exact at10 | exact at11 | exact at12 | exact at13 | exact at14 | exact at15) Try.underlying43 rfl (by rfl) | exact Sil.wholeV rfl rfl (by first | exact at0 | exact at1 | exact at2 | exact at3 | exact at4 | exact at5 | exact at6 | exact at7 | exact at8 | exact at9 | exact at10 | exact at11 | exact at12 | exact at13 | exact at14 | exact at15) ⟨Try.underlying43, rfl⟩ rfl (by rfl)) ?_
      refine OL_sil rfl rfl rfl (Sil.move rfl rfl) ?_
      refine OL_sil rfl rfl rfl (Sil.move rfl rfl) ?_
      refine OL_loud rfl rfl rfl (LO.calls rfl ent26 rfl (fun w _ => dNew_no p 1 s hs (fun h => hp h.1) w)) ?_
      rintro _ _ ⟨_, ⟨rfl, rfl⟩, rfl⟩
      refine OL_sil rfl rfl rfl (Sil.move rfl rfl) ?_
      refine OL_sil rfl rfl rfl (Sil.extract rfl rfl rfl) ?_
      refine OL_sil rfl rfl rfl (Sil.extract rfl rfl rfl) ?_
      refine OL_sil rfl rfl rfl (Sil.assign rfl rfl) ?_
      refine OL_sil rfl rfl rfl (Sil.assign rfl rfl) ?_
      refine OL_nil ?_
      refine TC_seq ?_
      refine TC_seq ?_
      refine TC_region ?_
      refine OL_sil rfl rfl rfl (Sil.move rfl rfl) ?_
      refine OL_sil rfl rfl rfl (Sil.neq rfl rfl rfl) ?_
      refine OL_nil ?_
      refine TC_ifn rfl (fun ht30 => ?_) (fun ht30 => ?_)
      · refine TC_seq ?_
        refine TC_region ?_
        refine OL_sil rfl rfl rfl (Sil.assign rfl rfl) ?_
        refine OL_nil ?_
        refine TC_ret ?_
        exact ret1 rfl rfl ⟨rfl, rfl⟩
      · exact absurd ht30 (by decide)
    · exact absurd (by decide) ht19
theorem DrawFits_gives (p : PlD) (s : Nat) (n : Int) (hs : s < 18446744073709551616) (w0 : World) : Gives Try.prog 11 [agI p.is, .int .u64 s, .int .i64 n] w0 [] fun v h => v = .bool true ∧ h = [] := by
  by_cases hp : okP p
  · exact DrawFits_ok p s n hs hp w0
  · exact DrawFits_no p s n hs hp w0
end Go.Proofs.Ytccmgmjfcfacoaa
