/-
  Laws of draw: a client's transactions by the page; the same seed draws the same.
-/
import Derived.Test.YtccmgmjfcfacoaaDrwE
namespace Go.Proofs.Ytccmgmjfcfacoaa
open Go.Cru

theorem finD_inv (p : PlD) (c want : Nat) (Q : DSt → Prop) (hstep : ∀ st, st.out.length < want → Q st → Q (stepD p c want st)) : ∀ (k : Nat) (st : DSt), want - st.out.length ≤ k → Q st → Q (finD p c want st)
  | 0, st, hk, hq => by rw [finD_stop _ _ _ _ (by omega)]; exact hq
  | k + 1, st, hk, hq => by
    by_cases h : st.out.length < want
    · rw [finD_step _ _ _ _ h]
      exact finD_inv p c want Q hstep k _ (by have := stepD_len p c want st h; omega) (hstep st h hq)
    · rw [finD_stop _ _ _ _ h]; exact hq
theorem finD_end (p : PlD) (c want : Nat) : ∀ (k : Nat) (st : DSt), want - st.out.length ≤ k → want ≤ (finD p c want st).out.length
  | 0, st, hk => by rw [finD_stop _ _ _ _ (by omega)]; omega
  | k + 1, st, hk => by
    by_cases h : st.out.length < want
    · rw [finD_step _ _ _ _ h]
      exact finD_end p c want k _ (by have := stepD_len p c want st h; omega)
    · rw [finD_stop _ _ _ _ h]; omega
theorem stepD_s (p : PlD) (c want : Nat) (st : DSt) : (stepD p c want st).s < 18446744073709551616 := by
  unfold stepD
  generalize bel st.s p.keys = key
  generalize bel (nxt st.s) (sumP p) = x
  unfold stepX
  split
  · exact nxt_lt _
  · split
    · exact nxt_lt _
    · split
      · split <;> exact nxt_lt _
      · exact nxt_lt _
theorem nextD_facts (p : PlD) (hp : okP p) (c s n : Nat) : 1 ≤ (nextD p c s n).out.length ∧ ((nextD p c s n).out.length : Int) ≤ p.most ∧ n ≤ (nextD p c s n).n ∧ (nextD p c s n).n ≤ n + 12 ∧ (nextD p c s n).s < 18446744073709551616 := by
  unfold okP at hp
  have hw := bel_below s p.most (by omega)
  unfold nextD
  have h1 := finD_end p c (bel s p.most + 1) _ ⟨nxt s, n, []⟩ (Nat.le_refl _)
  have h2 := finD_inv p c (bel s p.most + 1) (fun st => st.out.length ≤ bel s p.most + 1 ∧ n ≤ st.n ∧ st.n ≤ n + st.out.length ∧ st.s < 18446744073709551616) (fun st hl hq => by
    have h3 := stepD_len p c (bel s p.most + 1) st hl
    have h4 := stepD_s p c (bel s p.most + 1) st
    exact ⟨h3.2.1, by omega, by omega, h4⟩) _ ⟨nxt s, n, []⟩ (Nat.le_refl _) ⟨Nat.zero_le _, Nat.le_refl _, Nat.le_add_right _ _, nxt_lt _⟩
  obtain ⟨h5, h6, h7, h8⟩ := h2
  exact ⟨by omega, by omega, h6, by omega, h8⟩

theorem DrawNexts_ok (p : PlD) (c s : Nat) (n : Int) (hs : s < 18446744073709551616) (hp : okP p) (hc : 1 ≤ c ∧ c ≤ 16) (w0 : World) : Gives Try.prog 10 [agI p.is, .int .i64 c, .int .u64 s, .int .i64 n] w0 [] fun v h => v = .bool true ∧ h = [] := by
  have ha : (n % 18446744073709551616).toNat &&& 31 ≤ 31 := Nat.and_le_right
  refine gives_of Try.func10 rfl rfl rfl (Own.start w0) ?_
  refine TC_seq ?_
  refine TC_region ?_
  refine OL_loud rfl rfl rfl (LO.box rfl rfl) ?_
  rintro _ _ ⟨b4, _, rfl, rfl⟩
  refine OL_sil rfl rfl rfl (Sil.assign rfl rfl) ?_
  refine OL_nil ?_
  refine TC_seq ?_
  refine TC_seq ?_
  refine TC_region ?_
  refine OL_pure rfl rfl rfl (LO.pure rfl ent24 rfl (fun w _ => dhead_gives w)) ?_
  refine OL_sil rfl rfl rfl (Sil.not rfl rfl) ?_
  refine OL_nil ?_
  refine TC_no rfl ?_
  refine TC_skip ?_
  refine TC_seq ?_
  refine TC_region ?_
  refine OL_sil rfl rfl rfl (by first | exact Sil.ownV rfl rfl (by first | exact at0 | exact at1 | exact at2 | exact at3 | exact at4 | exact at5 | exact at6 | exact at7 | exact at8 | exact at9 | exact at10 | exact at11 | exact at12 | exact at13 | exact at14 | exact at15) Try.underlying43 rfl (by rfl) | exact Sil.wholeV rfl rfl (by first | exact at0 | exact at1 | exact at2 | exact at3 | exact at4 | exact at5 | exact at6 | exact at7 | exact at8 | exact at9 | exact at10 | exact at11 | exact at12 | exact at13 | exact at14 | exact at15) ⟨Try.underlying43, rfl⟩ rfl (by rfl)) ?_
  refine OL_sil rfl rfl rfl (Sil.move rfl rfl) ?_
  refine OL_sil rfl rfl rfl (Sil.move rfl rfl) ?_
  refine OL_loud rfl rfl rfl (LO.calls rfl ent26 rfl (fun w _ => dNew_ok p c s hs hp hc w)) ?_
  rintro _ _ ⟨_, ⟨bg, bs, rfl, rfl⟩, rfl⟩
  refine OL_sil rfl rfl rfl (Sil.move rfl rfl) ?_
  refine OL_sil rfl rfl rfl (Sil.extract rfl rfl rfl) ?_
  refine OL_sil rfl rfl rfl (Sil.extract rfl rfl rfl) ?_
  refine OL_sil rfl rfl rfl (Sil.assign rfl rfl) ?_
  refine OL_sil rfl rfl rfl (Sil.assign rfl rfl) ?_
  refine OL_nil ?_
  refine TC_seq ?_
  refine TC_seq ?_
  refine TC_region ?_
  refine OL_sil rfl rfl rfl (Sil.move rfl rfl) ?_
  refine OL_sil rfl rfl rfl (Sil.neq rfl rfl rfl) ?_
  refine OL_nil ?_
  refine TC_ifn rfl (fun ht25 => ?_) (fun ht25 => ?_)
  · exact absurd rfl ht25
  · refine TC_skip ?_
    refine TC_seq ?_
    refine TC_region ?_
    refine OL_sil rfl rfl rfl (Sil.move rfl rfl) ?_
    refine OL_sil rfl rfl rfl (Sil.move rfl rfl) ?_
    refine OL_pure rfl rfl rfl (LO.pure rfl ent29 rfl (fun w _ => refNew_gives c s hc.2 hs w)) ?_
    refine OL_loud rfl rfl rfl (LO.alloc rfl rfl) ?_
    rintro _ _ ⟨b11, _, rfl, rfl⟩
    refine OL_loud0 rfl rfl (by first | exact LO.storeAllV rfl rfl rfl (by first | exact at0 | exact at1 | exact at2 | exact at3 | exact at4 | exact at5 | exact at6 | exact at7 | exact at8 | exact at9 | exact at10 | exact at11 | exact at12 | exact at13 | exact at14 | exact at15) (by rfl) (by rfl) (by rfl) (by rfl) | exact LO.store1V rfl rfl rfl (by first | exact at0 | exact at1 | exact at2 | exact at3 | exact at4 | exact at5 | exact at6 | exact at7 | exact at8 | exact at9 | exact at10 | exact at11 | exact at12 | exact at13 | exact at14 | exact at15) (by rfl) (by rfl) (by rfl)) ?_
    rintro _ _ ⟨rfl, rfl⟩
    refine OL_nil ?_
    refine TC_seq ?_
    refine TC_seq ?_
    have hfl := frk_lt s c
    generalize frk s c = s1 at hfl ⊢
    refine TC_region ?_
    refine OL_sil rfl rfl rfl (Sil.assign rfl rfl) ?_
    refine OL_nil ?_
    refine TC_block ?_
    refine TC_loop (fun ((i, _) : Nat × DSt) => [(1, .int .i64 c), (3, .int .i64 n), (4, .pointer (some ⟨b4, 0, none⟩)), (9, .pointer (some ⟨bg, 0, none⟩)), (11, .pointer (some ⟨b11, 0, none⟩)), (12, .int .i64 i)]) (fun (_, st) => [blk b4 (.cells (iv p.is).toArray 43 (0, 0)), genR bg bs p c st.n st.s, blk b11 (.cells (stC st.s st.n).toArray 55 (0, 0))]) (fun (i, st) => i ≤ (n % 18446744073709551616).toNat &&& 31 ∧ st.n ≤ 12 * i ∧ st.s < 18446744073709551616) (fun (i, _) => ((n % 18446744073709551616).toNat &&& 31) - i) (0, ⟨s1, 0, []⟩) ?_ ?_
    · exact ⟨⟨Nat.zero_le _, Nat.zero_le _, hfl⟩, ⟨rfl, rfl, rfl, rfl, rfl, rfl, trivial⟩, List.Sublist.refl _⟩
    · rintro ⟨i, st⟩ ⟨hi, hn, hsl⟩
      have hi : i ≤ (n % 18446744073709551616).toNat &&& 31 := hi
      have hn : st.n ≤ 12 * i := hn
      have hsl : st.s < 18446744073709551616 := hsl
      obtain ⟨f1, f2, f3, f4, f5⟩ := nextD_facts p hp c st.s st.n
      obtain ⟨u, hu⟩ : ∃ u, u = nextD p c st.s st.n := ⟨_, rfl⟩
      rw [← hu] at f1 f2 f3 f4 f5
      refine TC_seq ?_
      refine TC_seq ?_
      refine TC_region ?_
      refine OL_sil rfl rfl rfl (Sil.move rfl rfl) ?_
      refine OL_sil rfl rfl rfl (Sil.move rfl rfl) ?_
      refine OL_sil rfl rfl rfl (Sil.andw (j := 31) rfl rfl rfl (by decide)) ?_
      refine OL_sil rfl rfl rfl (Sil.lss rfl rfl rfl) ?_
      refine OL_nil ?_
      refine TC_if rfl (fun ht32 => ?_) (fun ht32 => ?_)
      · refine TC_skip ?_
        refine TC_seq ?_
        refine TC_block ?_
        refine TC_seq ?_
        refine TC_region ?_
        refine OL_sil rfl rfl rfl (by first | exact Sil.ownV rfl rfl (by first | exact at0 | exact at1 | exact at2 | exact at3 | exact at4 | exact at5 | exact at6 | exact at7 | exact at8 | exact at9 | exact at10 | exact at11 | exact at12 | exact at13 | exact at14 | exact at15) Try.underlying43 rfl (by rfl) | exact Sil.wholeV rfl rfl (by first | exact at0 | exact at1 | exact at2 | exact at3 | exact at4 | exact at5 | exact at6 | exact at7 | exact at8 | exact at9 | exact at10 | exact at11 | exact at12 | exact at13 | exact at14 | exact at15) ⟨Try.underlying43, rfl⟩ rfl (by rfl)) ?_
        refine OL_sil rfl rfl rfl (Sil.move rfl rfl) ?_
        refine OL_sil rfl rfl rfl (by first | exact Sil.ownV rfl rfl (by first | exact at0 | exact at1 | exact at2 | exact at3 | exact at4 | exact at5 | exact at6 | exact at7 | exact at8 | exact at9 | exact at10 | exact at11 | exact at12 | exact at13 | exact at14 | exact at15) Try.underlying55 rfl (by rfl) | exact Sil.wholeV rfl rfl (by first | exact at0 | exact at1 | exact at2 | exact at3 | exact at4 | exact at5 | exact at6 | exact at7 | exact at8 | exact at9 | exact at10 | exact at11 | exact at12 | exact at13 | exact at14 | exact at15) ⟨Try.underlying55, rfl⟩ rfl (by rfl)) ?_
        refine OL_loud rfl rfl rfl (LO.calls rfl ent30 rfl (fun w _ => (rNext_gives p c st.n st.s hp hc (by omega) hsl w).mono (R' := fun v h => ∃ ao cap, v = .tuple #[.agg (stC u.s u.n).toArray, .slice ao u.out.length cap] ∧ h = [sq ao u.out.length cap 63 3 (opsC u.out)]) (fun v h hR => by rw [hu]; exact hR))) ?_
        rintro _ _ ⟨_, ⟨ao, cap, rfl, rfl⟩, rfl⟩
        refine OL_sil rfl rfl rfl (Sil.move rfl rfl) ?_
        refine OL_sil rfl rfl rfl (Sil.extract rfl rfl rfl) ?_
        refine OL_sil rfl rfl rfl (Sil.extract rfl rfl rfl) ?_
        refine OL_loud rfl rfl rfl (LO.alloc rfl rfl) ?_
        rintro _ _ ⟨b13, _, rfl, rfl⟩
        refine OL_loud0 rfl rfl (by first | exact LO.storeAllV rfl rfl rfl (by first | exact at0 | exact at1 | exact at2 | exact at3 | exact at4 | exact at5 | exact at6 | exact at7 | exact at8 | exact at9 | exact at10 | exact at11 | exact at12 | exact at13 | exact at14 | exact at15) (by rfl) (by rfl) (by rfl) (by rfl) | exact LO.store1V rfl rfl rfl (by first | exact at0 | exact at1 | exact at2 | exact at3 | exact at4 | exact at5 | exact at6 | exact at7 | exact at8 | exact at9 | exact at10 | exact at11 | exact at12 | exact at13 | exact at14 | exact at15) (by rfl) (by rfl) (by rfl)) ?_
        rintro _ _ ⟨rfl, rfl⟩
        refine OL_sil rfl rfl rfl (Sil.assign rfl rfl) ?_
        refine OL_nil ?_
        refine TC_seq ?_
        refine TC_region ?_
        refine OL_sil rfl rfl rfl (by first | exact Sil.ownV rfl rfl (by first | exact at0 | exact at1 | exact at2 | exact at3 | exact at4 | exact at5 | exact at6 | exact at7 | exact at8 | exact at9 | exact at10 | exact at11 | exact at12 | exact at13 | exact at14 | exact at15) Try.underlying55 rfl (by rfl) | exact Sil.wholeV rfl rfl (by first | exact at0 | exact at1 | exact at2 | exact at3 | exact at4 | exact at5 | exact at6 | exact at7 | exact at8 | exact at9 | exact at10 | exact at11 | exact at12 | exact at13 | exact at14 | exact at15) ⟨Try.underlying55, rfl⟩ rfl (by rfl)) ?_
        refine OL_loud0 rfl rfl (by first | exact LO.storeAllV rfl rfl rfl (by first | exact at0 | exact at1 | exact at2 | exact at3 | exact at4 | exact at5 | exact at6 | exact at7 | exact at8 | exact at9 | exact at10 | exact at11 | exact at12 | exact at13 | exact at14 | exact at15) (by rfl) (by rfl) (by rfl) (by rfl) | exact LO.store1V rfl rfl rfl (by first | exact at0 | exact at1 | exact at2 | exact at3 | exact at4 | exact at5 | exact at6 | exact at7 | exact at8 | exact at9 | exact at10 | exact at11 | exact at12 | exact at13 | exact at14 | exact at15) (by rfl) (by rfl) (by rfl)) ?_
        rintro _ _ ⟨rfl, rfl⟩
        refine OL_nil ?_
        refine TC_seq ?_
        refine TC_region ?_
        refine OL_sil rfl rfl rfl (Sil.move rfl rfl) ?_
        refine OL_loud rfl rfl rfl (LO.callsLent (R := fun v h => ∃ ao cap, v = .slice ao u.out.length cap ∧ h = [genR bg bs p c u.n u.s, sq ao u.out.length cap 63 3 (opsC u.out)]) 1 rfl ent28 rfl rfl (fun w _ ho' => (dNext_gives bg bs p c st.n st.s hp hc (by omega) w ho').mono fun v h ⟨ao, cap, e1, e2⟩ => ⟨_, _, e2, genR_ids, ao, cap, by rw [e1, hu], by rw [hu]⟩)) ?_
        rintro _ _ ⟨r', h1, ⟨ao2, cap2, rfl, hh⟩, rfl⟩
        obtain ⟨rfl, rfl⟩ := List.cons.inj hh
        refine OL_sil rfl rfl rfl (Sil.move rfl rfl) ?_
        refine OL_pure rfl rfl rfl (LO.pure rfl ent31 rfl (fun w hw => Same_true u.out u.out ao2 ao cap2 cap w (OpsAt.of_sq (hw.mine _ (List.mem_of_getElem? (i := 5) rfl))) (OpsAt.of_sq (hw.mine _ (List.mem_of_getElem? (i := 3) rfl))) rfl)) ?_
        refine OL_sil rfl rfl rfl (Sil.not rfl rfl) ?_
        refine OL_nil ?_
        refine TC_no rfl ?_
        refine TC_skip ?_
        refine TC_region ?_
        refine OL_sil rfl rfl rfl (Sil.move rfl rfl) ?_
        refine OL_sil rfl rfl rfl (Sil.add rfl rfl rfl (by omega) (by omega)) ?_
        refine OL_sil rfl rfl rfl (Sil.assign rfl rfl) ?_
        refine OL_nil ?_
        exact ⟨(i + 1, u), ⟨⟨by show i + 1 ≤ _; omega, by show u.n ≤ 12 * (i + 1); omega, f5⟩, ⟨rfl, rfl, rfl, rfl, rfl, rfl, trivial⟩, List.Sublist.cons_cons _ (List.Sublist.cons_cons _ (List.Sublist.cons_cons _ (List.nil_sublist _)))⟩, by show _ - (i + 1) < _ - i; omega⟩
      · refine TC_exit ?_
        refine TC_seq ?_
        refine TC_region ?_
        refine OL_sil rfl rfl rfl (Sil.assign rfl rfl) ?_
        refine OL_nil ?_
        refine TC_ret ?_
        exact ret1 rfl rfl ⟨rfl, rfl⟩
theorem DrawNexts_no (p : PlD) (cl : Int) (s : Nat) (n : Int) (hs : s < 18446744073709551616) (hn : ¬ (okP p ∧ 1 ≤ cl ∧ cl ≤ 16)) (w0 : World) : Gives Try.prog 10 [agI p.is, .int .i64 cl, .int .u64 s, .int .i64 n] w0 [] fun v h => v = .bool true ∧ h = [] := by
  refine gives_of Try.func10 rfl rfl rfl (Own.start w0) ?_
  refine TC_seq ?_
  refine TC_region ?_
  refine OL_loud rfl rfl rfl (LO.box rfl rfl) ?_
  rintro _ _ ⟨b4, _, rfl, rfl⟩
  refine OL_sil rfl rfl rfl (Sil.assign rfl rfl) ?_
  refine OL_nil ?_
  refine TC_seq ?_
  refine TC_seq ?_
  refine TC_region ?_
  refine OL_pure rfl rfl rfl (LO.pure rfl ent24 rfl (fun w _ => dhead_gives w)) ?_
  refine OL_sil rfl rfl rfl (Sil.not rfl rfl) ?_
  refine OL_nil ?_
  refine TC_no rfl ?_
  refine TC_skip ?_
  refine TC_seq ?_
  refine TC_region ?_
  refine OL_sil rfl rfl rfl (by first | exact Sil.ownV rfl rfl (by first | exact at0 | exact at1 | exact at2 | exact at3 | exact at4 | exact at5 | exact at6 | exact at7 | exact at8 | exact at9 | exact at10 | exact at11 | exact at12 | exact at13 | exact at14 | exact at15) Try.underlying43 rfl (by rfl) | exact Sil.wholeV rfl rfl (by first | exact at0 | exact at1 | exact at2 | exact at3 | exact at4 | exact at5 | exact at6 | exact at7 | exact at8 | exact at9 | exact at10 | exact at11 | exact at12 | exact at13 | exact at14 | exact at15) ⟨Try.underlying43, rfl⟩ rfl (by rfl)) ?_
  refine OL_sil rfl rfl rfl (Sil.move rfl rfl) ?_
  refine OL_sil rfl rfl rfl (Sil.move rfl rfl) ?_
  refine OL_loud rfl rfl rfl (LO.calls rfl ent26 rfl (fun w _ => dNew_no p cl s hs hn w)) ?_
  rintro _ _ ⟨_, ⟨rfl, rfl⟩, rfl⟩
  refine OL_sil rfl rfl rfl (Sil.move rfl rfl) ?_
  refine OL_sil rfl rfl rfl (Sil.extract rfl rfl rfl) ?_
  refine OL_sil rfl rfl rfl (Sil.extract rfl rfl rfl) ?_
  refine OL_sil rfl rfl rfl (Sil.assign rfl rfl) ?_
  refine OL_sil rfl rfl rfl (Sil.assign rfl rfl) ?_
  refine OL_nil ?_
  refine TC_seq ?_
  refine TC_seq ?_
  refine TC_region ?_
  refine OL_sil rfl rfl rfl (Sil.move rfl rfl) ?_
  refine OL_sil rfl rfl rfl (Sil.neq rfl rfl rfl) ?_
  refine OL_nil ?_
  refine TC_ifn rfl (fun ht25 => ?_) (fun ht25 => ?_)
  · refine TC_seq ?_
    refine TC_region ?_
    refine OL_sil rfl rfl rfl (Sil.assign rfl rfl) ?_
    refine OL_nil ?_
    refine TC_ret ?_
    exact ret1 rfl rfl ⟨rfl, rfl⟩
  · exact absurd ht25 (by decide)
theorem DrawNexts_gives (p : PlD) (cl : Int) (s : Nat) (n : Int) (hs : s < 18446744073709551616) (w0 : World) : Gives Try.prog 10 [agI p.is, .int .i64 cl, .int .u64 s, .int .i64 n] w0 [] fun v h => v = .bool true ∧ h = [] := by
  by_cases hp : okP p ∧ 1 ≤ cl ∧ cl ≤ 16
  · obtain ⟨c, rfl⟩ := Int.eq_ofNat_of_zero_le (show 0 ≤ cl by omega)
    exact DrawNexts_ok p c s n hs hp.1 (by omega) w0
  · exact DrawNexts_no p cl s n hs hp w0

theorem DrawSeeds_ok (p : PlD) (c s : Nat) (n : Int) (hs : s < 18446744073709551616) (hp : okP p) (hc : 1 ≤ c ∧ c ≤ 16) (w0 : World) : Gives Try.prog 12 [agI p.is, .int .i64 c, .int .u64 s, .int .i64 n] w0 [] fun v h => v = .bool true ∧ h = [] := by
  have ha : (n % 18446744073709551616).toNat &&& 15 ≤ 15 := Nat.and_le_right
  have hd : c &&& 15 ≤ 15 := Nat.and_le_right
  refine gives_of Try.func12 rfl rfl rfl (Own.start w0) ?_
  refine TC_seq ?_
  refine TC_region ?_
  refine OL_loud rfl rfl rfl (LO.box rfl rfl) ?_
  rintro _ _ ⟨b4, _, rfl, rfl⟩
  refine OL_sil rfl rfl rfl (Sil.assign rfl rfl) ?_
  refine OL_nil ?_
  refine TC_seq ?_
  refine TC_seq ?_
  refine TC_region ?_
  refine OL_pure rfl rfl rfl (LO.pure rfl ent24 rfl (fun w _ => dhead_gives w)) ?_
  refine OL_sil rfl rfl rfl (Sil.not rfl rfl) ?_
  refine OL_nil ?_
  refine TC_no rfl ?_
  refine TC_skip ?_
  refine TC_seq ?_
  refine TC_region ?_
  refine OL_sil rfl rfl rfl (by first | exact Sil.ownV rfl rfl (by first | exact at0 | exact at1 | exact at2 | exact at3 | exact at4 | exact at5 | exact at6 | exact at7 | exact at8 | exact at9 | exact at10 | exact at11 | exact at12 | exact at13 | exact at14 | exact at15) Try.underlying43 rfl (by rfl) | exact Sil.wholeV rfl rfl (by first | exact at0 | exact at1 | exact at2 | exact at3 | exact at4 | exact at5 | exact at6 | exact at7 | exact at8 | exact at9 | exact at10 | exact at11 | exact at12 | exact at13 | exact at14 | exact at15) ⟨Try.underlying43, rfl⟩ rfl (by rfl)) ?_
  refine OL_sil rfl rfl rfl (Sil.move rfl rfl) ?_
  refine OL_sil rfl rfl rfl (Sil.move rfl rfl) ?_
  refine OL_loud rfl rfl rfl (LO.calls rfl ent26 rfl (fun w _ => dNew_ok p c s hs hp hc w)) ?_
  rintro _ _ ⟨_, ⟨ga, sa, rfl, rfl⟩, rfl⟩
  refine OL_sil rfl rfl rfl (Sil.move rfl rfl) ?_
  refine OL_sil rfl rfl rfl (Sil.extract rfl rfl rfl) ?_
  refine OL_sil rfl rfl rfl (Sil.extract rfl rfl rfl) ?_
  refine OL_sil rfl rfl rfl (Sil.assign rfl rfl) ?_
  refine OL_sil rfl rfl rfl (Sil.assign rfl rfl) ?_
  refine OL_nil ?_
  refine TC_seq ?_
  refine TC_region ?_
  refine OL_sil rfl rfl rfl (by first | exact Sil.ownV rfl rfl (by first | exact at0 | exact at1 | exact at2 | exact at3 | exact at4 | exact at5 | exact at6 | exact at7 | exact at8 | exact at9 | exact at10 | exact at11 | exact at12 | exact at13 | exact at14 | exact at15) Try.underlying43 rfl (by rfl) | exact Sil.wholeV rfl rfl (by first | exact at0 | exact at1 | exact at2 | exact at3 | exact at4 | exact at5 | exact at6 | exact at7 | exact at8 | exact at9 | exact at10 | exact at11 | exact at12 | exact at13 | exact at14 | exact at15) ⟨Try.underlying43, rfl⟩ rfl (by rfl)) ?_
  refine OL_sil rfl rfl rfl (Sil.move rfl rfl) ?_
  refine OL_sil rfl rfl rfl (Sil.move rfl rfl) ?_
  refine OL_loud rfl rfl rfl (LO.calls rfl ent26 rfl (fun w _ => dNew_ok p c s hs hp hc w)) ?_
  rintro _ _ ⟨_, ⟨gb, sb, rfl, rfl⟩, rfl⟩
  refine OL_sil rfl rfl rfl (Sil.move rfl rfl) ?_
  refine OL_sil rfl rfl rfl (Sil.extract rfl rfl rfl) ?_
  refine OL_sil rfl rfl rfl (Sil.extract rfl rfl rfl) ?_
  refine OL_sil rfl rfl rfl (Sil.assign rfl rfl) ?_
  refine OL_sil rfl rfl rfl (Sil.assign rfl rfl) ?_
  refine OL_nil ?_
  refine TC_seq ?_
  refine TC_region ?_
  refine OL_sil rfl rfl rfl (by first | exact Sil.ownV rfl rfl (by first | exact at0 | exact at1 | exact at2 | exact at3 | exact at4 | exact at5 | exact at6 | exact at7 | exact at8 | exact at9 | exact at10 | exact at11 | exact at12 | exact at13 | exact at14 | exact at15) Try.underlying43 rfl (by rfl) | exact Sil.wholeV rfl rfl (by first | exact at0 | exact at1 | exact at2 | exact at3 | exact at4 | exact at5 | exact at6 | exact at7 | exact at8 | exact at9 | exact at10 | exact at11 | exact at12 | exact at13 | exact at14 | exact at15) ⟨Try.underlying43, rfl⟩ rfl (by rfl)) ?_
  refine OL_sil rfl rfl rfl (Sil.move rfl rfl) ?_
  refine OL_sil rfl rfl rfl (Sil.and (j := 15) rfl rfl rfl (by omega) (by decide)) ?_
  refine OL_sil rfl rfl rfl (Sil.add rfl rfl rfl (by omega) (by omega)) ?_
  refine OL_slot 39 (v := .int .i64 ((1 + (c &&& 15) : Nat) : Int)) rfl (congrArg _ (by omega)) ?_
  refine OL_sil rfl rfl rfl (Sil.move rfl rfl) ?_
  refine OL_loud rfl rfl rfl (LO.calls rfl ent26 rfl (fun w _ => dNew_ok p (1 + (c &&& 15)) s hs hp (by omega) w)) ?_
  rintro _ _ ⟨_, ⟨go, so, rfl, rfl⟩, rfl⟩
  refine OL_sil rfl rfl rfl (Sil.move rfl rfl) ?_
  refine OL_sil rfl rfl rfl (Sil.extract rfl rfl rfl) ?_
  refine OL_sil rfl rfl rfl (Sil.extract rfl rfl rfl) ?_
  refine OL_sil rfl rfl rfl (Sil.assign rfl rfl) ?_
  refine OL_sil rfl rfl rfl (Sil.assign rfl rfl) ?_
  refine OL_nil ?_
  refine TC_seq ?_
  refine TC_seq ?_
  refine TC_region ?_
  refine OL_sil rfl rfl rfl (Sil.move rfl rfl) ?_
  refine OL_sil rfl rfl rfl (Sil.neq rfl rfl rfl) ?_
  refine OL_sil rfl rfl rfl (Sil.move rfl rfl) ?_
  refine OL_decn 46 rfl (fun ht46 => ?_) (fun ht46 => ?_)
  · exact absurd rfl ht46
  · refine OL_sil rfl rfl rfl (Sil.move rfl rfl) ?_
    refine OL_sil rfl rfl rfl (Sil.neq rfl rfl rfl) ?_
    refine OL_sil rfl rfl rfl (Sil.pick0 rfl rfl rfl) ?_
    refine OL_nil ?_
    refine TC_ifn rfl (fun ht49 => ?_) (fun ht49 => ?_)
    · exact absurd rfl ht49
    · refine TC_skip ?_
      refine TC_seq ?_
      refine TC_seq ?_
      refine TC_region ?_
      refine OL_sil rfl rfl rfl (Sil.move rfl rfl) ?_
      refine OL_sil rfl rfl rfl (Sil.neq rfl rfl rfl) ?_
      refine OL_nil ?_
      refine TC_ifn rfl (fun ht54 => ?_) (fun ht54 => ?_)
      · exact absurd rfl ht54
      · refine TC_skip ?_
        refine TC_seq ?_
        refine TC_seq ?_
        obtain ⟨d, hdd⟩ : ∃ d, d = 1 + (c &&& 15) := ⟨_, rfl⟩
        rw [← hdd]
        have hfl := frk_lt s c
        generalize frk s c = s1 at hfl ⊢
        have hfo := frk_lt s d
        generalize frk s d = s2 at hfo ⊢
        refine TC_region ?_
        refine OL_sil rfl rfl rfl (Sil.assign rfl rfl) ?_
        refine OL_nil ?_
        refine TC_block ?_
        refine TC_loop (fun ((i, _, _) : Nat × DSt × DSt) => [(3, .int .i64 n), (9, .pointer (some ⟨ga, 0, none⟩)), (11, .pointer (some ⟨gb, 0, none⟩)), (13, .pointer (some ⟨go, 0, none⟩)), (15, .int .i64 i)]) (fun (_, st, so') => [genR ga sa p c st.n st.s, genR gb sb p c st.n st.s, genR go so p d so'.n so'.s]) (fun (i, st, so') => i ≤ (n % 18446744073709551616).toNat &&& 15 ∧ st.n ≤ 12 * i ∧ so'.n ≤ 12 * i) (fun (i, _) => ((n % 18446744073709551616).toNat &&& 15) - i) (0, ⟨s1, 0, []⟩, ⟨s2, 0, []⟩) ?_ ?_
        · exact ⟨⟨Nat.zero_le _, Nat.zero_le _, Nat.zero_le _⟩, ⟨rfl, rfl, rfl, rfl, rfl, trivial⟩, List.Sublist.cons _ (List.Sublist.refl _)⟩
        · rintro ⟨i, st, so'⟩ ⟨hi, hn, hn2⟩
          have hi : i ≤ (n % 18446744073709551616).toNat &&& 15 := hi
          have hn : st.n ≤ 12 * i := hn
          have hn2 : so'.n ≤ 12 * i := hn2
          obtain ⟨f1, f2, f3, f4, f5⟩ := nextD_facts p hp c st.s st.n
          obtain ⟨e1, e2, e3, e4, e5⟩ := nextD_facts p hp d so'.s so'.n
          obtain ⟨u, hu⟩ : ∃ u, u = nextD p c st.s st.n := ⟨_, rfl⟩
          obtain ⟨v, hv⟩ : ∃ v, v = nextD p d so'.s so'.n := ⟨_, rfl⟩
          rw [← hu] at f1 f2 f3 f4 f5
          rw [← hv] at e1 e2 e3 e4 e5
          unfold okP at hp
          refine TC_seq ?_
          refine TC_seq ?_
          refine TC_region ?_
          refine OL_sil rfl rfl rfl (Sil.move rfl rfl) ?_
          refine OL_sil rfl rfl rfl (Sil.move rfl rfl) ?_
          refine OL_sil rfl rfl rfl (Sil.andw (j := 15) rfl rfl rfl (by decide)) ?_
          refine OL_sil rfl rfl rfl (Sil.lss rfl rfl rfl) ?_
          refine OL_nil ?_
          refine TC_if rfl (fun ht58 => ?_) (fun ht58 => ?_)
          · refine TC_skip ?_
            refine TC_seq ?_
            refine TC_block ?_
            refine TC_seq ?_
            refine TC_region ?_
            refine OL_sil rfl rfl rfl (Sil.move rfl rfl) ?_
            refine OL_loud rfl rfl rfl (LO.callsLent (R := fun v h => ∃ ao cap, v = .slice ao u.out.length cap ∧ h = [genR ga sa p c u.n u.s, sq ao u.out.length cap 63 3 (opsC u.out)]) 0 rfl ent28 rfl rfl (fun w _ ho' => (dNext_gives ga sa p c st.n st.s hp hc (by omega) w ho').mono fun v h ⟨ao, cap, e1, e2⟩ => ⟨_, _, e2, genR_ids, ao, cap, by rw [e1, hu], by rw [hu]⟩)) ?_
            rintro _ _ ⟨r', h1, ⟨ax, cx, rfl, hh⟩, rfl⟩
            obtain ⟨rfl, rfl⟩ := List.cons.inj hh
            refine OL_sil rfl rfl rfl (Sil.assign rfl rfl) ?_
            refine OL_nil ?_
            refine TC_seq ?_
            refine TC_region ?_
            refine OL_sil rfl rfl rfl (Sil.move rfl rfl) ?_
            refine OL_loud rfl rfl rfl (LO.callsLent (R := fun w h => ∃ ao cap, w = .slice ao v.out.length cap ∧ h = [genR go so p d v.n v.s, sq ao v.out.length cap 63 3 (opsC v.out)]) 2 rfl ent28 rfl rfl (fun w _ ho' => (dNext_gives go so p d so'.n so'.s hp (by omega) (by omega) w ho').mono fun w h ⟨ao, cap, e1, e2⟩ => ⟨_, _, e2, genR_ids, ao, cap, by rw [e1, hv], by rw [hv]⟩)) ?_
            rintro _ _ ⟨r', h1, ⟨ao, co, rfl, hh⟩, rfl⟩
            obtain ⟨rfl, rfl⟩ := List.cons.inj hh
            refine OL_nil ?_
            refine TC_seq ?_
            refine TC_region ?_
            refine OL_sil rfl rfl rfl (Sil.move rfl rfl) ?_
            refine OL_loud rfl rfl rfl (LO.callsLent (R := fun v h => ∃ ao cap, v = .slice ao u.out.length cap ∧ h = [genR gb sb p c u.n u.s, sq ao u.out.length cap 63 3 (opsC u.out)]) 1 rfl ent28 rfl rfl (fun w _ ho' => (dNext_gives gb sb p c st.n st.s hp hc (by omega) w ho').mono fun v h ⟨ao, cap, e1, e2⟩ => ⟨_, _, e2, genR_ids, ao, cap, by rw [e1, hu], by rw [hu]⟩)) ?_
            rintro _ _ ⟨r', h1, ⟨ay, cy, rfl, hh⟩, rfl⟩
            obtain ⟨rfl, rfl⟩ := List.cons.inj hh
            refine OL_sil rfl rfl rfl (Sil.assign rfl rfl) ?_
            refine OL_nil ?_
            refine TC_seq ?_
            refine TC_seq ?_
            refine TC_region ?_
            refine OL_sil rfl rfl rfl (Sil.move rfl rfl) ?_
            refine OL_sil rfl rfl rfl (Sil.move rfl rfl) ?_
            refine OL_pure rfl rfl rfl (LO.pure rfl ent31 rfl (fun w hw => Same_true u.out u.out ax ay cx cy w (OpsAt.of_sq (hw.mine _ (List.mem_of_getElem? (i := 3) rfl))) (OpsAt.of_sq (hw.mine _ (List.mem_of_getElem? (i := 5) rfl))) rfl)) ?_
            refine OL_sil rfl rfl rfl (Sil.not rfl rfl) ?_
            refine OL_nil ?_
            refine TC_no rfl ?_
            refine TC_skip ?_
            refine TC_seq ?_
            refine TC_region ?_
            refine OL_sil rfl rfl rfl (Sil.move rfl rfl) ?_
            refine OL_sil rfl rfl rfl (Sil.lenSl rfl rfl Try.underlying51) ?_
            refine OL_sil rfl rfl rfl (Sil.move rfl rfl) ?_
            refine OL_nil ?_
            refine TC_block ?_
            refine TC_loop (fun ((k, _) : Nat × List Value) => [(3, .int .i64 n), (9, .pointer (some ⟨ga, 0, none⟩)), (11, .pointer (some ⟨gb, 0, none⟩)), (13, .pointer (some ⟨go, 0, none⟩)), (15, .int .i64 i), (16, .slice ax u.out.length cx), (72, .int .i64 u.out.length), (73, .int .i64 k)]) (fun (_, vs) => [genR ga sa p c u.n u.s, genR gb sb p c u.n u.s, genR go so p d v.n v.s, sq ax u.out.length cx 63 3 vs]) (fun (k, _) => k ≤ u.out.length) (fun (k, _) => u.out.length - k) (0, opsC u.out) ?_ ?_
            · exact ⟨Nat.zero_le _, ⟨rfl, rfl, rfl, rfl, rfl, rfl, rfl, rfl, trivial⟩, List.Sublist.cons_cons _ (List.Sublist.cons_cons _ (List.Sublist.cons_cons _ (List.Sublist.cons_cons _ (List.nil_sublist _))))⟩
            · rintro ⟨k, vs⟩ hk
              have hk : k ≤ u.out.length := hk
              refine TC_seq ?_
              refine TC_region ?_
              refine OL_sil rfl rfl rfl (Sil.lss rfl rfl rfl) ?_
              refine OL_nil ?_
              refine TC_seq ?_
              refine TC_if rfl (fun ht74 => ?_) (fun ht74 => ?_)
              · refine TC_know (fun w hw => hw.sqSome (i := 3) rfl (by omega)) (fun hsome => ?_)
                obtain ⟨g, rfl⟩ := hsome
                refine TC_skip ?_
                refine TC_seq ?_
                refine TC_block ?_
                refine TC_seq ?_
                refine TC_region ?_
                refine OL_sil rfl rfl rfl (Sil.move rfl rfl) ?_
                refine OL_sil rfl rfl rfl (Sil.assign rfl rfl) ?_
                refine OL_nil ?_
                refine TC_region ?_
                refine OL_sil rfl rfl rfl (Sil.move rfl rfl) ?_
                refine OL_sil rfl rfl rfl (Sil.move rfl rfl) ?_
                refine OL_sil rfl rfl rfl (Sil.indexOwn k rfl rfl rfl Try.underlying51 rfl rfl (by omega)) ?_
                refine OL_sil rfl rfl rfl (Sil.fieldLoc 2 rfl rfl Try.underlying63 rfl rfl) ?_
                refine OL_loud0 rfl rfl (LO.sqStore 3 rfl rfl rfl rfl rfl rfl rfl (by show k * 3 + 2 < u.out.length * 3; omega)) ?_
                rintro _ _ ⟨rfl, rfl⟩
                refine OL_nil ?_
                refine TC_region ?_
                refine OL_sil rfl rfl rfl (Sil.add rfl rfl rfl (by omega) (by omega)) ?_
                refine OL_sil rfl rfl rfl (Sil.move rfl rfl) ?_
                refine OL_nil ?_
                exact ⟨(k + 1, _), ⟨by show k + 1 ≤ u.out.length; omega, ⟨rfl, rfl, rfl, rfl, rfl, rfl, rfl, rfl, trivial⟩, List.Sublist.refl _⟩, by show _ - (k + 1) < _ - k; omega⟩
              · refine TC_exit ?_
                refine TC_region ?_
                refine OL_sil rfl rfl rfl (Sil.move rfl rfl) ?_
                refine OL_sil rfl rfl rfl (Sil.add rfl rfl rfl (by omega) (by omega)) ?_
                refine OL_sil rfl rfl rfl (Sil.assign rfl rfl) ?_
                refine OL_nil ?_
                exact ⟨(i + 1, u, v), ⟨⟨by show i + 1 ≤ _; omega, by show u.n ≤ 12 * (i + 1); omega, by show v.n ≤ 12 * (i + 1); omega⟩, ⟨rfl, rfl, rfl, rfl, rfl, trivial⟩, List.Sublist.cons_cons _ (List.Sublist.cons_cons _ (List.Sublist.cons_cons _ (List.nil_sublist _)))⟩, by show _ - (i + 1) < _ - i; omega⟩
          · refine TC_exit ?_
            refine TC_seq ?_
            refine TC_region ?_
            refine OL_sil rfl rfl rfl (Sil.assign rfl rfl) ?_
            refine OL_nil ?_
            refine TC_ret ?_
            exact ret1 rfl rfl ⟨rfl, rfl⟩
end Go.Proofs.Ytccmgmjfcfacoaa
