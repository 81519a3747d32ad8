/-
  Laws of draw: which plans are right, a client's transactions, who wrote a value.
-/
import Derived.Test.YtccmgmjfcfacoaaDrwC
import Derived.Test.YtccmgmjfcfacoaaDrwD
namespace Go.Proofs.Ytccmgmjfcfacoaa
open Go.Cru

theorem dNew_ok (p : PlD) (c : Nat) (s : Nat) (hs : s < 18446744073709551616) (hp : okP p) (hc : 1 ≤ c ∧ c ≤ 16) (w0 : World) : Gives Try.prog 26 [agI p.is, .int .i64 c, .int .u64 s] w0 [] fun v h =>
    ∃ bg bs : Nat, v = .tuple #[.pointer (some ⟨bg, 0, none⟩), .int .i64 0] ∧ h = [genR bg bs p c 0 (frk s c)] :=
  (dNew_gives p c s hs w0).mono fun v h hR => by
    rcases hR with ⟨hno, _⟩ | ⟨_, c', bg, bs, hc', _, _, e1, e2⟩
    · exact absurd ⟨hp, by omega, by omega⟩ hno
    · obtain rfl : c = c' := by omega
      exact ⟨bg, bs, e1, e2⟩
theorem dNew_no (p : PlD) (cl : Int) (s : Nat) (hs : s < 18446744073709551616) (hn : ¬ (okP p ∧ 1 ≤ cl ∧ cl ≤ 16)) (w0 : World) : Gives Try.prog 26 [agI p.is, .int .i64 cl, .int .u64 s] w0 [] fun v h =>
    v = .tuple #[.pointer none, .int .i64 1] ∧ h = [] :=
  (dNew_gives p cl s hs w0).mono fun v h hR => by
    rcases hR with ⟨_, e1, e2⟩ | ⟨hp, c', bg, bs, hc', h1, h2, _⟩
    · exact ⟨e1, e2⟩
    · exact absurd ⟨hp, by omega, by omega⟩ hn
theorem Right_val (p : PlD) (b : Bool) (hb : decide (okP p) = b) (w0 : World) : Gives Try.prog 25 [agI p.is] w0 [] fun v h => v = .bool b ∧ h = [] :=
  (Right_gives p w0).mono fun v h ⟨e1, e2⟩ => ⟨by rw [e1, hb], e2⟩
theorem Check_yes (p : PlD) (hp : okP p) (w0 : World) : Gives Try.prog 27 [agI p.is] w0 [] fun v h => v = .int .i64 0 ∧ h = [] :=
  (Check_gives p w0).mono fun v h ⟨e1, e2⟩ => ⟨by rw [e1, if_pos hp], e2⟩
theorem Check_no (p : PlD) (hp : ¬ okP p) (w0 : World) : Gives Try.prog 27 [agI p.is] w0 [] fun v h => v = .int .i64 1 ∧ h = [] :=
  (Check_gives p w0).mono fun v h ⟨e1, e2⟩ => ⟨by rw [e1, if_neg hp], e2⟩
theorem who_nat (m : Nat) (hm : m < 9223372036854775808) : ((m : Int) % 18446744073709551616).toNat &&& 15 = m % 16 := by
  have h1 : ((m : Int) % 18446744073709551616).toNat = m := by omega
  rw [h1]
  exact Nat.and_two_pow_sub_one_eq_mod m 4
theorem whoV (m : Nat) (hm : m < 9223372036854775808) (w0 : World) : Gives Try.prog 32 [.int .i64 m] w0 [] fun u h => u = .int .i64 ((m % 16 + 1 : Nat) : Int) ∧ h = [] :=
  (Who_gives m w0).mono fun v h ⟨e1, e2⟩ => ⟨by rw [e1, who_nat m hm]; rfl, e2⟩
theorem Same_true (xs ys : List OpD) (a b : Option Addr) (cap cap' : Nat) (w0 : World) (hx : OpsAt w0 a xs) (hy : OpsAt w0 b ys) (he : xs = ys) :
    Gives Try.prog 31 [.slice a xs.length cap, .slice b ys.length cap'] w0 [] fun v h => v = .bool true ∧ h = [] :=
  (Same_gives xs ys a b cap cap' w0 hx hy).mono fun v h ⟨e1, e2⟩ => ⟨by rw [e1, decide_eq_true he], e2⟩

theorem genR_ids {bg bs : Nat} {p p' : PlD} {c c' : Nat} {n n' : Int} {s s' : Nat} : (genR bg bs p c n s).ids = (genR bg bs p' c' n' s').ids := rfl

/-! ### the document's example -/
def plE : PlD := ⟨1, 1, 0, 1, 0, 0⟩
theorem plE_ok : okP plE := by decide
theorem plE_next (s n : Nat) : nextD plE 3 s n = ⟨nxt (nxt (nxt s)), n + 1, [wrD 3 n 0]⟩ := by
  have hb : ∀ t, bel t 1 = 0 := fun t => by unfold bel; rw [if_pos (by decide)]
  have h1 : bel s plE.most + 1 = 1 := by rw [show plE.most = 1 from rfl, hb]
  unfold nextD
  rw [h1, finD_step _ _ _ _ (by show 0 < 1; decide)]
  have h2 : stepD plE 3 1 ⟨nxt s, n, []⟩ = ⟨nxt (nxt (nxt s)), n + 1, [wrD 3 n 0]⟩ := by
    unfold stepD
    show stepX plE 3 1 ⟨nxt s, n, []⟩ (bel (nxt s) 1) (bel (nxt (nxt s)) 1) (nxt (nxt (nxt s))) = _
    rw [hb, hb]
    rfl
  rw [h2, finD_stop _ _ _ _ (by show ¬ 1 < 1; decide)]
theorem plE_gives (bg bs n s : Nat) (hn : n ≤ 100000) (w0 : World) (ho : Own w0 [bs, bg] [genR bg bs plE 3 n s] w0) :
    Gives Try.prog 28 [.pointer (some ⟨bg, 0, none⟩)] w0 [bs, bg] fun v h => ∃ ao cap, v = .slice ao 1 cap ∧ h = [genR bg bs plE 3 ((n + 1 : Nat) : Int) (nxt (nxt (nxt s))), sq ao 1 cap 63 3 (opsC [wrD 3 n 0])] :=
  (dNext_gives bg bs plE 3 n s plE_ok (by decide) hn w0 ho).mono fun v h ⟨ao, cap, e1, e2⟩ => ⟨ao, cap, by rw [e1, plE_next]; rfl, by rw [e2, plE_next]; rfl⟩
theorem dhead_gives (w0 : World) : Gives Try.prog 24 [] w0 [] fun v h => v = .bool true ∧ h = [] := by
  refine gives_of Try.func24 rfl rfl rfl (Own.start w0) ?_
  refine TC_seq ?_
  refine TC_region ?_
  refine OL_sil rfl rfl rfl (Sil.assign rfl rfl) ?_
  refine OL_nil ?_
  refine TC_seq ?_
  refine TC_region ?_
  refine OL_sil rfl rfl rfl (Sil.buildS (vs := [(0, .int .i64 1), (1, .int .i64 1), (3, .int .i64 1)]) (cs := (iv plE.is).toArray) (ss := [1, 1, 1, 1, 1, 1]) rfl rfl Try.underlying43 rfl rfl rfl) ?_
  refine OL_loud rfl rfl rfl (LO.calls rfl ent26 rfl (fun w _ => dNew_ok plE 3 7 (by decide) plE_ok (by decide) w)) ?_
  rintro _ _ ⟨_, ⟨bg, bs, rfl, rfl⟩, rfl⟩
  refine OL_sil rfl rfl rfl (Sil.move rfl rfl) ?_
  refine OL_sil rfl rfl rfl (Sil.extract rfl rfl rfl) ?_
  refine OL_sil rfl rfl rfl (Sil.extract rfl rfl rfl) ?_
  refine OL_sil rfl rfl rfl (Sil.assign rfl rfl) ?_
  refine OL_sil rfl rfl rfl (Sil.assign rfl rfl) ?_
  refine OL_nil ?_
  refine TC_seq ?_
  refine TC_seq ?_
  refine TC_region ?_
  refine OL_sil rfl rfl rfl (Sil.move rfl rfl) ?_
  refine OL_sil rfl rfl rfl (Sil.neq rfl rfl rfl) ?_
  refine OL_sil rfl rfl rfl (Sil.move rfl rfl) ?_
  refine OL_decn 12 rfl (fun ht12 => ?_) (fun ht12 => ?_)
  · exact absurd rfl ht12
  · refine OL_sil rfl rfl rfl (Sil.move rfl rfl) ?_
    refine OL_sil rfl rfl rfl (Sil.eqlNil rfl rfl rfl Try.underlying46) ?_
    refine OL_sil rfl rfl rfl (Sil.pick0 rfl rfl rfl) ?_
    refine OL_nil ?_
    refine TC_no rfl ?_
    refine TC_skip ?_
    refine TC_seq ?_
    refine TC_seq ?_
    refine TC_region ?_
    refine OL_sil rfl rfl rfl (Sil.assign rfl rfl) ?_
    refine OL_nil ?_
    refine TC_block ?_
    refine TC_loop (fun ((k, s) : Nat × Nat) => [(1, .pointer (some ⟨bg, 0, none⟩)), (3, .int .i64 ((k : Int) + 1))]) (fun (k, s) => [genR bg bs plE 3 k s]) (fun (k, _) => k ≤ 3) (fun (k, _) => 3 - k) (0, frk 7 3) ?_ ?_
    · exact ⟨Nat.zero_le _, ⟨rfl, rfl, trivial⟩, List.Sublist.refl _⟩
    · rintro ⟨k, s⟩ hk
      have hk : k ≤ 3 := hk
      refine TC_seq ?_
      refine TC_seq ?_
      refine TC_region ?_
      refine OL_sil rfl rfl rfl (Sil.move rfl rfl) ?_
      refine OL_sil rfl rfl rfl (Sil.leq rfl rfl rfl) ?_
      refine OL_nil ?_
      refine TC_if rfl (fun ht17 => ?_) (fun ht17 => ?_)
      · refine TC_skip ?_
        refine TC_seq ?_
        refine TC_block ?_
        refine TC_seq ?_
        refine TC_region ?_
        refine OL_sil rfl rfl rfl (Sil.move rfl rfl) ?_
        refine OL_loud rfl rfl rfl (LO.callsLent (R := fun v h => ∃ ao cap, v = .slice ao 1 cap ∧ h = [genR bg bs plE 3 ((k + 1 : Nat) : Int) (nxt (nxt (nxt s))), sq ao 1 cap 63 3 (opsC [wrD 3 k 0])]) 0 rfl ent28 rfl rfl (fun w _ ho' => (plE_gives bg bs k s (by omega) w ho').mono fun v h ⟨ao, cap, e1, e2⟩ => ⟨_, _, e2, genR_ids, ao, cap, e1, rfl⟩)) ?_
        rintro _ _ ⟨r', h1, ⟨ao, cap, rfl, hh⟩, rfl⟩
        refine OL_sil rfl rfl rfl (Sil.assign rfl rfl) ?_
        refine OL_nil ?_
        obtain ⟨rfl, rfl⟩ := List.cons.inj hh
        refine TC_know (fun w hw => hw.sqSome (i := 1) rfl (by decide)) (fun hsome => ?_)
        obtain ⟨g, rfl⟩ := hsome
        refine TC_seq ?_
        refine TC_region ?_
        refine OL_sil rfl rfl rfl (Sil.move rfl rfl) ?_
        refine OL_sil rfl rfl rfl (Sil.lenSl rfl rfl Try.underlying51) ?_
        refine OL_sil rfl rfl rfl (Sil.neq rfl rfl rfl) ?_
        refine OL_sil rfl rfl rfl (Sil.move rfl rfl) ?_
        refine OL_decn 25 rfl (fun ht25 => ?_) (fun ht25 => ?_)
        · exact absurd rfl ht25
        · refine OL_sil rfl rfl rfl (Sil.move rfl rfl) ?_
          refine OL_sil rfl rfl rfl (Sil.indexOwn 0 rfl rfl rfl Try.underlying51 rfl rfl (by decide)) ?_
          refine OL_sil rfl rfl rfl (Sil.sqLoadN (cs := iv (wrD 3 k 0).is) 1 rfl rfl rfl Try.underlying63 rfl rfl rfl (opsC_at (xs := [wrD 3 k 0]) (j := 0) rfl)) ?_
          refine OL_sil rfl rfl rfl (Sil.move rfl rfl) ?_
          refine OL_sil rfl rfl rfl (Sil.mul rfl rfl rfl (by omega) (by omega)) ?_
          refine OL_sil rfl rfl rfl (Sil.add rfl rfl rfl (by omega) (by omega)) ?_
          refine OL_sil rfl rfl rfl (Sil.buildS (vs := [(0, .int .i64 2), (2, .int .i64 (16 * ((k : Int) + 1) + 2))]) (cs := (iv [2, 0, 16 * ((k : Int) + 1) + 2]).toArray) (ss := [1, 1, 1]) rfl rfl Try.underlying63 rfl rfl rfl) ?_
          refine OL_sil rfl rfl rfl (Sil.neqS srOp eqOp rfl (xs := (wrD 3 k 0).is) (ys := [2, 0, 16 * ((k : Int) + 1) + 2]) rfl rfl rfl rfl) ?_
          refine OL_sil rfl rfl rfl (Sil.pick0 rfl rfl rfl) ?_
          refine OL_nil ?_
          refine TC_ifn rfl (fun ht34 => ?_) (fun ht34 => ?_)
          · exact absurd (by show [2, ((0 : Nat) : Int), ((16 * (k + 1) + (3 - 1) : Nat) : Int)] = _; congr 2) ht34
          · refine TC_skip ?_
            refine TC_region ?_
            refine OL_sil rfl rfl rfl (Sil.move rfl rfl) ?_
            refine OL_sil rfl rfl rfl (Sil.add rfl rfl rfl (by omega) (by omega)) ?_
            refine OL_sil rfl rfl rfl (Sil.assign rfl rfl) ?_
            refine OL_nil ?_
            exact ⟨(k + 1, nxt (nxt (nxt s))), ⟨by show k + 1 ≤ 3; omega, ⟨rfl, slotI rfl (by omega), trivial⟩, List.Sublist.cons_cons _ (List.nil_sublist _)⟩, by show 3 - (k + 1) < 3 - k; omega⟩
      · refine TC_exit ?_
        refine TC_seq ?_
        refine TC_region ?_
        refine OL_pure rfl rfl rfl (LO.pure rfl ent32 rfl (fun w _ => whoV 18 (by decide) w)) ?_
        refine OL_sil rfl rfl rfl (Sil.eql rfl rfl rfl) ?_
        refine OL_sil rfl rfl rfl (Sil.assign rfl rfl) ?_
        refine OL_nil ?_
        refine TC_ret ?_
        exact ret1 rfl rfl ⟨congrArg Value.bool (decide_eq_true rfl), rfl⟩

theorem DrawWho_gives (cl n : Int) (w0 : World) : Gives Try.prog 13 [.int .i64 cl, .int .i64 n] w0 [] fun v h => v = .bool true ∧ h = [] := by
  have ha : (cl % 18446744073709551616).toNat &&& 15 ≤ 15 := Nat.and_le_right
  have hb : (n % 18446744073709551616).toNat &&& 65535 ≤ 65535 := Nat.and_le_right
  refine gives_of Try.func13 rfl rfl rfl (Own.start w0) ?_
  refine TC_seq ?_
  refine TC_region ?_
  refine OL_sil rfl rfl rfl (Sil.assign rfl rfl) ?_
  refine OL_nil ?_
  refine TC_seq ?_
  refine TC_region ?_
  refine OL_sil rfl rfl rfl (Sil.move rfl rfl) ?_
  refine OL_sil rfl rfl rfl (Sil.andw (j := 15) rfl rfl rfl (by decide)) ?_
  refine OL_sil rfl rfl rfl (Sil.add rfl rfl rfl (by omega) (by omega)) ?_
  refine OL_sil rfl rfl rfl (Sil.assign rfl rfl) ?_
  refine OL_nil ?_
  refine TC_seq ?_
  refine TC_region ?_
  refine OL_sil rfl rfl rfl (Sil.move rfl rfl) ?_
  refine OL_sil rfl rfl rfl (Sil.andw (j := 65535) rfl rfl rfl (by decide)) ?_
  refine OL_sil rfl rfl rfl (Sil.add rfl rfl rfl (by omega) (by omega)) ?_
  refine OL_sil rfl rfl rfl (Sil.assign rfl rfl) ?_
  refine OL_nil ?_
  generalize (cl % 18446744073709551616).toNat &&& 15 = a at ha ⊢
  generalize (n % 18446744073709551616).toNat &&& 65535 = b at hb ⊢
  refine TC_seq ?_
  refine TC_region ?_
  refine OL_pure rfl rfl rfl (LO.pure rfl ent24 rfl (fun w _ => dhead_gives w)) ?_
  refine OL_sil rfl rfl rfl (Sil.move rfl rfl) ?_
  refine OL_sil rfl rfl rfl (Sil.move rfl rfl) ?_
  refine OL_sil rfl rfl rfl (Sil.mul rfl rfl rfl (by omega) (by omega)) ?_
  refine OL_sil rfl rfl rfl (Sil.move rfl rfl) ?_
  refine OL_sil rfl rfl rfl (Sil.add rfl rfl rfl (by omega) (by omega)) ?_
  refine OL_sil rfl rfl rfl (Sil.sub rfl rfl rfl (by omega) (by omega)) ?_
  refine OL_slot 17 (v := .int .i64 ((16 * (b + 1) + a : Nat) : Int)) rfl (congrArg _ (by omega)) ?_
  refine OL_pure rfl rfl rfl (LO.pure rfl ent32 rfl (fun w _ => whoV (16 * (b + 1) + a) (by omega) w)) ?_
  refine OL_sil rfl rfl rfl (Sil.move rfl rfl) ?_
  refine OL_sil rfl rfl rfl (Sil.eql rfl rfl rfl) ?_
  refine OL_sil rfl rfl rfl (Sil.pick1 rfl rfl rfl) ?_
  refine OL_sil rfl rfl rfl (Sil.assign rfl rfl) ?_
  refine OL_nil ?_
  refine TC_ret ?_
  exact ret1 rfl rfl ⟨congrArg Value.bool (decide_eq_true (by omega)), rfl⟩

theorem DrawPlans_ok (p : PlD) (c s : Nat) (hs : s < 18446744073709551616) (hp : okP p) (hc : 1 ≤ c ∧ c ≤ 16) (w0 : World) : Gives Try.prog 9 [agI p.is, .int .i64 c, .int .u64 s] w0 [] fun v h => v = .bool true ∧ h = [] := by
  refine gives_of Try.func9 rfl rfl rfl (Own.start w0) ?_
  refine TC_seq ?_
  refine TC_region ?_
  refine OL_loud rfl rfl rfl (LO.box rfl rfl) ?_
  rintro _ _ ⟨b3, _, rfl, rfl⟩
  refine OL_sil rfl rfl rfl (Sil.assign rfl rfl) ?_
  refine OL_nil ?_
  refine TC_seq ?_
  refine TC_seq ?_
  refine TC_region ?_
  refine OL_pure rfl rfl rfl (LO.pure rfl ent24 rfl (fun w _ => dhead_gives w)) ?_
  refine OL_sil rfl rfl rfl (Sil.not rfl rfl) ?_
  refine OL_nil ?_
  refine TC_no rfl ?_
  refine TC_skip ?_
  refine TC_seq ?_
  refine TC_region ?_
  refine OL_sil rfl rfl rfl (by first | exact Sil.ownV rfl rfl (by first | exact at0 | exact at1 | exact at2 | exact at3 | exact at4 | exact at5 | exact at6 | exact at7 | exact at8 | exact at9 | exact at10 | exact at11 | exact at12 | exact at13 | exact at14 | exact at15) Try.underlying43 rfl (by rfl) | exact Sil.wholeV rfl rfl (by first | exact at0 | exact at1 | exact at2 | exact at3 | exact at4 | exact at5 | exact at6 | exact at7 | exact at8 | exact at9 | exact at10 | exact at11 | exact at12 | exact at13 | exact at14 | exact at15) ⟨Try.underlying43, rfl⟩ rfl (by rfl)) ?_
  refine OL_pure rfl rfl rfl (LO.pure rfl ent25 rfl (fun w _ => Right_val p true (decide_eq_true hp) w)) ?_
  refine OL_sil rfl rfl rfl (Sil.assign rfl rfl) ?_
  refine OL_nil ?_
  refine TC_seq ?_
  refine TC_region ?_
  refine OL_sil rfl rfl rfl (by first | exact Sil.ownV rfl rfl (by first | exact at0 | exact at1 | exact at2 | exact at3 | exact at4 | exact at5 | exact at6 | exact at7 | exact at8 | exact at9 | exact at10 | exact at11 | exact at12 | exact at13 | exact at14 | exact at15) Try.underlying43 rfl (by rfl) | exact Sil.wholeV rfl rfl (by first | exact at0 | exact at1 | exact at2 | exact at3 | exact at4 | exact at5 | exact at6 | exact at7 | exact at8 | exact at9 | exact at10 | exact at11 | exact at12 | exact at13 | exact at14 | exact at15) ⟨Try.underlying43, rfl⟩ rfl (by rfl)) ?_
  refine OL_sil rfl rfl rfl (Sil.move rfl rfl) ?_
  refine OL_sil rfl rfl rfl (Sil.move rfl rfl) ?_
  refine OL_loud rfl rfl rfl (LO.calls rfl ent26 rfl (fun w _ => dNew_ok p c s hs hp hc w)) ?_
  rintro _ _ ⟨_, ⟨bg, bs, rfl, rfl⟩, rfl⟩
  refine OL_sil rfl rfl rfl (Sil.move rfl rfl) ?_
  refine OL_sil rfl rfl rfl (Sil.extract rfl rfl rfl) ?_
  refine OL_sil rfl rfl rfl (Sil.extract rfl rfl rfl) ?_
  refine OL_sil rfl rfl rfl (Sil.assign rfl rfl) ?_
  refine OL_sil rfl rfl rfl (Sil.assign rfl rfl) ?_
  refine OL_nil ?_
  refine TC_seq ?_
  refine TC_seq ?_
  refine TC_region ?_
  refine OL_sil rfl rfl rfl (by first | exact Sil.ownV rfl rfl (by first | exact at0 | exact at1 | exact at2 | exact at3 | exact at4 | exact at5 | exact at6 | exact at7 | exact at8 | exact at9 | exact at10 | exact at11 | exact at12 | exact at13 | exact at14 | exact at15) Try.underlying43 rfl (by rfl) | exact Sil.wholeV rfl rfl (by first | exact at0 | exact at1 | exact at2 | exact at3 | exact at4 | exact at5 | exact at6 | exact at7 | exact at8 | exact at9 | exact at10 | exact at11 | exact at12 | exact at13 | exact at14 | exact at15) ⟨Try.underlying43, rfl⟩ rfl (by rfl)) ?_
  refine OL_pure rfl rfl rfl (LO.pure rfl ent27 rfl (fun w _ => Check_yes p hp w)) ?_
  refine OL_sil rfl rfl rfl (Sil.eql rfl rfl rfl) ?_
  refine OL_sil rfl rfl rfl (Sil.move rfl rfl) ?_
  refine OL_sil rfl rfl rfl (Sil.neqB rfl rfl rfl Try.underlying4) ?_
  refine OL_slot 25 (v := .bool false) rfl rfl ?_
  refine OL_sil rfl rfl rfl (Sil.move rfl rfl) ?_
  refine OL_sil rfl rfl rfl (Sil.move rfl rfl) ?_
  refine OL_sil rfl rfl rfl (Sil.not rfl rfl) ?_
  refine OL_sil rfl rfl rfl (Sil.move rfl rfl) ?_
  refine OL_skip rfl rfl rfl ?_
  refine OL_skip rfl rfl rfl ?_
  refine OL_skip rfl rfl rfl ?_
  refine OL_sil rfl rfl rfl (Sil.pick0 rfl rfl rfl) ?_
  refine OL_sil rfl rfl rfl (Sil.pick0 rfl rfl rfl) ?_
  refine OL_nil ?_
  refine TC_no rfl ?_
  refine TC_skip ?_
  refine TC_seq ?_
  refine TC_seq ?_
  refine TC_region ?_
  refine OL_sil rfl rfl rfl (Sil.move rfl rfl) ?_
  refine OL_sil rfl rfl rfl (Sil.not rfl rfl) ?_
  refine OL_sil rfl rfl rfl (Sil.move rfl rfl) ?_
  refine OL_sil rfl rfl rfl (Sil.move rfl rfl) ?_
  refine OL_sil rfl rfl rfl (Sil.lss rfl rfl rfl) ?_
  refine OL_sil rfl rfl rfl (Sil.pick0 rfl rfl rfl) ?_
  refine OL_sil rfl rfl rfl (Sil.move rfl rfl) ?_
  refine OL_dec 41 rfl (fun ht41 => ?_) (fun ht41 => ?_)
  · omega
  · refine OL_sil rfl rfl rfl (Sil.move rfl rfl) ?_
    refine OL_sil rfl rfl rfl (Sil.gtr rfl rfl rfl) ?_
    refine OL_sil rfl rfl rfl (Sil.pick0 rfl rfl rfl) ?_
    refine OL_nil ?_
    refine TC_if rfl (fun ht44 => ?_) (fun ht44 => ?_)
    · omega
    · refine TC_skip ?_
      refine TC_seq ?_
      refine TC_region ?_
      refine OL_sil rfl rfl rfl (Sil.move rfl rfl) ?_
      refine OL_sil rfl rfl rfl (Sil.eql rfl rfl rfl) ?_
      refine OL_sil rfl rfl rfl (Sil.move rfl rfl) ?_
      refine OL_dec 59 rfl (fun ht59 => ?_) (fun ht59 => ?_)
      · refine OL_sil rfl rfl rfl (Sil.move rfl rfl) ?_
        refine OL_sil rfl rfl rfl (Sil.neqNil rfl rfl rfl Try.underlying46) ?_
        refine OL_sil rfl rfl rfl (Sil.pick1 rfl rfl rfl) ?_
        refine OL_sil rfl rfl rfl (Sil.assign rfl rfl) ?_
        refine OL_nil ?_
        refine TC_ret ?_
        exact ret1 rfl rfl ⟨rfl, rfl⟩
      · exact absurd rfl ht59
theorem DrawPlans_nop (p : PlD) (cl : Int) (s : Nat) (hs : s < 18446744073709551616) (hp : ¬ okP p) (w0 : World) : Gives Try.prog 9 [agI p.is, .int .i64 cl, .int .u64 s] w0 [] fun v h => v = .bool true ∧ h = [] := by
  refine gives_of Try.func9 rfl rfl rfl (Own.start w0) ?_
  refine TC_seq ?_
  refine TC_region ?_
  refine OL_loud rfl rfl rfl (LO.box rfl rfl) ?_
  rintro _ _ ⟨b3, _, rfl, rfl⟩
  refine OL_sil rfl rfl rfl (Sil.assign rfl rfl) ?_
  refine OL_nil ?_
  refine TC_seq ?_
  refine TC_seq ?_
  refine TC_region ?_
  refine OL_pure rfl rfl rfl (LO.pure rfl ent24 rfl (fun w _ => dhead_gives w)) ?_
  refine OL_sil rfl rfl rfl (Sil.not rfl rfl) ?_
  refine OL_nil ?_
  refine TC_no rfl ?_
  refine TC_skip ?_
  refine TC_seq ?_
  refine TC_region ?_
  refine OL_sil rfl rfl rfl (by first | exact Sil.ownV rfl rfl (by first | exact at0 | exact at1 | exact at2 | exact at3 | exact at4 | exact at5 | exact at6 | exact at7 | exact at8 | exact at9 | exact at10 | exact at11 | exact at12 | exact at13 | exact at14 | exact at15) Try.underlying43 rfl (by rfl) | exact Sil.wholeV rfl rfl (by first | exact at0 | exact at1 | exact at2 | exact at3 | exact at4 | exact at5 | exact at6 | exact at7 | exact at8 | exact at9 | exact at10 | exact at11 | exact at12 | exact at13 | exact at14 | exact at15) ⟨Try.underlying43, rfl⟩ rfl (by rfl)) ?_
  refine OL_pure rfl rfl rfl (LO.pure rfl ent25 rfl (fun w _ => Right_val p false (decide_eq_false hp) w)) ?_
  refine OL_sil rfl rfl rfl (Sil.assign rfl rfl) ?_
  refine OL_nil ?_
  refine TC_seq ?_
  refine TC_region ?_
  refine OL_sil rfl rfl rfl (by first | exact Sil.ownV rfl rfl (by first | exact at0 | exact at1 | exact at2 | exact at3 | exact at4 | exact at5 | exact at6 | exact at7 | exact at8 | exact at9 | exact at10 | exact at11 | exact at12 | exact at13 | exact at14 | exact at15) Try.underlying43 rfl (by rfl) | exact Sil.wholeV rfl rfl (by first | exact at0 | exact at1 | exact at2 | exact at3 | exact at4 | exact at5 | exact at6 | exact at7 | exact at8 | exact at9 | exact at10 | exact at11 | exact at12 | exact at13 | exact at14 | exact at15) ⟨Try.underlying43, rfl⟩ rfl (by rfl)) ?_
  refine OL_sil rfl rfl rfl (Sil.move rfl rfl) ?_
  refine OL_sil rfl rfl rfl (Sil.move rfl rfl) ?_
  refine OL_loud rfl rfl rfl (LO.calls rfl ent26 rfl (fun w _ => dNew_no p cl s hs (fun h => hp h.1) w)) ?_
  rintro _ _ ⟨_, ⟨rfl, rfl⟩, rfl⟩
  refine OL_sil rfl rfl rfl (Sil.move rfl rfl) ?_
  refine OL_sil rfl rfl rfl (Sil.extract rfl rfl rfl) ?_
  refine OL_sil rfl rfl rfl (Sil.extract rfl rfl rfl) ?_
  refine OL_sil rfl rfl rfl (Sil.assign rfl rfl) ?_
  refine OL_sil rfl rfl rfl (Sil.assign rfl rfl) ?_
  refine OL_nil ?_
  refine TC_seq ?_
  refine TC_seq ?_
  refine TC_region ?_
  refine OL_sil rfl rfl rfl (by first | exact Sil.ownV rfl rfl (by first | exact at0 | exact at1 | exact at2 | exact at3 | exact at4 | exact at5 | exact at6 | exact at7 | exact at8 | exact at9 | exact at10 | exact at11 | exact at12 | exact at13 | exact at14 | exact at15) Try.underlying43 rfl (by rfl) | exact Sil.wholeV rfl rfl (by first | exact at0 | exact at1 | exact at2 | exact at3 | exact at4 | exact at5 | exact at6 | exact at7 | exact at8 | exact at9 | exact at10 | exact at11 | exact at12 | exact at13 | exact at14 | exact at15) ⟨Try.underlying43, rfl⟩ rfl (by rfl)) ?_
  refine OL_pure rfl rfl rfl (LO.pure rfl ent27 rfl (fun w _ => Check_no p hp w)) ?_
  refine OL_sil rfl rfl rfl (Sil.eql rfl rfl rfl) ?_
  refine OL_sil rfl rfl rfl (Sil.move rfl rfl) ?_
  refine OL_sil rfl rfl rfl (Sil.neqB rfl rfl rfl Try.underlying4) ?_
  refine OL_slot 25 (v := .bool false) rfl rfl ?_
  refine OL_sil rfl rfl rfl (Sil.move rfl rfl) ?_
  refine OL_sil rfl rfl rfl (Sil.move rfl rfl) ?_
  refine OL_sil rfl rfl rfl (Sil.not rfl rfl) ?_
  refine OL_sil rfl rfl rfl (Sil.move rfl rfl) ?_
  refine OL_sil rfl rfl rfl (by first | exact Sil.ownV rfl rfl (by first | exact at0 | exact at1 | exact at2 | exact at3 | exact at4 | exact at5 | exact at6 | exact at7 | exact at8 | exact at9 | exact at10 | exact at11 | exact at12 | exact at13 | exact at14 | exact at15) Try.underlying43 rfl (by rfl) | exact Sil.wholeV rfl rfl (by first | exact at0 | exact at1 | exact at2 | exact at3 | exact at4 | exact at5 | exact at6 | exact at7 | exact at8 | exact at9 | exact at10 | exact at11 | exact at12 | exact at13 | exact at14 | exact at15) ⟨Try.underlying43, rfl⟩ rfl (by rfl)) ?_
  refine OL_pure rfl rfl rfl (LO.pure rfl ent27 rfl (fun w _ => Check_no p hp w)) ?_
  refine OL_sil rfl rfl rfl (Sil.neq rfl rfl rfl) ?_
  refine OL_sil rfl rfl rfl (Sil.pick1 rfl rfl rfl) ?_
  refine OL_sil rfl rfl rfl (Sil.pick0 rfl rfl rfl) ?_
  refine OL_nil ?_
  refine TC_ifn rfl (fun ht34 => ?_) (fun ht34 => ?_)
  · exact absurd rfl ht34
  · refine TC_skip ?_
    refine TC_seq ?_
    refine TC_seq ?_
    refine TC_region ?_
    refine OL_sil rfl rfl rfl (Sil.move rfl rfl) ?_
    refine OL_sil rfl rfl rfl (Sil.not rfl rfl) ?_
    refine OL_sil rfl rfl rfl (Sil.move rfl rfl) ?_
    refine OL_skip rfl rfl rfl ?_
    refine OL_skip rfl rfl rfl ?_
    refine OL_sil rfl rfl rfl (Sil.pick1 rfl rfl rfl) ?_
    refine OL_sil rfl rfl rfl (Sil.move rfl rfl) ?_
    refine OL_skip rfl rfl rfl ?_
    refine OL_skip rfl rfl rfl ?_
    refine OL_sil rfl rfl rfl (Sil.pick1 rfl rfl rfl) ?_
    refine OL_nil ?_
    refine TC_yes rfl ?_
    refine TC_seq ?_
    refine TC_region ?_
    refine OL_sil rfl rfl rfl (Sil.move rfl rfl) ?_
    refine OL_sil rfl rfl rfl (Sil.eql rfl rfl rfl) ?_
    refine OL_sil rfl rfl rfl (Sil.move rfl rfl) ?_
    refine OL_dec 47 rfl (fun ht47 => ?_) (fun ht47 => ?_)
    · refine OL_sil rfl rfl rfl (Sil.move rfl rfl) ?_
      refine OL_sil rfl rfl rfl (Sil.eqlNil rfl rfl rfl Try.underlying46) ?_
      refine OL_sil rfl rfl rfl (Sil.pick1 rfl rfl rfl) ?_
      refine OL_sil rfl rfl rfl (Sil.move rfl rfl) ?_
      refine OL_sil rfl rfl rfl (Sil.move rfl rfl) ?_
      refine OL_pure rfl rfl rfl (LO.pure rfl ent28 rfl (fun w _ => dNil_gives w)) ?_
      refine OL_sil rfl rfl rfl (Sil.lenSl rfl rfl Try.underlying51) ?_
      refine OL_sil rfl rfl rfl (Sil.eql rfl rfl rfl) ?_
      refine OL_sil rfl rfl rfl (Sil.pick1 rfl rfl rfl) ?_
      refine OL_sil rfl rfl rfl (Sil.assign rfl rfl) ?_
      refine OL_nil ?_
      refine TC_ret ?_
      exact ret1 rfl rfl ⟨congrArg Value.bool (decide_eq_true rfl), rfl⟩
    · exact absurd rfl ht47
theorem DrawPlans_noc (p : PlD) (cl : Int) (s : Nat) (hs : s < 18446744073709551616) (hp : okP p) (hc : ¬ (1 ≤ cl ∧ cl ≤ 16)) (w0 : World) : Gives Try.prog 9 [agI p.is, .int .i64 cl, .int .u64 s] w0 [] fun v h => v = .bool true ∧ h = [] := by
  refine gives_of Try.func9 rfl rfl rfl (Own.start w0) ?_
  refine TC_seq ?_
  refine TC_region ?_
  refine OL_loud rfl rfl rfl (LO.box rfl rfl) ?_
  rintro _ _ ⟨b3, _, rfl, rfl⟩
  refine OL_sil rfl rfl rfl (Sil.assign rfl rfl) ?_
  refine OL_nil ?_
  refine TC_seq ?_
  refine TC_seq ?_
  refine TC_region ?_
  refine OL_pure rfl rfl rfl (LO.pure rfl ent24 rfl (fun w _ => dhead_gives w)) ?_
  refine OL_sil rfl rfl rfl (Sil.not rfl rfl) ?_
  refine OL_nil ?_
  refine TC_no rfl ?_
  refine TC_skip ?_
  refine TC_seq ?_
  refine TC_region ?_
  refine OL_sil rfl rfl rfl (by first | exact Sil.ownV rfl rfl (by first | exact at0 | exact at1 | exact at2 | exact at3 | exact at4 | exact at5 | exact at6 | exact at7 | exact at8 | exact at9 | exact at10 | exact at11 | exact at12 | exact at13 | exact at14 | exact at15) Try.underlying43 rfl (by rfl) | exact Sil.wholeV rfl rfl (by first | exact at0 | exact at1 | exact at2 | exact at3 | exact at4 | exact at5 | exact at6 | exact at7 | exact at8 | exact at9 | exact at10 | exact at11 | exact at12 | exact at13 | exact at14 | exact at15) ⟨Try.underlying43, rfl⟩ rfl (by rfl)) ?_
  refine OL_pure rfl rfl rfl (LO.pure rfl ent25 rfl (fun w _ => Right_val p true (decide_eq_true hp) w)) ?_
  refine OL_sil rfl rfl rfl (Sil.assign rfl rfl) ?_
  refine OL_nil ?_
  refine TC_seq ?_
  refine TC_region ?_
  refine OL_sil rfl rfl rfl (by first | exact Sil.ownV rfl rfl (by first | exact at0 | exact at1 | exact at2 | exact at3 | exact at4 | exact at5 | exact at6 | exact at7 | exact at8 | exact at9 | exact at10 | exact at11 | exact at12 | exact at13 | exact at14 | exact at15) Try.underlying43 rfl (by rfl) | exact Sil.wholeV rfl rfl (by first | exact at0 | exact at1 | exact at2 | exact at3 | exact at4 | exact at5 | exact at6 | exact at7 | exact at8 | exact at9 | exact at10 | exact at11 | exact at12 | exact at13 | exact at14 | exact at15) ⟨Try.underlying43, rfl⟩ rfl (by rfl)) ?_
  refine OL_sil rfl rfl rfl (Sil.move rfl rfl) ?_
  refine OL_sil rfl rfl rfl (Sil.move rfl rfl) ?_
  refine OL_loud rfl rfl rfl (LO.calls rfl ent26 rfl (fun w _ => dNew_no p cl s hs (fun h => hc h.2) w)) ?_
  rintro _ _ ⟨_, ⟨rfl, rfl⟩, rfl⟩
  refine OL_sil rfl rfl rfl (Sil.move rfl rfl) ?_
  refine OL_sil rfl rfl rfl (Sil.extract rfl rfl rfl) ?_
  refine OL_sil rfl rfl rfl (Sil.extract rfl rfl rfl) ?_
  refine OL_sil rfl rfl rfl (Sil.assign rfl rfl) ?_
  refine OL_sil rfl rfl rfl (Sil.assign rfl rfl) ?_
  refine OL_nil ?_
  refine TC_seq ?_
  refine TC_seq ?_
  refine TC_region ?_
  refine OL_sil rfl rfl rfl (by first | exact Sil.ownV rfl rfl (by first | exact at0 | exact at1 | exact at2 | exact at3 | exact at4 | exact at5 | exact at6 | exact at7 | exact at8 | exact at9 | exact at10 | exact at11 | exact at12 | exact at13 | exact at14 | exact at15) Try.underlying43 rfl (by rfl) | exact Sil.wholeV rfl rfl (by first | exact at0 | exact at1 | exact at2 | exact at3 | exact at4 | exact at5 | exact at6 | exact at7 | exact at8 | exact at9 | exact at10 | exact at11 | exact at12 | exact at13 | exact at14 | exact at15) ⟨Try.underlying43, rfl⟩ rfl (by rfl)) ?_
  refine OL_pure rfl rfl rfl (LO.pure rfl ent27 rfl (fun w _ => Check_yes p hp w)) ?_
  refine OL_sil rfl rfl rfl (Sil.eql rfl rfl rfl) ?_
  refine OL_sil rfl rfl rfl (Sil.move rfl rfl) ?_
  refine OL_sil rfl rfl rfl (Sil.neqB rfl rfl rfl Try.underlying4) ?_
  refine OL_slot 25 (v := .bool false) rfl rfl ?_
  refine OL_sil rfl rfl rfl (Sil.move rfl rfl) ?_
  refine OL_sil rfl rfl rfl (Sil.move rfl rfl) ?_
  refine OL_sil rfl rfl rfl (Sil.not rfl rfl) ?_
  refine OL_sil rfl rfl rfl (Sil.move rfl rfl) ?_
  refine OL_skip rfl rfl rfl ?_
  refine OL_skip rfl rfl rfl ?_
  refine OL_skip rfl rfl rfl ?_
  refine OL_sil rfl rfl rfl (Sil.pick0 rfl rfl rfl) ?_
  refine OL_sil rfl rfl rfl (Sil.pick0 rfl rfl rfl) ?_
  refine OL_nil ?_
  refine TC_no rfl ?_
  refine TC_skip ?_
  refine TC_seq ?_
  refine TC_seq ?_
  refine TC_region ?_
  refine OL_sil rfl rfl rfl (Sil.move rfl rfl) ?_
  refine OL_sil rfl rfl rfl (Sil.not rfl rfl) ?_
  refine OL_sil rfl rfl rfl (Sil.move rfl rfl) ?_
  refine OL_sil rfl rfl rfl (Sil.move rfl rfl) ?_
  refine OL_sil rfl rfl rfl (Sil.lss rfl rfl rfl) ?_
  refine OL_sil rfl rfl rfl (Sil.pick0 rfl rfl rfl) ?_
  refine OL_sil rfl rfl rfl (Sil.move rfl rfl) ?_
  refine OL_dec 41 rfl (fun ht41 => ?_) (fun ht41 => ?_)
  · refine OL_skip rfl rfl rfl ?_
    refine OL_skip rfl rfl rfl ?_
    refine OL_sil rfl rfl rfl (Sil.pick1 rfl rfl rfl) ?_
    refine OL_nil ?_
    refine TC_yes rfl ?_
    refine TC_seq ?_
    refine TC_region ?_
    refine OL_sil rfl rfl rfl (Sil.move rfl rfl) ?_
    refine OL_sil rfl rfl rfl (Sil.eql rfl rfl rfl) ?_
    refine OL_sil rfl rfl rfl (Sil.move rfl rfl) ?_
    refine OL_dec 47 rfl (fun ht47 => ?_) (fun ht47 => ?_)
    · refine OL_sil rfl rfl rfl (Sil.move rfl rfl) ?_
      refine OL_sil rfl rfl rfl (Sil.eqlNil rfl rfl rfl Try.underlying46) ?_
      refine OL_sil rfl rfl rfl (Sil.pick1 rfl rfl rfl) ?_
      refine OL_sil rfl rfl rfl (Sil.move rfl rfl) ?_
      refine OL_sil rfl rfl rfl (Sil.move rfl rfl) ?_
      refine OL_pure rfl rfl rfl (LO.pure rfl ent28 rfl (fun w _ => dNil_gives w)) ?_
      refine OL_sil rfl rfl rfl (Sil.lenSl rfl rfl Try.underlying51) ?_
      refine OL_sil rfl rfl rfl (Sil.eql rfl rfl rfl) ?_
      refine OL_sil rfl rfl rfl (Sil.pick1 rfl rfl rfl) ?_
      refine OL_sil rfl rfl rfl (Sil.assign rfl rfl) ?_
      refine OL_nil ?_
      refine TC_ret ?_
      exact ret1 rfl rfl ⟨congrArg Value.bool (decide_eq_true rfl), rfl⟩
    · exact absurd rfl ht47
  · refine OL_sil rfl rfl rfl (Sil.move rfl rfl) ?_
    refine OL_sil rfl rfl rfl (Sil.gtr rfl rfl rfl) ?_
    refine OL_sil rfl rfl rfl (Sil.pick0 rfl rfl rfl) ?_
    refine OL_nil ?_
    refine TC_if rfl (fun ht44 => ?_) (fun ht44 => ?_)
    · refine TC_seq ?_
      refine TC_region ?_
      refine OL_sil rfl rfl rfl (Sil.move rfl rfl) ?_
      refine OL_sil rfl rfl rfl (Sil.eql rfl rfl rfl) ?_
      refine OL_sil rfl rfl rfl (Sil.move rfl rfl) ?_
      refine OL_dec 47 rfl (fun ht47 => ?_) (fun ht47 => ?_)
      · refine OL_sil rfl rfl rfl (Sil.move rfl rfl) ?_
        refine OL_sil rfl rfl rfl (Sil.eqlNil rfl rfl rfl Try.underlying46) ?_
        refine OL_sil rfl rfl rfl (Sil.pick1 rfl rfl rfl) ?_
        refine OL_sil rfl rfl rfl (Sil.move rfl rfl) ?_
        refine OL_sil rfl rfl rfl (Sil.move rfl rfl) ?_
        refine OL_pure rfl rfl rfl (LO.pure rfl ent28 rfl (fun w _ => dNil_gives w)) ?_
        refine OL_sil rfl rfl rfl (Sil.lenSl rfl rfl Try.underlying51) ?_
        refine OL_sil rfl rfl rfl (Sil.eql rfl rfl rfl) ?_
        refine OL_sil rfl rfl rfl (Sil.pick1 rfl rfl rfl) ?_
        refine OL_sil rfl rfl rfl (Sil.assign rfl rfl) ?_
        refine OL_nil ?_
        refine TC_ret ?_
        exact ret1 rfl rfl ⟨congrArg Value.bool (decide_eq_true rfl), rfl⟩
      · exact absurd rfl ht47
    · omega
theorem DrawPlans_gives (p : PlD) (cl : Int) (s : Nat) (hs : s < 18446744073709551616) (w0 : World) : Gives Try.prog 9 [agI p.is, .int .i64 cl, .int .u64 s] w0 [] fun v h => v = .bool true ∧ h = [] := by
  by_cases hp : okP p
  · by_cases hc : 1 ≤ cl ∧ cl ≤ 16
    · obtain ⟨c, rfl⟩ := Int.eq_ofNat_of_zero_le (show 0 ≤ cl by omega)
      exact DrawPlans_ok p c s hs hp (by omega) w0
    · exact DrawPlans_noc p cl s hs hp hc w0
  · exact DrawPlans_nop p cl s hs hp w0
end Go.Proofs.Ytccmgmjfcfacoaa
