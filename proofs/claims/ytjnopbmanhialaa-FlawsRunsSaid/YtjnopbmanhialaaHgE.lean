/-
  Walk: FlawsMore.
-/
import Derived.Test.YtjnopbmanhialaaHgD
namespace Go.Proofs.Ytjnopbmanhialaa
open Go.Cru

/-- No shorter, and each one's transaction and read come again. -/
def Le2 (xs ys : List OpD) : Prop := xs.length ≤ ys.length ∧ ∀ x ∈ xs, ∃ y ∈ ys, x.k = y.k ∧ x.key = y.key
theorem Le2.app {xs ys xs' ys' : List OpD} (h : Le2 xs ys) (h' : Le2 xs' ys') : Le2 (xs ++ xs') (ys ++ ys') := by
  refine ⟨by have := h.1; have := h'.1; rw [List.length_append, List.length_append]; omega, fun x hx => ?_⟩
  rcases List.mem_append.1 hx with hx | hx
  · obtain ⟨y, hy, e⟩ := h.2 x hx; exact ⟨y, List.mem_append_left _ hy, e⟩
  · obtain ⟨y, hy, e⟩ := h'.2 x hx; exact ⟨y, List.mem_append_right _ hy, e⟩
theorem flR_le {f f' : OpD → Int} {i : Nat} {rs : List OpD} (h : ∀ o, f o ≠ 0 → f' o ≠ 0) : ∀ k, Le2 (flR f i rs k) (flR f' i rs k)
  | 0 => ⟨Nat.le_refl _, fun x hx => by cases hx⟩
  | k + 1 => by
    have ih := flR_le (i := i) (rs := rs) h k
    cases ho : rs[k]? with
    | none => rw [flR, flR, ho]; exact ih
    | some o =>
      by_cases h1 : f o = 0
      · rw [flR_stay ho h1]
        by_cases h2 : f' o = 0
        · rw [flR_stay ho h2]; exact ih
        · rw [flR_put ho rfl h2]
          have := ih.app (xs' := []) (ys' := [⟨i, k, f' o⟩]) ⟨Nat.zero_le _, fun x hx => by cases hx⟩
          rwa [List.append_nil] at this
      · rw [flR_put ho rfl h1, flR_put ho rfl (h o h1)]
        exact ih.app ⟨Nat.le_refl _, fun x hx => ⟨_, List.mem_singleton.2 rfl, by rw [List.mem_singleton.1 hx]; exact ⟨rfl, rfl⟩⟩⟩
theorem flN_le {kf kf' : Nat → OpD → Int} {ts ts' : List RcD} (hr : ∀ (i : Nat) (t : RcD), ts[i]? = some t → ∃ t', ts'[i]? = some t' ∧ rdF t' = rdF t) (h : ∀ i o, kf i o ≠ 0 → kf' i o ≠ 0) : ∀ i, i ≤ ts.length → Le2 (flN kf ts i) (flN kf' ts' i)
  | 0, _ => ⟨Nat.le_refl _, fun x hx => by cases hx⟩
  | i + 1, hi => by
    have ih := flN_le hr h i (by omega)
    obtain ⟨t, ht⟩ : ∃ t, ts[i]? = some t := ⟨_, List.getElem?_eq_getElem (by omega)⟩
    obtain ⟨t', ht', hrd⟩ := hr i t ht
    rw [flN_succ ht, flN_succ ht', hrd]
    exact ih.app (flR_le (h i) _)
theorem byN_ops {ts ts' : List RcD} (h : ts'.map RcD.ops = ts.map RcD.ops) (p : Int × Int) : ∀ i, byN ts' i p = byN ts i p
  | 0 => rfl
  | i + 1 => by
    have ih := byN_ops h p i
    have h1 : (ts'[i]?).map RcD.ops = (ts[i]?).map RcD.ops := by rw [← List.getElem?_map, ← List.getElem?_map, h]
    cases ht : ts[i]? with
    | none =>
      rw [ht] at h1
      have ht' : ts'[i]? = none := by cases h2 : ts'[i]? with
        | none => rfl
        | some _ => rw [h2] at h1; cases h1
      rw [byN, byN, ht, ht']; exact ih
    | some t =>
      rw [ht] at h1
      obtain ⟨t', ht', ho⟩ := Option.map_eq_some_iff.1 h1
      rw [byN, byN, ht, ht']
      simp only [ho, ih]
theorem byI_ops {ts ts' : List RcD} (h : ts'.map RcD.ops = ts.map RcD.ops) (p : Int × Int) : byI ts' p = byI ts p := by
  unfold byI
  have hl : ts'.length = ts.length := by have := congrArg List.length h; simpa using this
  rw [hl, byN_ops h]
theorem any_ops (g : List OpD → Bool) {ts ts' : List RcD} (h : ts'.map RcD.ops = ts.map RcD.ops) (i : Nat) : ((ts'.take i).any fun t => g t.ops) = ((ts.take i).any fun t => g t.ops) := by
  have key : ∀ xs : List RcD, ((xs.take i).any fun t => g t.ops) = ((xs.map RcD.ops).take i).any g := fun xs => by
    rw [← List.map_take, List.any_map]
    rfl
  rw [key, key, h]
theorem laN_ops {ts ts' : List RcD} (h : ts'.map RcD.ops = ts.map RcD.ops) (i : Nat) (p : Int × Int) : laN ts' i p = laN ts i p :=
  any_ops (fun ops => laHas (wrN ops 16) (wrN ops 16).length p) h i
theorem set_ops {ts : List RcD} {w : Nat} {t : RcD} (ht : ts[w]? = some t) (q : Int) : (ts.set w ⟨t.p, q, t.ops⟩).map RcD.ops = ts.map RcD.ops := by
  apply List.ext_getElem?
  intro j
  rw [List.getElem?_map, List.getElem?_map, List.getElem?_set]
  have hlt := ltOf ht
  by_cases e : w = j
  · subst e; rw [if_pos rfl, if_pos hlt, ht]; rfl
  · rw [if_neg e]
theorem more_kind {ts : List RcD} {w : Nat} {t : RcD} (ht : ts[w]? = some t) (i : Nat) (o : OpD) (h : kindA ts i o ≠ 0) : kindA (ts.set w ⟨t.p, 2, t.ops⟩) i o ≠ 0 := by
  have hops := set_ops ht 2
  have hlt := ltOf ht
  unfold kindA kindG at h ⊢
  rw [byI_ops hops, List.length_set, laN_ops hops]
  by_cases h0 : o.val = 0
  · rw [if_pos h0] at h; exact absurd rfl h
  · rw [if_neg h0] at h ⊢
    by_cases h1 : byI ts (o.key, o.val) < 0 ∨ byI ts (o.key, o.val) = i
    · rw [if_pos h1]; decide
    · rw [if_neg h1] at h ⊢
      by_cases e : w = (byI ts (o.key, o.val)).toNat
      · rw [← e, List.getElem?_set_self hlt, if_pos (show Option.map RcD.q (some ⟨t.p, 2, t.ops⟩) = some 2 from rfl)]
        decide
      · rw [List.getElem?_set, if_neg e]; exact h
theorem more_le {ts : List RcD} {w : Nat} {t : RcD} (ht : ts[w]? = some t) (hq : t.q = 0) : Le2 (flN (kindA ts) ts ts.length) (flN (kindA (ts.set w ⟨t.p, 2, t.ops⟩)) (ts.set w ⟨t.p, 2, t.ops⟩) (ts.set w ⟨t.p, 2, t.ops⟩).length) := by
  rw [List.length_set]
  have hlt := ltOf ht
  refine flN_le (fun i s hs => ?_) (more_kind ht) ts.length (Nat.le_refl _)
  by_cases e : w = i
  · subst e
    rw [ht] at hs
    cases hs
    refine ⟨_, List.getElem?_set_self hlt, ?_⟩
    unfold rdF
    rw [if_neg (show ¬ (2 : Int) = 1 by decide), if_neg (by omega)]
  · exact ⟨s, by rw [List.getElem?_set, if_neg e]; exact hs, rfl⟩
theorem more_sure {ts : List RcD} {w : Nat} {t : RcD} (ht : ts[w]? = some t) (wf : OpD → Int) (n : Nat) : gN wf (ts.set w ⟨t.p, 2, t.ops⟩) n w = false := by
  unfold gN
  rw [qOf_at (List.getElem?_set_self (ltOf ht))]
  simp
/-- Does one of the first j stand at the same transaction and read? -/
def fnI (G : List OpD) (f : OpD) (j : Nat) : Int := hn ((G.take j).any fun g => decide (f.k = g.k ∧ f.key = g.key))
theorem fnI_succ {G : List OpD} {j : Nat} {g : OpD} (hg : G[j]? = some g) (f : OpD) : fnI G f (j + 1) = 1 ↔ (fnI G f j = 1 ∨ f.k = g.k ∧ f.key = g.key) := by
  unfold fnI
  rw [List.take_add_one, hg, Option.toList, List.any_append, hn_or]
  simp [hn]
theorem fnI_hit {G : List OpD} {f : OpD} (h : ∃ y ∈ G, f.k = y.k ∧ f.key = y.key) : fnI G f G.length = 1 := by
  obtain ⟨y, hy, e⟩ := h
  unfold fnI
  rw [hn_iff, List.take_length, List.any_eq_true]
  exact ⟨y, hy, decide_eq_true e⟩

theorem FlawsMore_ok (es : List RcD) (a : Option Addr) (cap : Nat) (which : Int) (w0 : World) (hx : RcsAt w0 a es) (h0 : errC es = 0) :
    Gives Try.prog 5 [.slice a es.length cap, .int .i64 which] w0 [] fun v h => v = .bool true ∧ h = [] := by
  have htl := txL_len es
  obtain ⟨m, hm⟩ : ∃ m : Nat, m = (which % 18446744073709551616).toNat &&& 1023 := ⟨_, rfl⟩
  refine gives_of Try.func5 rfl rfl rfl (Own.start w0) ?_
  refine TC_seq ?_
  refine TC_region ?_
  refine OL_sil rfl rfl rfl (Sil.assign rfl rfl) ?_
  refine OL_nil ?_
  refine TC_seq ?_
  refine TC_seq ?_
  refine TC_region ?_
  refine OL_pure rfl rfl rfl (LO.pure rfl ent15 rfl (fun w _ => head8_gives w)) ?_
  refine OL_sil rfl rfl rfl (Sil.not rfl rfl) ?_
  refine OL_nil ?_
  refine TC_no rfl ?_
  refine TC_skip ?_
  refine TC_seq ?_
  refine TC_seq ?_
  refine TC_region ?_
  refine OL_sil rfl rfl rfl (Sil.move rfl rfl) ?_
  refine OL_loud rfl rfl rfl (LO.calls rfl ent16 rfl (fun w hw => big8_gives es a cap w (hx.keep hw.keep))) ?_
  rintro _ _ ⟨_, ⟨bb, rfl, hbig, rfl⟩, rfl⟩
  refine OL_nil ?_
  refine TC_cond rfl (fun ht19 => ?_) (fun ht19 => ?_)
  · refine TC_seq ?_
    refine TC_region ?_
    refine OL_sil rfl rfl rfl (Sil.assign rfl rfl) ?_
    refine OL_nil ?_
    refine TC_ret ?_
    exact ret1 rfl rfl ⟨rfl, rfl⟩
  · obtain ⟨hb1, hb2⟩ := hbig ht19
    have hops : ∀ t ∈ txL es, t.ops.length ≤ 1000 := txL_ops fun e he => by have := hb2 e he; omega
    refine TC_skip ?_
    refine TC_seq ?_
    refine TC_region ?_
    refine OL_sil rfl rfl rfl (Sil.move rfl rfl) ?_
    refine OL_loud rfl rfl rfl (LO.calls rfl ent17 rfl (fun w hw => (refOf_gives es a cap w (hx.keep hw.keep)).mono (fun v h hR => hR.ok h0))) ?_
    rintro _ _ ⟨_, ⟨a1, c1, x1, r1, rfl, hx1, rfl, hl1⟩, rfl⟩
    refine OL_sil rfl rfl rfl (Sil.move rfl rfl) ?_
    refine OL_sil rfl rfl rfl (Sil.extract rfl rfl rfl) ?_
    refine OL_sil rfl rfl rfl (Sil.extract rfl rfl rfl) ?_
    refine OL_sil rfl rfl rfl (Sil.extract rfl rfl rfl) ?_
    refine OL_sil rfl rfl rfl (Sil.assign rfl rfl) ?_
    refine OL_sil rfl rfl rfl (Sil.assign rfl rfl) ?_
    refine OL_sil rfl rfl rfl (Sil.assign rfl rfl) ?_
    refine OL_nil ?_
    replace hx1 : x1.map (·.1) = txL es := hx1
    have hn1 : x1.length = (txL es).length := by rw [← hx1]; simp
    refine TC_slot 5 (v := .slice a1 (txL es).length c1) rfl (by rw [← hn1]) ?_
    refine TC_seq ?_
    refine TC_seq ?_
    refine TC_boolE [26, 27, 28, 29, 30, 31, 32] 32 (((txL es).length : Int) = 0) ?_ ?_
    · refine TC_region ?_
      refine OL_sil rfl rfl rfl (Sil.move rfl rfl) ?_
      refine OL_sil rfl rfl rfl (Sil.neq rfl rfl rfl) ?_
      refine OL_sil rfl rfl rfl (Sil.move rfl rfl) ?_
      refine OL_decn 28 rfl (fun ht28 => ?_) (fun ht28 => ?_)
      · refine OL_skip rfl rfl rfl ?_
        refine OL_skip rfl rfl rfl ?_
        refine OL_skip rfl rfl rfl ?_
        refine OL_sil rfl rfl rfl (Sil.pick1 rfl rfl rfl) ?_
        refine OL_nil ?_
        (refine Cont.then_intro (And.intro (by (repeat' (first | exact Ext.refl | refine Ext.cons rfl ?_))) (And.intro ?_ rfl)); first | exact slotV rfl (congrArg Value.bool (decide_eq_true (by omega)).symm) | exact slotV rfl (congrArg Value.bool (decide_eq_false (by omega)).symm) | exact slotV rfl (congrArg Value.bool (decide_eq_decide.2 (by omega))) | exact slotV rfl (congrArg Value.bool (decide_not.symm.trans (decide_eq_decide.2 (by omega)))))
      · refine OL_sil rfl rfl rfl (Sil.move rfl rfl) ?_
        refine OL_sil rfl rfl rfl (Sil.lenSl rfl rfl Try.underlying25) ?_
        refine OL_sil rfl rfl rfl (Sil.eql rfl rfl rfl) ?_
        refine OL_sil rfl rfl rfl (Sil.pick0 rfl rfl rfl) ?_
        refine OL_nil ?_
        (refine Cont.then_intro (And.intro (by (repeat' (first | exact Ext.refl | refine Ext.cons rfl ?_))) (And.intro ?_ rfl)); first | exact slotV rfl (congrArg Value.bool (decide_eq_true (by omega)).symm) | exact slotV rfl (congrArg Value.bool (decide_eq_false (by omega)).symm) | exact slotV rfl (congrArg Value.bool (decide_eq_decide.2 (by omega))) | exact slotV rfl (congrArg Value.bool (decide_not.symm.trans (decide_eq_decide.2 (by omega)))))
    refine TC_if rfl (fun ht32 => ?_) (fun ht32 => ?_)
    · refine TC_seq ?_
      refine TC_region ?_
      refine OL_sil rfl rfl rfl (Sil.assign rfl rfl) ?_
      refine OL_nil ?_
      refine TC_ret ?_
      exact ret1 rfl rfl ⟨rfl, rfl⟩
    · obtain ⟨wi, hwi⟩ : ∃ wi : Nat, wi = m % (txL es).length := ⟨_, rfl⟩
      have hwl : wi < (txL es).length := by rw [hwi]; exact Nat.mod_lt _ (by omega)
      obtain ⟨⟨tr, u⟩, hxw⟩ : ∃ x, x1[wi]? = some x := ⟨_, List.getElem?_eq_getElem (by omega)⟩
      have htr : (txL es)[wi]? = some tr := by rw [← hx1, List.getElem?_map, hxw]; rfl
      refine TC_know (fun w hw => hw.sqSome (i := 0) rfl (by omega)) (fun hsome => ?_)
      obtain ⟨g5, rfl⟩ := hsome
      refine TC_skip ?_
      refine TC_seq ?_
      refine TC_region ?_
      refine OL_sil rfl rfl rfl (Sil.move rfl rfl) ?_
      refine OL_sil rfl rfl rfl (Sil.andw (j := 1023) rfl rfl rfl (by decide)) ?_
      refine OL_slot 34 (v := .int .i64 (m : Int)) rfl (by rw [hm]) ?_
      refine OL_sil rfl rfl rfl (Sil.move rfl rfl) ?_
      refine OL_sil rfl rfl rfl (Sil.lenSl rfl rfl Try.underlying25) ?_
      refine OL_sil rfl rfl rfl (Sil.rem rfl rfl rfl (by omega) (by omega)) ?_
      refine OL_slot 37 (v := .int .i64 (wi : Int)) rfl (congrArg _ (by rw [hwi]; push_cast; rfl)) ?_
      refine OL_sil rfl rfl rfl (Sil.assign rfl rfl) ?_
      refine OL_nil ?_
      refine TC_seq ?_
      refine TC_seq ?_
      refine TC_region ?_
      refine OL_sil rfl rfl rfl (Sil.move rfl rfl) ?_
      refine OL_sil rfl rfl rfl (Sil.move rfl rfl) ?_
      refine OL_sil rfl rfl rfl (Sil.indexOwn wi rfl rfl rfl Try.underlying25 rfl rfl (by omega)) ?_
      refine OL_sil rfl rfl rfl (Sil.fieldLoc 1 rfl rfl Try.underlying43 rfl rfl) ?_
      refine OL_sil rfl rfl rfl (Sil.sqLoad 0 rfl rfl rfl Try.underlying3 rfl (rvsC_at hxw 1 _ rfl)) ?_
      refine OL_sil rfl rfl rfl (Sil.neq rfl rfl rfl) ?_
      refine OL_nil ?_
      refine TC_ifn rfl (fun ht43 => ?_) (fun ht43 => ?_)
      · refine TC_seq ?_
        refine TC_region ?_
        refine OL_sil rfl rfl rfl (Sil.assign rfl rfl) ?_
        refine OL_nil ?_
        refine TC_ret ?_
        exact ret1 rfl rfl ⟨rfl, rfl⟩
      · refine TC_skip ?_
        refine TC_seq ?_
        refine TC_region ?_
        refine OL_sil rfl rfl rfl (Sil.move rfl rfl) ?_
        refine OL_loud rfl rfl rfl (LO.calls rfl ent18 rfl (fun w hw => All_gives (txL es) (some ⟨g5, 0, none⟩) c1 w (hx1 ▸ RcsAt.of_sq (hw.mine _ (List.mem_of_getElem? (i := 0) rfl)) (hw.mine _ (List.mem_of_getElem? (i := 1) rfl)) hl1) (by omega) hops)) ?_
        rintro _ _ ⟨_, ⟨a3, c3, rfl, rfl⟩, rfl⟩
        refine OL_sil rfl rfl rfl (Sil.assign rfl rfl) ?_
        refine OL_nil ?_
        refine TC_seq ?_
        refine TC_region ?_
        refine OL_sil rfl rfl rfl (Sil.move rfl rfl) ?_
        refine OL_sil rfl rfl rfl (Sil.move rfl rfl) ?_
        refine OL_sil rfl rfl rfl (Sil.indexOwn wi rfl rfl rfl Try.underlying25 rfl rfl (by omega)) ?_
        refine OL_sil rfl rfl rfl (Sil.fieldLoc 1 rfl rfl Try.underlying43 rfl rfl) ?_
        refine OL_loud0 rfl rfl (LO.sqStoreAs 0 rfl rfl rfl rfl rfl rfl rfl (by show wi * 3 + 1 < x1.length * 3; omega) (rvsC_set1 hxw 2)) ?_
        rintro _ _ ⟨rfl, rfl⟩
        refine OL_nil ?_
        have hq0 : tr.q = 0 := by omega
        obtain ⟨x2, hx2⟩ : ∃ x2, x2 = x1.set wi (⟨tr.p, 2, tr.ops⟩, u) := ⟨_, rfl⟩
        obtain ⟨T, hT⟩ : ∃ T, T = (txL es).set wi ⟨tr.p, 2, tr.ops⟩ := ⟨_, rfl⟩
        have hxT : x2.map (·.1) = T := by rw [hx2, hT, List.map_set, hx1]
        have hTl : T.length = (txL es).length := by rw [hT, List.length_set]
        have hx2l : x2.length = x1.length := by rw [hx2, List.length_set]
        have hl2 : ∀ x ∈ x2, Lies 40 r1 x := by
          rw [hx2]
          exact lies_set hl1 (fun r hr => hr) (lies_sq (p := tr.p) (q := 2) (hl1 _ (List.mem_of_getElem? hxw)) rfl)
        have hops2 : ∀ t ∈ T, t.ops.length ≤ 1000 := fun t ht => by
          rw [hT] at ht
          rcases List.mem_or_eq_of_mem_set ht with ht | rfl
          · exact hops t ht
          · exact hops tr (List.mem_of_getElem? htr)
        have hle := more_le htr hq0
        rw [← hT] at hle
        have hsw : gN (wfA T) T T.length wi = false := by rw [hT]; exact more_sure htr _ _
        obtain ⟨F, hF⟩ : ∃ F, F = flN (kindA (txL es)) (txL es) (txL es).length := ⟨_, rfl⟩
        have hFl : F.length ≤ 1000 * 1000 := by rw [hF]; exact Nat.le_trans (flN_len hops _) (Nat.mul_le_mul_right 1000 (by omega))
        rw [← hF] at hle ⊢
        refine TC_slot 5 (v := .slice (some ⟨g5, 0, none⟩) T.length c1) rfl (by rw [hTl]) ?_
        refine TC_own (h' := [sq (some ⟨g5, 0, none⟩) x2.length c1 43 3 (rvsC x2), bagR r1, sq a3 F.length c3 33 3 (opsC F)]) (fun w hw => by rw [hx2l, hx2]; exact hw) ?_
        refine TC_seq ?_
        refine TC_region ?_
        refine OL_sil rfl rfl rfl (Sil.move rfl rfl) ?_
        refine OL_loud rfl rfl rfl (LO.calls rfl ent18 rfl (fun w hw => All_gives T (some ⟨g5, 0, none⟩) c1 w (hxT ▸ RcsAt.of_sq (hw.mine _ (List.mem_of_getElem? (i := 0) rfl)) (hw.mine _ (List.mem_of_getElem? (i := 1) rfl)) hl2) (by omega) hops2)) ?_
        rintro _ _ ⟨_, ⟨a4, c4, rfl, rfl⟩, rfl⟩
        refine OL_sil rfl rfl rfl (Sil.assign rfl rfl) ?_
        refine OL_nil ?_
        obtain ⟨G, hG⟩ : ∃ G, G = flN (kindA T) T T.length := ⟨_, rfl⟩
        have hGl : G.length ≤ 1000 * 1000 := by rw [hG]; exact Nat.le_trans (flN_len hops2 _) (Nat.mul_le_mul_right 1000 (by omega))
        rw [← hG] at hle ⊢
        have hle1 := hle.1
        refine TC_seq ?_
        refine TC_seq ?_
        refine TC_region ?_
        refine OL_sil rfl rfl rfl (Sil.move rfl rfl) ?_
        refine OL_sil rfl rfl rfl (Sil.lenSl rfl rfl Try.underlying28) ?_
        refine OL_sil rfl rfl rfl (Sil.move rfl rfl) ?_
        refine OL_nil ?_
        refine TC_block ?_
        refine TC_loop (fun i : Nat => [(1, .int .i64 wi), (5, .slice (some ⟨g5, 0, none⟩) T.length c1), (8, .slice a3 F.length c3), (9, .slice a4 G.length c4), (52, .slice a3 F.length c3), (53, .int .i64 F.length), (54, .int .i64 i)]) (fun _ => [sq (some ⟨g5, 0, none⟩) x2.length c1 43 3 (rvsC x2), bagR r1, sq a3 F.length c3 33 3 (opsC F), sq a4 G.length c4 33 3 (opsC G)]) (fun i => i ≤ F.length) (fun i => F.length - i) 0 ?_ ?_
        · exact ⟨Nat.zero_le _, ⟨rfl, rfl, rfl, rfl, rfl, rfl, rfl, trivial⟩, List.Sublist.refl _⟩
        · intro i hi
          refine TC_seq ?_
          refine TC_region ?_
          refine OL_sil rfl rfl rfl (Sil.lss rfl rfl rfl) ?_
          refine OL_nil ?_
          refine TC_seq ?_
          refine TC_if rfl (fun ht55 => ?_) (fun ht55 => ?_)
          · obtain ⟨f, hf⟩ : ∃ f, F[i]? = some f := ⟨_, List.getElem?_eq_getElem (by omega)⟩
            refine TC_know (fun w hw => hw.sqSome (i := 2) rfl (by omega)) (fun hsome => ?_)
            obtain ⟨g6, rfl⟩ := hsome
            refine TC_skip ?_
            refine TC_seq ?_
            refine TC_block ?_
            refine TC_seq ?_
            refine TC_region ?_
            refine OL_sil rfl rfl rfl (Sil.indexOwn i rfl rfl rfl Try.underlying28 rfl rfl (by omega)) ?_
            refine OL_sil rfl rfl rfl (Sil.sqLoadN 2 rfl rfl rfl Try.underlying33 rfl rfl rfl (opsC_at hf)) ?_
            refine OL_loud rfl rfl rfl (LO.alloc rfl rfl) ?_
            rintro _ _ ⟨b11, _, rfl, rfl⟩
            refine OL_loud0 rfl rfl (by first | exact LO.storeAllV rfl rfl rfl (by first | exact at0 | exact at1 | exact at2 | exact at3 | exact at4 | exact at5 | exact at6 | exact at7 | exact at8 | exact at9 | exact at10 | exact at11 | exact at12 | exact at13 | exact at14 | exact at15) (by rfl) (by rfl) (by rfl) (by rfl) | exact LO.store1V rfl rfl rfl (by first | exact at0 | exact at1 | exact at2 | exact at3 | exact at4 | exact at5 | exact at6 | exact at7 | exact at8 | exact at9 | exact at10 | exact at11 | exact at12 | exact at13 | exact at14 | exact at15) (by rfl) (by rfl) (by rfl)) ?_
            rintro _ _ ⟨rfl, rfl⟩
            refine OL_nil ?_
            refine TC_seq ?_
            refine TC_region ?_
            refine OL_sil rfl rfl rfl (Sil.assign rfl rfl) ?_
            refine OL_nil ?_
            refine TC_seq ?_
            refine TC_seq ?_
            refine TC_region ?_
            refine OL_sil rfl rfl rfl (Sil.move rfl rfl) ?_
            refine OL_sil rfl rfl rfl (Sil.lenSl rfl rfl Try.underlying28) ?_
            refine OL_sil rfl rfl rfl (Sil.move rfl rfl) ?_
            refine OL_nil ?_
            refine TC_block ?_
            refine TC_loop (fun j : Nat => [(1, .int .i64 wi), (5, .slice (some ⟨g5, 0, none⟩) T.length c1), (8, .slice (some ⟨g6, 0, none⟩) F.length c3), (9, .slice a4 G.length c4), (11, .pointer (some ⟨b11, 0, none⟩)), (12, .bool (decide (fnI G f j = 1))), (52, .slice (some ⟨g6, 0, none⟩) F.length c3), (53, .int .i64 F.length), (54, .int .i64 i), (58, .slice a4 G.length c4), (59, .int .i64 G.length), (60, .int .i64 j)]) (fun _ => [sq (some ⟨g5, 0, none⟩) x2.length c1 43 3 (rvsC x2), bagR r1, sq (some ⟨g6, 0, none⟩) F.length c3 33 3 (opsC F), sq a4 G.length c4 33 3 (opsC G), blk b11 (.cells (iv f.is).toArray 33 (0, 0))]) (fun j => j ≤ G.length) (fun j => G.length - j) 0 ?_ ?_
            · exact ⟨Nat.zero_le _, ⟨rfl, rfl, rfl, rfl, rfl, rfl, rfl, rfl, rfl, rfl, rfl, rfl, trivial⟩, List.Sublist.refl _⟩
            · intro j hj
              refine TC_seq ?_
              refine TC_region ?_
              refine OL_sil rfl rfl rfl (Sil.lss rfl rfl rfl) ?_
              refine OL_nil ?_
              refine TC_seq ?_
              refine TC_if rfl (fun ht61 => ?_) (fun ht61 => ?_)
              · obtain ⟨g, hg⟩ : ∃ g, G[j]? = some g := ⟨_, List.getElem?_eq_getElem (by omega)⟩
                refine TC_know (fun w hw => hw.sqSome (i := 3) rfl (by omega)) (fun hsome => ?_)
                obtain ⟨g7, rfl⟩ := hsome
                refine TC_skip ?_
                refine TC_seq ?_
                refine TC_block ?_
                refine TC_seq ?_
                refine TC_region ?_
                refine OL_sil rfl rfl rfl (Sil.indexOwn j rfl rfl rfl Try.underlying28 rfl rfl (by omega)) ?_
                refine OL_sil rfl rfl rfl (Sil.sqLoadN 3 rfl rfl rfl Try.underlying33 rfl rfl rfl (opsC_at hg)) ?_
                refine OL_loud rfl rfl rfl (LO.alloc rfl rfl) ?_
                rintro _ _ ⟨b14, _, rfl, rfl⟩
                refine OL_loud0 rfl rfl (by first | exact LO.storeAllV rfl rfl rfl (by first | exact at0 | exact at1 | exact at2 | exact at3 | exact at4 | exact at5 | exact at6 | exact at7 | exact at8 | exact at9 | exact at10 | exact at11 | exact at12 | exact at13 | exact at14 | exact at15) (by rfl) (by rfl) (by rfl) (by rfl) | exact LO.store1V rfl rfl rfl (by first | exact at0 | exact at1 | exact at2 | exact at3 | exact at4 | exact at5 | exact at6 | exact at7 | exact at8 | exact at9 | exact at10 | exact at11 | exact at12 | exact at13 | exact at14 | exact at15) (by rfl) (by rfl) (by rfl)) ?_
                rintro _ _ ⟨rfl, rfl⟩
                refine OL_nil ?_
                refine TC_boolE [64, 65, 66, 67, 68, 69, 70, 71, 72, 73, 74, 75, 76, 77, 78, 12] 12 (fnI G f j = 1 ∨ f.k = g.k ∧ f.key = g.key) ?_ ?_
                · refine TC_region ?_
                  refine OL_sil rfl rfl rfl (Sil.move rfl rfl) ?_
                  refine OL_sil rfl rfl rfl (Sil.move rfl rfl) ?_
                  refine OL_cases 65 rfl (fun ht65 => ?_) (fun ht65 => ?_)
                  · have ht65 := of_decide_eq_true ht65
                    refine OL_skip rfl rfl rfl ?_
                    refine OL_skip rfl rfl rfl ?_
                    refine OL_skip rfl rfl rfl ?_
                    refine OL_skip rfl rfl rfl ?_
                    refine OL_skip rfl rfl rfl ?_
                    refine OL_skip rfl rfl rfl ?_
                    refine OL_skip rfl rfl rfl ?_
                    refine OL_skip rfl rfl rfl ?_
                    refine OL_skip rfl rfl rfl ?_
                    refine OL_skip rfl rfl rfl ?_
                    refine OL_skip rfl rfl rfl ?_
                    refine OL_skip rfl rfl rfl ?_
                    refine OL_sil rfl rfl rfl (Sil.pick1 rfl rfl rfl) ?_
                    refine OL_sil rfl rfl rfl (Sil.assign rfl rfl) ?_
                    refine OL_nil ?_
                    (refine Cont.then_intro (And.intro (by (repeat' (first | exact Ext.refl | refine Ext.cons rfl ?_))) (And.intro ?_ rfl)); first | exact slotV rfl (congrArg Value.bool (decide_eq_true (by omega)).symm) | exact slotV rfl (congrArg Value.bool (decide_eq_false (by omega)).symm) | exact slotV rfl (congrArg Value.bool (decide_eq_decide.2 (by omega))) | exact slotV rfl (congrArg Value.bool (decide_not.symm.trans (decide_eq_decide.2 (by omega)))))
                  · have ht65 := of_decide_eq_false ht65
                    refine OL_sil rfl rfl rfl (Sil.fieldLoc 0 rfl rfl Try.underlying33 rfl rfl) ?_
                    refine OL_sil rfl rfl rfl (by exact Sil.ownV rfl rfl (by first | exact at0 | exact at1 | exact at2 | exact at3 | exact at4 | exact at5 | exact at6 | exact at7 | exact at8 | exact at9 | exact at10 | exact at11 | exact at12 | exact at13 | exact at14 | exact at15) Try.underlying3 rfl (by rfl)) ?_
                    refine OL_sil rfl rfl rfl (Sil.fieldLoc 0 rfl rfl Try.underlying33 rfl rfl) ?_
                    refine OL_sil rfl rfl rfl (by exact Sil.ownV rfl rfl (by first | exact at0 | exact at1 | exact at2 | exact at3 | exact at4 | exact at5 | exact at6 | exact at7 | exact at8 | exact at9 | exact at10 | exact at11 | exact at12 | exact at13 | exact at14 | exact at15) Try.underlying3 rfl (by rfl)) ?_
                    refine OL_sil rfl rfl rfl (Sil.eql rfl rfl rfl) ?_
                    refine OL_sil rfl rfl rfl (Sil.move rfl rfl) ?_
                    refine OL_dec 71 rfl (fun ht71 => ?_) (fun ht71 => ?_)
                    · refine OL_sil rfl rfl rfl (Sil.fieldLoc 1 rfl rfl Try.underlying33 rfl rfl) ?_
                      refine OL_sil rfl rfl rfl (by exact Sil.ownV rfl rfl (by first | exact at0 | exact at1 | exact at2 | exact at3 | exact at4 | exact at5 | exact at6 | exact at7 | exact at8 | exact at9 | exact at10 | exact at11 | exact at12 | exact at13 | exact at14 | exact at15) Try.underlying3 rfl (by rfl)) ?_
                      refine OL_sil rfl rfl rfl (Sil.fieldLoc 1 rfl rfl Try.underlying33 rfl rfl) ?_
                      refine OL_sil rfl rfl rfl (by exact Sil.ownV rfl rfl (by first | exact at0 | exact at1 | exact at2 | exact at3 | exact at4 | exact at5 | exact at6 | exact at7 | exact at8 | exact at9 | exact at10 | exact at11 | exact at12 | exact at13 | exact at14 | exact at15) Try.underlying3 rfl (by rfl)) ?_
                      refine OL_sil rfl rfl rfl (Sil.eql rfl rfl rfl) ?_
                      refine OL_sil rfl rfl rfl (Sil.pick1 rfl rfl rfl) ?_
                      refine OL_sil rfl rfl rfl (Sil.pick0 rfl rfl rfl) ?_
                      refine OL_sil rfl rfl rfl (Sil.assign rfl rfl) ?_
                      refine OL_nil ?_
                      (refine Cont.then_intro (And.intro (by (repeat' (first | exact Ext.refl | refine Ext.cons rfl ?_))) (And.intro ?_ rfl)); first | exact slotV rfl (congrArg Value.bool (decide_eq_true (by omega)).symm) | exact slotV rfl (congrArg Value.bool (decide_eq_false (by omega)).symm) | exact slotV rfl (congrArg Value.bool (decide_eq_decide.2 (by omega))) | exact slotV rfl (congrArg Value.bool (decide_not.symm.trans (decide_eq_decide.2 (by omega)))))
                    · refine OL_skip rfl rfl rfl ?_
                      refine OL_skip rfl rfl rfl ?_
                      refine OL_skip rfl rfl rfl ?_
                      refine OL_skip rfl rfl rfl ?_
                      refine OL_skip rfl rfl rfl ?_
                      refine OL_sil rfl rfl rfl (Sil.pick0 rfl rfl rfl) ?_
                      refine OL_sil rfl rfl rfl (Sil.pick0 rfl rfl rfl) ?_
                      refine OL_sil rfl rfl rfl (Sil.assign rfl rfl) ?_
                      refine OL_nil ?_
                      (refine Cont.then_intro (And.intro (by (repeat' (first | exact Ext.refl | refine Ext.cons rfl ?_))) (And.intro ?_ rfl)); first | exact slotV rfl (congrArg Value.bool (decide_eq_true (by omega)).symm) | exact slotV rfl (congrArg Value.bool (decide_eq_false (by omega)).symm) | exact slotV rfl (congrArg Value.bool (decide_eq_decide.2 (by omega))) | exact slotV rfl (congrArg Value.bool (decide_not.symm.trans (decide_eq_decide.2 (by omega)))))
                refine TC_region ?_
                refine OL_sil rfl rfl rfl (Sil.add rfl rfl rfl (by omega) (by omega)) ?_
                refine OL_sil rfl rfl rfl (Sil.move rfl rfl) ?_
                refine OL_nil ?_
                exact ⟨j + 1, ⟨by omega, ⟨rfl, rfl, rfl, rfl, rfl, slotV rfl (congrArg Value.bool (decide_eq_decide.2 (fnI_succ hg f).symm)), rfl, rfl, rfl, rfl, rfl, slotI rfl (by push_cast; rfl), trivial⟩, List.Sublist.cons_cons _ (List.Sublist.cons_cons _ (List.Sublist.cons_cons _ (List.Sublist.cons_cons _ (List.Sublist.cons_cons _ (List.nil_sublist _)))))⟩, by omega⟩
              · obtain rfl : j = G.length := by omega
                have hfn := fnI_hit (hle.2 f (List.mem_of_getElem? hf))
                refine TC_exit ?_
                refine TC_seq ?_
                refine TC_region ?_
                refine OL_sil rfl rfl rfl (Sil.move rfl rfl) ?_
                refine OL_sil rfl rfl rfl (Sil.not rfl rfl) ?_
                refine OL_nil ?_
                refine TC_cond rfl (fun ht81 => ?_) (fun ht81 => ?_)
                · exact absurd ht81 (by simp [hfn])
                · refine TC_skip ?_
                  refine TC_region ?_
                  refine OL_sil rfl rfl rfl (Sil.add rfl rfl rfl (by omega) (by omega)) ?_
                  refine OL_sil rfl rfl rfl (Sil.move rfl rfl) ?_
                  refine OL_nil ?_
                  exact ⟨i + 1, ⟨by omega, ⟨rfl, rfl, rfl, rfl, rfl, rfl, slotI rfl (by push_cast; rfl), trivial⟩, List.Sublist.cons_cons _ (List.Sublist.cons_cons _ (List.Sublist.cons_cons _ (List.Sublist.cons_cons _ (List.nil_sublist _))))⟩, by omega⟩
          · refine TC_exit ?_
            refine TC_seq ?_
            refine TC_region ?_
            refine OL_sil rfl rfl rfl (Sil.move rfl rfl) ?_
            refine OL_loud rfl rfl rfl (LO.calls rfl ent20 rfl (fun w hw => Sure_gives T (some ⟨g5, 0, none⟩) c1 w (hxT ▸ RcsAt.of_sq (hw.mine _ (List.mem_of_getElem? (i := 0) rfl)) (hw.mine _ (List.mem_of_getElem? (i := 1) rfl)) hl2) (by omega) hops2)) ?_
            rintro _ _ ⟨_, ⟨sb, rfl, rfl⟩, rfl⟩
            refine OL_sil rfl rfl rfl (Sil.assign rfl rfl) ?_
            refine OL_nil ?_
            refine TC_seq ?_
            refine TC_boolE [85, 86, 87, 88, 89, 90, 91, 92, 93, 94, 95, 96, 97, 98, 99, 100, 101, 102, 103, 4] 4 ((0 : Int) = 0) ?_ ?_
            · refine TC_region ?_
              refine OL_sil rfl rfl rfl (Sil.move rfl rfl) ?_
              refine OL_sil rfl rfl rfl (Sil.lenSl rfl rfl Try.underlying28) ?_
              refine OL_sil rfl rfl rfl (Sil.move rfl rfl) ?_
              refine OL_sil rfl rfl rfl (Sil.lenSl rfl rfl Try.underlying28) ?_
              refine OL_sil rfl rfl rfl (Sil.geq rfl rfl rfl) ?_
              refine OL_sil rfl rfl rfl (Sil.move rfl rfl) ?_
              refine OL_dec 90 rfl (fun ht90 => ?_) (fun ht90 => ?_)
              · refine OL_sil rfl rfl rfl (Sil.move rfl rfl) ?_
                refine OL_sil rfl rfl rfl (Sil.lenSl rfl rfl Try.underlying35) ?_
                refine OL_sil rfl rfl rfl (Sil.move rfl rfl) ?_
                refine OL_sil rfl rfl rfl (Sil.lenSl rfl rfl Try.underlying25) ?_
                refine OL_sil rfl rfl rfl (Sil.eql rfl rfl rfl) ?_
                refine OL_sil rfl rfl rfl (Sil.pick1 rfl rfl rfl) ?_
                refine OL_sil rfl rfl rfl (Sil.move rfl rfl) ?_
                refine OL_dec 97 rfl (fun ht97 => ?_) (fun ht97 => ?_)
                · refine OL_sil rfl rfl rfl (Sil.move rfl rfl) ?_
                  refine OL_sil rfl rfl rfl (Sil.move rfl rfl) ?_
                  refine OL_sil rfl rfl rfl (Sil.indexOwn1 wi rfl rfl rfl Try.underlying35 rfl rfl (by omega)) ?_
                  refine OL_sil rfl rfl rfl (Sil.own 4 rfl rfl rfl Try.underlying4 rfl (arrB_at _ _ wi (by omega))) ?_
                  refine OL_slot 101 (v := .bool false) rfl (congrArg Value.bool hsw) ?_
                  refine OL_sil rfl rfl rfl (Sil.not rfl rfl) ?_
                  refine OL_sil rfl rfl rfl (Sil.pick1 rfl rfl rfl) ?_
                  refine OL_sil rfl rfl rfl (Sil.assign rfl rfl) ?_
                  refine OL_nil ?_
                  (refine Cont.then_intro (And.intro (by (repeat' (first | exact Ext.refl | refine Ext.cons rfl ?_))) (And.intro ?_ rfl)); first | exact slotV rfl (congrArg Value.bool (decide_eq_true (by omega)).symm) | exact slotV rfl (congrArg Value.bool (decide_eq_false (by omega)).symm) | exact slotV rfl (congrArg Value.bool (decide_eq_decide.2 (by omega))) | exact slotV rfl (congrArg Value.bool (decide_not.symm.trans (decide_eq_decide.2 (by omega)))))
                · refine OL_skip rfl rfl rfl ?_
                  refine OL_skip rfl rfl rfl ?_
                  refine OL_skip rfl rfl rfl ?_
                  refine OL_skip rfl rfl rfl ?_
                  refine OL_skip rfl rfl rfl ?_
                  refine OL_sil rfl rfl rfl (Sil.pick0 rfl rfl rfl) ?_
                  refine OL_sil rfl rfl rfl (Sil.assign rfl rfl) ?_
                  refine OL_nil ?_
                  (refine Cont.then_intro (And.intro (by (repeat' (first | exact Ext.refl | refine Ext.cons rfl ?_))) (And.intro ?_ rfl)); first | exact slotV rfl (congrArg Value.bool (decide_eq_true (by omega)).symm) | exact slotV rfl (congrArg Value.bool (decide_eq_false (by omega)).symm) | exact slotV rfl (congrArg Value.bool (decide_eq_decide.2 (by omega))) | exact slotV rfl (congrArg Value.bool (decide_not.symm.trans (decide_eq_decide.2 (by omega)))))
              · refine OL_skip rfl rfl rfl ?_
                refine OL_skip rfl rfl rfl ?_
                refine OL_skip rfl rfl rfl ?_
                refine OL_skip rfl rfl rfl ?_
                refine OL_skip rfl rfl rfl ?_
                refine OL_sil rfl rfl rfl (Sil.pick0 rfl rfl rfl) ?_
                refine OL_sil rfl rfl rfl (Sil.move rfl rfl) ?_
                refine OL_skip rfl rfl rfl ?_
                refine OL_skip rfl rfl rfl ?_
                refine OL_skip rfl rfl rfl ?_
                refine OL_skip rfl rfl rfl ?_
                refine OL_skip rfl rfl rfl ?_
                refine OL_sil rfl rfl rfl (Sil.pick0 rfl rfl rfl) ?_
                refine OL_sil rfl rfl rfl (Sil.assign rfl rfl) ?_
                refine OL_nil ?_
                (refine Cont.then_intro (And.intro (by (repeat' (first | exact Ext.refl | refine Ext.cons rfl ?_))) (And.intro ?_ rfl)); first | exact slotV rfl (congrArg Value.bool (decide_eq_true (by omega)).symm) | exact slotV rfl (congrArg Value.bool (decide_eq_false (by omega)).symm) | exact slotV rfl (congrArg Value.bool (decide_eq_decide.2 (by omega))) | exact slotV rfl (congrArg Value.bool (decide_not.symm.trans (decide_eq_decide.2 (by omega)))))
            refine TC_ret ?_
            exact ret1 rfl rfl ⟨congrArg Value.bool (decide_eq_true rfl), rfl⟩
theorem FlawsMore_bad (es : List RcD) (a : Option Addr) (cap : Nat) (which : Int) (w0 : World) (hx : RcsAt w0 a es) (h0 : errC es ≠ 0) :
    Gives Try.prog 5 [.slice a es.length cap, .int .i64 which] w0 [] fun v h => v = .bool true ∧ h = [] := by
  refine gives_of Try.func5 rfl rfl rfl (Own.start w0) ?_
  refine TC_seq ?_
  refine TC_region ?_
  refine OL_sil rfl rfl rfl (Sil.assign rfl rfl) ?_
  refine OL_nil ?_
  refine TC_seq ?_
  refine TC_seq ?_
  refine TC_region ?_
  refine OL_pure rfl rfl rfl (LO.pure rfl ent15 rfl (fun w _ => head8_gives w)) ?_
  refine OL_sil rfl rfl rfl (Sil.not rfl rfl) ?_
  refine OL_nil ?_
  refine TC_no rfl ?_
  refine TC_skip ?_
  refine TC_seq ?_
  refine TC_seq ?_
  refine TC_region ?_
  refine OL_sil rfl rfl rfl (Sil.move rfl rfl) ?_
  refine OL_loud rfl rfl rfl (LO.calls rfl ent16 rfl (fun w hw => big8_gives es a cap w (hx.keep hw.keep))) ?_
  rintro _ _ ⟨_, ⟨bb, rfl, hbig, rfl⟩, rfl⟩
  refine OL_nil ?_
  refine TC_cond rfl (fun ht19 => ?_) (fun ht19 => ?_)
  · refine TC_seq ?_
    refine TC_region ?_
    refine OL_sil rfl rfl rfl (Sil.assign rfl rfl) ?_
    refine OL_nil ?_
    refine TC_ret ?_
    exact ret1 rfl rfl ⟨rfl, rfl⟩
  · refine TC_skip ?_
    refine TC_seq ?_
    refine TC_region ?_
    refine OL_sil rfl rfl rfl (Sil.move rfl rfl) ?_
    refine OL_loud rfl rfl rfl (LO.calls rfl ent17 rfl (fun w hw => (refOf_gives es a cap w (hx.keep hw.keep)).mono (fun v h hR => hR.bad h0))) ?_
    rintro _ _ ⟨_, ⟨rfl, rfl⟩, rfl⟩
    refine OL_sil rfl rfl rfl (Sil.move rfl rfl) ?_
    refine OL_sil rfl rfl rfl (Sil.extract rfl rfl rfl) ?_
    refine OL_sil rfl rfl rfl (Sil.extract rfl rfl rfl) ?_
    refine OL_sil rfl rfl rfl (Sil.extract rfl rfl rfl) ?_
    refine OL_sil rfl rfl rfl (Sil.assign rfl rfl) ?_
    refine OL_sil rfl rfl rfl (Sil.assign rfl rfl) ?_
    refine OL_sil rfl rfl rfl (Sil.assign rfl rfl) ?_
    refine OL_nil ?_
    refine TC_seq ?_
    refine TC_seq ?_
    refine TC_region ?_
    refine OL_sil rfl rfl rfl (Sil.move rfl rfl) ?_
    refine OL_sil rfl rfl rfl (Sil.neq rfl rfl rfl) ?_
    refine OL_sil rfl rfl rfl (Sil.move rfl rfl) ?_
    refine OL_decn 28 rfl (fun ht28 => ?_) (fun ht28 => ?_)
    · refine OL_skip rfl rfl rfl ?_
      refine OL_skip rfl rfl rfl ?_
      refine OL_skip rfl rfl rfl ?_
      refine OL_sil rfl rfl rfl (Sil.pick1 rfl rfl rfl) ?_
      refine OL_nil ?_
      refine TC_yes rfl ?_
      refine TC_seq ?_
      refine TC_region ?_
      refine OL_sil rfl rfl rfl (Sil.assign rfl rfl) ?_
      refine OL_nil ?_
      refine TC_ret ?_
      exact ret1 rfl rfl ⟨rfl, rfl⟩
    · exact absurd ht28 h0
theorem FlawsMore_gives (es : List RcD) (a : Option Addr) (cap : Nat) (which : Int) (w0 : World) (hx : RcsAt w0 a es) :
    Gives Try.prog 5 [.slice a es.length cap, .int .i64 which] w0 [] fun v h => v = .bool true ∧ h = [] := by
  by_cases h0 : errC es = 0
  · exact FlawsMore_ok es a cap which w0 hx h0
  · exact FlawsMore_bad es a cap which w0 hx h0
end Go.Proofs.Ytjnopbmanhialaa
