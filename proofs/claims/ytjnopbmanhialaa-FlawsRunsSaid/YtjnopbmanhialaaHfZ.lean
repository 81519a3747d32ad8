/-
  Of a history: each value is written by one transaction alone. Walk: FlawsSources.
-/
import Derived.Test.YtjnopbmanhialaaHfY
import Derived.Test.YtjnopbmanhialaaHfT
namespace Go.Proofs.Ytjnopbmanhialaa
open Go.Cru

theorem ansF_wr {asked told : List OpD} (h : ansF asked told = 0) {i : Nat} {o : OpD} (ho : told[i]? = some o) (hk : o.k = 2) : ∃ d, asked[i]? = some d ∧ d.k = 2 ∧ d.val = o.val := by
  have hlt := ltOf ho
  have hlen : asked.length = told.length := Decidable.byContradiction fun hn => by rw [ansF, if_neg hn] at h; cases h
  rw [ansF, if_pos hlen] at h
  obtain ⟨d, hd⟩ : ∃ d, asked[i]? = some d := ⟨_, List.getElem?_eq_getElem (by omega)⟩
  have h1 : ansN asked told (i + 1) = 0 := Decidable.byContradiction fun hn => hn (by rw [← ansN_stick asked told (i + 1) told.length hn (by omega)]; exact h)
  have h2 : ansN asked told i = 0 := Decidable.byContradiction fun hn => hn (by rw [← ansN_stick asked told i told.length hn (by omega)]; exact h)
  rw [ansN, if_pos h2] at h1
  unfold ansE at h1
  rw [hd, ho] at h1
  simp only at h1
  by_cases hc : o.k ≠ d.k ∨ o.key ≠ d.key ∨ o.k = 2 ∧ o.val ≠ d.val
  · rw [if_pos hc] at h1; cases h1
  · exact ⟨d, hd, by omega, by omega⟩
theorem tx_wr (es : List RcD) : ∀ i : Nat, i ≤ es.length → (∀ j, j < i → errM es j = 0) → ∀ t ∈ txsM es i, ∃ e0, es[t.2]? = some e0 ∧ e0.p = 1 ∧ ∀ (j : Nat) (o : OpD), t.1.ops[j]? = some o → o.k = 2 → ∃ o0, e0.ops[j]? = some o0 ∧ o0.k = 2 ∧ o0.val = o.val
  | 0, _, _, t, h => by cases h
  | i + 1, hi, herr, t, h => by
    obtain ⟨e, he⟩ : ∃ e, es[i]? = some e := ⟨_, List.getElem?_eq_getElem (by omega)⟩
    have ih := tx_wr es i (by omega) (fun j hj => herr j (by omega))
    by_cases h1 : e.p = 1
    · rw [txsM_inv he h1] at h
      rcases List.mem_append.1 h with h | h
      · exact ih t h
      · rw [List.mem_singleton.1 h]
        exact ⟨e, he, h1, fun j o ho hk => ⟨o, ho, hk, rfl⟩⟩
    · rw [txsM_end he h1] at h
      obtain ⟨t0, ht0, rfl⟩ := List.mem_map.1 h
      obtain ⟨e0, he0, hp0, hw0⟩ := ih t0 ht0
      rw [stepT_snd]
      refine ⟨e0, he0, hp0, ?_⟩
      by_cases hs : (t0.2 : Int) = lastG es e.q i
      · by_cases h2 : e.p = 2
        · rw [stepT_2 hs h2]
          obtain ⟨hr, _, hop⟩ := err0 he (herr i (by omega))
          have hep : es[(lastG es e.q i).toNat]? = some e0 := by rw [← hs, Int.toNat_natCast]; exact he0
          have hans := errM_ans he hr (by rw [hop h1]; simp [h1]) h2 hep
          rw [herr i (by omega)] at hans
          exact fun j o ho hk => ansF_wr hans.symm ho hk
        · by_cases h3 : e.p = 3
          · rw [stepT_3 hs h3]; exact hw0
          · rw [stepT_no (by omega)]; exact hw0
      · rw [stepT_no (fun hh => hs hh.1)]; exact hw0
theorem noTw {es : List RcD} {i : Nat} {e : RcD} (he : es[i]? = some e) (h : errM es i = 0) (hp : e.p = 1) : ¬ twP es i := fun htw => by
  obtain ⟨hr, h1, _⟩ := err0 he h
  have h2 := errM_23 he hr (by rw [h1 hp]; simp [hp]) hp
  rw [if_pos htw, h] at h2
  cases h2
/-- Each value is written by one transaction alone. -/
def Uniq (ts : List RcD) : Prop := ∀ (i i' : Nat) (t t' : RcD) (o o' : OpD), ts[i]? = some t → ts[i']? = some t' → o ∈ t.ops → o' ∈ t'.ops → o.k = 2 → o'.k = 2 → o.val = o'.val → i = i'
theorem uniq_hist {es : List RcD} (h0 : errC es = 0) : Uniq ((txsM es es.length).map (·.1)) := by
  obtain ⟨_, herr⟩ := errC_zero h0
  intro i i' t t' o o' hi hi' ho ho' hk hk' hv
  rw [List.getElem?_map] at hi hi'
  obtain ⟨s, hs, rfl⟩ := Option.map_eq_some_iff.1 hi
  obtain ⟨s', hs', rfl⟩ := Option.map_eq_some_iff.1 hi'
  obtain ⟨e, he, hp, hw⟩ := tx_wr es _ (Nat.le_refl _) herr s (List.mem_of_getElem? hs)
  obtain ⟨e', he', hp', hw'⟩ := tx_wr es _ (Nat.le_refl _) herr s' (List.mem_of_getElem? hs')
  obtain ⟨j, hj⟩ := List.mem_iff_getElem?.1 ho
  obtain ⟨j', hj'⟩ := List.mem_iff_getElem?.1 ho'
  obtain ⟨p, hp1, hp2, hp3⟩ := hw j o hj hk
  obtain ⟨p', hp1', hp2', hp3'⟩ := hw' j' o' hj' hk'
  rcases Nat.lt_trichotomy s.2 s'.2 with hlt | heq | hlt
  · exact absurd ⟨j', s.2, j, by omega, e', p', e, p, he', hp1', hp2', he, hp, hp1, .inl hlt, hp2, by omega⟩ (noTw he' (herr _ (ltOf he')) hp')
  · have h1 := (tx_inv es _ i s hs).2.1
    have h2 := (tx_inv es _ i' s' hs').2.1
    rw [heq] at h1
    omega
  · exact absurd ⟨j, s'.2, j', by omega, e, p, e', p', he, hp1, hp2, he', hp', hp1', .inl hlt, hp2', by omega⟩ (noTw he (herr _ (ltOf he)) hp)
theorem wrHas_mem {ops : List OpD} {n : Nat} {p : Int × Int} (h : wrHas ops n p = true) : ∃ o ∈ ops, o.k = 2 ∧ (o.key, o.val) = p := by
  unfold wrHas at h
  obtain ⟨o, ho, h2⟩ := List.any_eq_true.1 h
  exact ⟨o, List.mem_of_mem_take ho, of_decide_eq_true h2⟩
theorem wrHas_in {ops : List OpD} {o : OpD} {p : Int × Int} (ho : o ∈ ops) (hk : o.k = 2) (hp : (o.key, o.val) = p) : wrHas ops ops.length p = true := by
  obtain ⟨j, hj⟩ := List.mem_iff_getElem?.1 ho
  exact wrHas_of hj hk hp
theorem byN_none {ts : List RcD} {p : Int × Int} : ∀ {i : Nat}, byN ts i p = none → ∀ (j : Nat) (t : RcD), j < i → ts[j]? = some t → wrHas t.ops t.ops.length p = false
  | 0, _, j, t, hj, _ => by omega
  | i + 1, h, j, t, hj, ht => by
    cases hi : ts[i]? with
    | none => have := ltOf ht; have := List.getElem?_eq_none_iff.1 hi; rw [byN, hi] at h; exact byN_none h j t (by omega) ht
    | some s =>
      rw [byN, hi] at h
      simp only at h
      split at h
      · cases h
      · rename_i hh
        by_cases e : j = i
        · subst e; rw [hi] at ht; cases ht; simpa using hh
        · exact byN_none h j t (by omega) ht
/-- Who wrote p, both ways of asking. -/
theorem byI_spec (ts : List RcD) (p : Int × Int) : (byI ts p = -1 ∧ ∀ (j : Nat) (t : RcD), ts[j]? = some t → wrHas t.ops t.ops.length p = false) ∨ ∃ (w : Nat) (t : RcD), byI ts p = w ∧ ts[w]? = some t ∧ wrHas t.ops t.ops.length p = true := by
  unfold byI
  cases h : byN ts ts.length p with
  | none => exact .inl ⟨rfl, fun j t ht => byN_none h j t (ltOf ht) ht⟩
  | some w =>
    obtain ⟨_, t, ht, hw⟩ := byN_lt ts p _ w h
    exact .inr ⟨w, t, rfl, ht, hw⟩
theorem wr1_spec (ts : List RcD) (p : Int × Int) : ∀ i : Nat, (wr1 ts p i = -1 ∧ ∀ (j : Nat) (t : RcD), j < i → ts[j]? = some t → wrHas t.ops t.ops.length p = false) ∨ ∃ (w : Nat) (t : RcD), wr1 ts p i = w ∧ ts[w]? = some t ∧ wrHas t.ops t.ops.length p = true
  | 0 => .inl ⟨rfl, fun j t hj => by omega⟩
  | i + 1 => by
    rcases wr1_spec ts p i with ⟨h1, h2⟩ | ⟨w, t, h1, h2⟩
    · cases hi : ts[i]? with
      | none =>
        refine .inl ⟨by rw [wr1, h1, hi, if_neg (by omega)], fun j t hj ht => ?_⟩
        have := ltOf ht; have := List.getElem?_eq_none_iff.1 hi
        exact h2 j t (by omega) ht
      | some s =>
        cases hw : wrHas s.ops s.ops.length p with
        | true => exact .inr ⟨i, s, wr1_hit h1 hi hw, hi, hw⟩
        | false =>
          refine .inl ⟨wr1_miss h1 hi hw, fun j t hj ht => ?_⟩
          by_cases e : j = i
          · subst e; rw [hi] at ht; cases ht; exact hw
          · exact h2 j t (by omega) ht
    · exact .inr ⟨w, t, by rw [wr1, if_pos (by rw [h1]; omega), h1], h2⟩
theorem uniq_wr {ts : List RcD} (hU : Uniq ts) {p : Int × Int} {i i' : Nat} {t t' : RcD} (ht : ts[i]? = some t) (ht' : ts[i']? = some t') (h : wrHas t.ops t.ops.length p = true) (h' : wrHas t'.ops t'.ops.length p = true) : i = i' := by
  obtain ⟨o, ho, hk, hp⟩ := wrHas_mem h
  obtain ⟨o', ho', hk', hp'⟩ := wrHas_mem h'
  exact hU i i' t t' o o' ht ht' ho ho' hk hk' (by rw [← hp'] at hp; exact (Prod.mk.inj hp).2)
theorem by_eq_wr {ts : List RcD} (hU : Uniq ts) (p : Int × Int) : wr1 ts p ts.length = byI ts p := by
  rcases byI_spec ts p with ⟨h1, h2⟩ | ⟨w, t, h1, h2, h3⟩
  · rcases wr1_spec ts p ts.length with ⟨g1, _⟩ | ⟨w', t', _, g2, g3⟩
    · rw [g1, h1]
    · rw [h2 w' t' g2] at g3; cases g3
  · rcases wr1_spec ts p ts.length with ⟨_, g2⟩ | ⟨w', t', g1, g2, g3⟩
    · rw [g2 w t (ltOf h2) h2] at h3; cases h3
    · rw [g1, h1, uniq_wr hU g2 h2 g3 h3]

/-- The transactions of a history that is not too long. -/
def txL (es : List RcD) : List RcD := (txsM es es.length).map (·.1)
theorem txL_len (es : List RcD) : (txL es).length ≤ es.length := by unfold txL; rw [List.length_map]; exact txs_len es _
theorem txL_ops {es : List RcD} {n : Nat} (hb : ∀ e ∈ es, e.ops.length ≤ n) : ∀ t ∈ txL es, t.ops.length ≤ n := fun t ht => by
  obtain ⟨s, hs, rfl⟩ := List.mem_map.1 ht
  obtain ⟨e, he, h⟩ := tx_ops es _ s hs
  rw [h]; exact hb e he

theorem FlawsSources_z (es : List RcD) (a : Option Addr) (cap : Nat) (key val : Int) (w0 : World) (hx : RcsAt w0 a es) (h0 : errC es = 0) (hz : val = 0) :
    Gives Try.prog 7 [.slice a es.length cap, .int .i64 key, .int .i64 val] w0 [] fun v h => v = .bool true ∧ h = [] := by
  have htl := txL_len es
  refine gives_of Try.func7 rfl rfl rfl (Own.start w0) ?_
  refine TC_seq ?_
  refine TC_region ?_
  refine OL_sil rfl rfl rfl (Sil.assign rfl rfl) ?_
  refine OL_nil ?_
  refine TC_seq ?_
  refine TC_seq ?_
  refine TC_region ?_
  refine OL_pure rfl rfl rfl (LO.pure rfl ent15 rfl (fun w _ => head8_gives w)) ?_
  refine OL_sil rfl rfl rfl (Sil.not rfl rfl) ?_
  refine OL_nil ?_
  refine TC_no rfl ?_
  refine TC_skip ?_
  refine TC_seq ?_
  refine TC_seq ?_
  refine TC_region ?_
  refine OL_sil rfl rfl rfl (Sil.move rfl rfl) ?_
  refine OL_loud rfl rfl rfl (LO.calls rfl ent16 rfl (fun w hw => big8_gives es a cap w (hx.keep hw.keep))) ?_
  rintro _ _ ⟨_, ⟨bb, rfl, hbig, rfl⟩, rfl⟩
  refine OL_nil ?_
  refine TC_cond rfl (fun ht16 => ?_) (fun ht16 => ?_)
  · refine TC_seq ?_
    refine TC_region ?_
    refine OL_sil rfl rfl rfl (Sil.assign rfl rfl) ?_
    refine OL_nil ?_
    refine TC_ret ?_
    exact ret1 rfl rfl ⟨rfl, rfl⟩
  · obtain ⟨hb1, hb2⟩ := hbig ht16
    refine TC_skip ?_
    refine TC_seq ?_
    refine TC_region ?_
    refine OL_sil rfl rfl rfl (Sil.move rfl rfl) ?_
    refine OL_loud rfl rfl rfl (LO.calls rfl ent17 rfl (fun w hw => (refOf_gives es a cap w (hx.keep hw.keep)).mono (fun v h hR => hR.ok h0))) ?_
    rintro _ _ ⟨_, ⟨a1, c1, x1, r1, rfl, hx1, rfl, hl1⟩, rfl⟩
    refine OL_sil rfl rfl rfl (Sil.move rfl rfl) ?_
    refine OL_sil rfl rfl rfl (Sil.extract rfl rfl rfl) ?_
    refine OL_sil rfl rfl rfl (Sil.extract rfl rfl rfl) ?_
    refine OL_sil rfl rfl rfl (Sil.extract rfl rfl rfl) ?_
    refine OL_sil rfl rfl rfl (Sil.assign rfl rfl) ?_
    refine OL_sil rfl rfl rfl (Sil.assign rfl rfl) ?_
    refine OL_sil rfl rfl rfl (Sil.assign rfl rfl) ?_
    refine OL_nil ?_
    replace hx1 : x1.map (·.1) = txL es := hx1
    have hn1 : x1.length = (txL es).length := by rw [← hx1]; simp
    refine TC_slot 7 (v := .slice a1 (txL es).length c1) rfl (by rw [← hn1]) ?_
    refine TC_seq ?_
    refine TC_seq ?_
    refine TC_region ?_
    refine OL_sil rfl rfl rfl (Sil.move rfl rfl) ?_
    refine OL_sil rfl rfl rfl (Sil.neq rfl rfl rfl) ?_
    refine OL_nil ?_
    refine TC_ifn rfl (fun ht24 => ?_) (fun ht24 => ?_)
    · exact absurd rfl ht24
    · refine TC_skip ?_
      refine TC_seq ?_
      refine TC_region ?_
      refine OL_sil rfl rfl rfl (Sil.move rfl rfl) ?_
      refine OL_sil rfl rfl rfl (Sil.move rfl rfl) ?_
      refine OL_sil rfl rfl rfl (Sil.move rfl rfl) ?_
      refine OL_pure rfl rfl rfl (LO.pure rfl ent22 rfl (fun w hw => (Source_gives (txL es) a1 c1 key val w (hx1 ▸ RcsAt.of_sq (hw.mine _ (List.mem_of_getElem? (i := 0) rfl)) (hw.mine _ (List.mem_of_getElem? (i := 1) rfl)) hl1) (by omega) (txL_ops fun e he => by have := hb2 e he; omega)).mono (fun v h hR => ⟨hR.1.trans (if_pos hz), hR.2⟩))) ?_
      refine OL_sil rfl rfl rfl (Sil.move rfl rfl) ?_
      refine OL_sil rfl rfl rfl (Sil.extract rfl rfl rfl) ?_
      refine OL_sil rfl rfl rfl (Sil.extract rfl rfl rfl) ?_
      refine OL_sil rfl rfl rfl (Sil.assign rfl rfl) ?_
      refine OL_sil rfl rfl rfl (Sil.assign rfl rfl) ?_
      refine OL_nil ?_
      refine TC_seq ?_
      refine TC_region ?_
      refine OL_sil rfl rfl rfl (Sil.move rfl rfl) ?_
      refine OL_sil rfl rfl rfl (Sil.move rfl rfl) ?_
      refine OL_sil rfl rfl rfl (Sil.move rfl rfl) ?_
      refine OL_pure rfl rfl rfl (LO.pure rfl ent23 rfl (fun w hw => Writer_gives (txL es) a1 c1 key val w (hx1 ▸ RcsAt.of_sq (hw.mine _ (List.mem_of_getElem? (i := 0) rfl)) (hw.mine _ (List.mem_of_getElem? (i := 1) rfl)) hl1) (by omega) (txL_ops fun e he => by have := hb2 e he; omega))) ?_
      refine OL_sil rfl rfl rfl (Sil.assign rfl rfl) ?_
      refine OL_nil ?_
      refine TC_seq ?_
      refine TC_seq ?_
      refine TC_region ?_
      refine OL_sil rfl rfl rfl (Sil.move rfl rfl) ?_
      refine OL_sil rfl rfl rfl (Sil.eql rfl rfl rfl) ?_
      refine OL_nil ?_
      refine TC_if rfl (fun ht37 => ?_) (fun ht37 => ?_)
      · refine TC_seq ?_
        refine TC_region ?_
        refine OL_sil rfl rfl rfl (Sil.move rfl rfl) ?_
        refine OL_sil rfl rfl rfl (Sil.move rfl rfl) ?_
        refine OL_cases 39 rfl (fun ht39 => ?_) (fun ht39 => ?_)
        · refine OL_sil rfl rfl rfl (Sil.move rfl rfl) ?_
          refine OL_sil rfl rfl rfl (Sil.eql rfl rfl rfl) ?_
          refine OL_sil rfl rfl rfl (Sil.pick1 rfl rfl rfl) ?_
          refine OL_sil rfl rfl rfl (Sil.assign rfl rfl) ?_
          refine OL_nil ?_
          refine TC_ret ?_
          exact ret1 rfl rfl ⟨congrArg Value.bool (decide_eq_true rfl), rfl⟩
        · cases ht39
      · exact absurd hz ht37
theorem FlawsSources_nz (es : List RcD) (a : Option Addr) (cap : Nat) (key val : Int) (w0 : World) (hx : RcsAt w0 a es) (h0 : errC es = 0) (hz : ¬ val = 0) :
    Gives Try.prog 7 [.slice a es.length cap, .int .i64 key, .int .i64 val] w0 [] fun v h => v = .bool true ∧ h = [] := by
  have htl := txL_len es
  have hW := by_eq_wr (uniq_hist h0) (key, val)
  replace hW : wr1 (txL es) (key, val) (txL es).length = byI (txL es) (key, val) := hW
  refine gives_of Try.func7 rfl rfl rfl (Own.start w0) ?_
  refine TC_seq ?_
  refine TC_region ?_
  refine OL_sil rfl rfl rfl (Sil.assign rfl rfl) ?_
  refine OL_nil ?_
  refine TC_seq ?_
  refine TC_seq ?_
  refine TC_region ?_
  refine OL_pure rfl rfl rfl (LO.pure rfl ent15 rfl (fun w _ => head8_gives w)) ?_
  refine OL_sil rfl rfl rfl (Sil.not rfl rfl) ?_
  refine OL_nil ?_
  refine TC_no rfl ?_
  refine TC_skip ?_
  refine TC_seq ?_
  refine TC_seq ?_
  refine TC_region ?_
  refine OL_sil rfl rfl rfl (Sil.move rfl rfl) ?_
  refine OL_loud rfl rfl rfl (LO.calls rfl ent16 rfl (fun w hw => big8_gives es a cap w (hx.keep hw.keep))) ?_
  rintro _ _ ⟨_, ⟨bb, rfl, hbig, rfl⟩, rfl⟩
  refine OL_nil ?_
  refine TC_cond rfl (fun ht16 => ?_) (fun ht16 => ?_)
  · refine TC_seq ?_
    refine TC_region ?_
    refine OL_sil rfl rfl rfl (Sil.assign rfl rfl) ?_
    refine OL_nil ?_
    refine TC_ret ?_
    exact ret1 rfl rfl ⟨rfl, rfl⟩
  · obtain ⟨hb1, hb2⟩ := hbig ht16
    refine TC_skip ?_
    refine TC_seq ?_
    refine TC_region ?_
    refine OL_sil rfl rfl rfl (Sil.move rfl rfl) ?_
    refine OL_loud rfl rfl rfl (LO.calls rfl ent17 rfl (fun w hw => (refOf_gives es a cap w (hx.keep hw.keep)).mono (fun v h hR => hR.ok h0))) ?_
    rintro _ _ ⟨_, ⟨a1, c1, x1, r1, rfl, hx1, rfl, hl1⟩, rfl⟩
    refine OL_sil rfl rfl rfl (Sil.move rfl rfl) ?_
    refine OL_sil rfl rfl rfl (Sil.extract rfl rfl rfl) ?_
    refine OL_sil rfl rfl rfl (Sil.extract rfl rfl rfl) ?_
    refine OL_sil rfl rfl rfl (Sil.extract rfl rfl rfl) ?_
    refine OL_sil rfl rfl rfl (Sil.assign rfl rfl) ?_
    refine OL_sil rfl rfl rfl (Sil.assign rfl rfl) ?_
    refine OL_sil rfl rfl rfl (Sil.assign rfl rfl) ?_
    refine OL_nil ?_
    replace hx1 : x1.map (·.1) = txL es := hx1
    have hn1 : x1.length = (txL es).length := by rw [← hx1]; simp
    refine TC_slot 7 (v := .slice a1 (txL es).length c1) rfl (by rw [← hn1]) ?_
    refine TC_seq ?_
    refine TC_seq ?_
    refine TC_region ?_
    refine OL_sil rfl rfl rfl (Sil.move rfl rfl) ?_
    refine OL_sil rfl rfl rfl (Sil.neq rfl rfl rfl) ?_
    refine OL_nil ?_
    refine TC_ifn rfl (fun ht24 => ?_) (fun ht24 => ?_)
    · exact absurd rfl ht24
    · refine TC_skip ?_
      refine TC_seq ?_
      refine TC_region ?_
      refine OL_sil rfl rfl rfl (Sil.move rfl rfl) ?_
      refine OL_sil rfl rfl rfl (Sil.move rfl rfl) ?_
      refine OL_sil rfl rfl rfl (Sil.move rfl rfl) ?_
      refine OL_pure rfl rfl rfl (LO.pure rfl ent22 rfl (fun w hw => (Source_gives (txL es) a1 c1 key val w (hx1 ▸ RcsAt.of_sq (hw.mine _ (List.mem_of_getElem? (i := 0) rfl)) (hw.mine _ (List.mem_of_getElem? (i := 1) rfl)) hl1) (by omega) (txL_ops fun e he => by have := hb2 e he; omega)).mono (fun v h hR => ⟨hR.1.trans (if_neg hz), hR.2⟩))) ?_
      refine OL_sil rfl rfl rfl (Sil.move rfl rfl) ?_
      refine OL_sil rfl rfl rfl (Sil.extract rfl rfl rfl) ?_
      refine OL_sil rfl rfl rfl (Sil.extract rfl rfl rfl) ?_
      refine OL_sil rfl rfl rfl (Sil.assign rfl rfl) ?_
      refine OL_sil rfl rfl rfl (Sil.assign rfl rfl) ?_
      refine OL_nil ?_
      refine TC_seq ?_
      refine TC_region ?_
      refine OL_sil rfl rfl rfl (Sil.move rfl rfl) ?_
      refine OL_sil rfl rfl rfl (Sil.move rfl rfl) ?_
      refine OL_sil rfl rfl rfl (Sil.move rfl rfl) ?_
      refine OL_pure rfl rfl rfl (LO.pure rfl ent23 rfl (fun w hw => (Writer_gives (txL es) a1 c1 key val w (hx1 ▸ RcsAt.of_sq (hw.mine _ (List.mem_of_getElem? (i := 0) rfl)) (hw.mine _ (List.mem_of_getElem? (i := 1) rfl)) hl1) (by omega) (txL_ops fun e he => by have := hb2 e he; omega)).mono (fun v h hR => ⟨hR.1.trans (congrArg _ hW), hR.2⟩))) ?_
      refine OL_sil rfl rfl rfl (Sil.assign rfl rfl) ?_
      refine OL_nil ?_
      refine TC_seq ?_
      refine TC_seq ?_
      refine TC_region ?_
      refine OL_sil rfl rfl rfl (Sil.move rfl rfl) ?_
      refine OL_sil rfl rfl rfl (Sil.eql rfl rfl rfl) ?_
      refine OL_nil ?_
      refine TC_if rfl (fun ht37 => ?_) (fun ht37 => ?_)
      · exact absurd ht37 hz
      · refine TC_skip ?_
        refine TC_seq ?_
        refine TC_boolE [43, 44, 45, 46, 47, 48, 49, 50, 51, 52, 53, 54, 55, 56, 57, 58, 59, 60, 61, 62, 6] 6 ((0 : Int) = 0) ?_ ?_
        · refine TC_region ?_
          refine OL_sil rfl rfl rfl (Sil.move rfl rfl) ?_
          refine OL_sil rfl rfl rfl (Sil.move rfl rfl) ?_
          refine OL_sil rfl rfl rfl (Sil.geq rfl rfl rfl) ?_
          refine OL_sil rfl rfl rfl (Sil.eqlB rfl rfl rfl Try.underlying4) ?_
          refine OL_sil rfl rfl rfl (Sil.move rfl rfl) ?_
          refine OL_cases 47 rfl (fun ht47 => ?_) (fun ht47 => ?_)
          · refine OL_sil rfl rfl rfl (Sil.move rfl rfl) ?_
            refine OL_sil rfl rfl rfl (Sil.not rfl rfl) ?_
            refine OL_sil rfl rfl rfl (Sil.move rfl rfl) ?_
            refine OL_decn 50 rfl (fun ht50 => ?_) (fun ht50 => ?_)
            · refine OL_sil rfl rfl rfl (Sil.move rfl rfl) ?_
              refine OL_sil rfl rfl rfl (Sil.eql rfl rfl rfl) ?_
              refine OL_sil rfl rfl rfl (Sil.pick1 rfl rfl rfl) ?_
              refine OL_sil rfl rfl rfl (Sil.move rfl rfl) ?_
              refine OL_dec 54 rfl (fun ht54 => ?_) (fun ht54 => ?_)
              · refine OL_skip rfl rfl rfl ?_
                refine OL_skip rfl rfl rfl ?_
                refine OL_skip rfl rfl rfl ?_
                refine OL_skip rfl rfl rfl ?_
                refine OL_skip rfl rfl rfl ?_
                refine OL_skip rfl rfl rfl ?_
                refine OL_sil rfl rfl rfl (Sil.pick1 rfl rfl rfl) ?_
                refine OL_sil rfl rfl rfl (Sil.pick1 rfl rfl rfl) ?_
                refine OL_sil rfl rfl rfl (Sil.assign rfl rfl) ?_
                refine OL_nil ?_
                (refine Cont.then_intro (And.intro (by (repeat' (first | exact Ext.refl | refine Ext.cons rfl ?_))) (And.intro ?_ rfl)); first | exact slotV rfl (congrArg Value.bool (decide_eq_true (by omega)).symm) | exact slotV rfl (congrArg Value.bool (decide_eq_false (by omega)).symm) | exact slotV rfl (congrArg Value.bool (decide_eq_decide.2 (by omega))) | exact slotV rfl (congrArg Value.bool (decide_not.symm.trans (decide_eq_decide.2 (by omega)))))
              · refine OL_sil rfl rfl rfl (Sil.move rfl rfl) ?_
                refine OL_sil rfl rfl rfl (Sil.move rfl rfl) ?_
                refine OL_dec 56 rfl (fun ht56 => ?_) (fun ht56 => ?_)
                · refine OL_sil rfl rfl rfl (Sil.move rfl rfl) ?_
                  refine OL_sil rfl rfl rfl (Sil.move rfl rfl) ?_
                  refine OL_sil rfl rfl rfl (Sil.eql rfl rfl rfl) ?_
                  refine OL_sil rfl rfl rfl (Sil.pick1 rfl rfl rfl) ?_
                  refine OL_sil rfl rfl rfl (Sil.pick0 rfl rfl rfl) ?_
                  refine OL_sil rfl rfl rfl (Sil.pick1 rfl rfl rfl) ?_
                  refine OL_sil rfl rfl rfl (Sil.assign rfl rfl) ?_
                  refine OL_nil ?_
                  (refine Cont.then_intro (And.intro (by (repeat' (first | exact Ext.refl | refine Ext.cons rfl ?_))) (And.intro ?_ rfl)); first | exact slotV rfl (congrArg Value.bool (decide_eq_true (by omega)).symm) | exact slotV rfl (congrArg Value.bool (decide_eq_false (by omega)).symm) | exact slotV rfl (congrArg Value.bool (decide_eq_decide.2 (by omega))) | exact slotV rfl (congrArg Value.bool (decide_not.symm.trans (decide_eq_decide.2 (by omega)))))
                · refine OL_skip rfl rfl rfl ?_
                  refine OL_skip rfl rfl rfl ?_
                  refine OL_skip rfl rfl rfl ?_
                  refine OL_sil rfl rfl rfl (Sil.pick0 rfl rfl rfl) ?_
                  refine OL_sil rfl rfl rfl (Sil.pick0 rfl rfl rfl) ?_
                  refine OL_sil rfl rfl rfl (Sil.pick1 rfl rfl rfl) ?_
                  refine OL_sil rfl rfl rfl (Sil.assign rfl rfl) ?_
                  refine OL_nil ?_
                  (refine Cont.then_intro (And.intro (by (repeat' (first | exact Ext.refl | refine Ext.cons rfl ?_))) (And.intro ?_ rfl)); first | exact slotV rfl (congrArg Value.bool (decide_eq_true (by omega)).symm) | exact slotV rfl (congrArg Value.bool (decide_eq_false (by omega)).symm) | exact slotV rfl (congrArg Value.bool (decide_eq_decide.2 (by omega))) | exact slotV rfl (congrArg Value.bool (decide_not.symm.trans (decide_eq_decide.2 (by omega)))))
            · refine OL_skip rfl rfl rfl ?_
              refine OL_skip rfl rfl rfl ?_
              refine OL_sil rfl rfl rfl (Sil.pick0 rfl rfl rfl) ?_
              refine OL_sil rfl rfl rfl (Sil.move rfl rfl) ?_
              refine OL_sil rfl rfl rfl (Sil.move rfl rfl) ?_
              refine OL_sil rfl rfl rfl (Sil.move rfl rfl) ?_
              refine OL_dec 56 rfl (fun ht56 => ?_) (fun ht56 => ?_)
              · refine OL_sil rfl rfl rfl (Sil.move rfl rfl) ?_
                refine OL_sil rfl rfl rfl (Sil.move rfl rfl) ?_
                refine OL_sil rfl rfl rfl (Sil.eql rfl rfl rfl) ?_
                refine OL_sil rfl rfl rfl (Sil.pick1 rfl rfl rfl) ?_
                refine OL_sil rfl rfl rfl (Sil.pick0 rfl rfl rfl) ?_
                refine OL_sil rfl rfl rfl (Sil.pick1 rfl rfl rfl) ?_
                refine OL_sil rfl rfl rfl (Sil.assign rfl rfl) ?_
                refine OL_nil ?_
                (refine Cont.then_intro (And.intro (by (repeat' (first | exact Ext.refl | refine Ext.cons rfl ?_))) (And.intro ?_ rfl)); first | exact slotV rfl (congrArg Value.bool (decide_eq_true (by omega)).symm) | exact slotV rfl (congrArg Value.bool (decide_eq_false (by omega)).symm) | exact slotV rfl (congrArg Value.bool (decide_eq_decide.2 (by omega))) | exact slotV rfl (congrArg Value.bool (decide_not.symm.trans (decide_eq_decide.2 (by omega)))))
              · refine OL_skip rfl rfl rfl ?_
                refine OL_skip rfl rfl rfl ?_
                refine OL_skip rfl rfl rfl ?_
                refine OL_sil rfl rfl rfl (Sil.pick0 rfl rfl rfl) ?_
                refine OL_sil rfl rfl rfl (Sil.pick0 rfl rfl rfl) ?_
                refine OL_sil rfl rfl rfl (Sil.pick1 rfl rfl rfl) ?_
                refine OL_sil rfl rfl rfl (Sil.assign rfl rfl) ?_
                refine OL_nil ?_
                (refine Cont.then_intro (And.intro (by (repeat' (first | exact Ext.refl | refine Ext.cons rfl ?_))) (And.intro ?_ rfl)); first | exact slotV rfl (congrArg Value.bool (decide_eq_true (by omega)).symm) | exact slotV rfl (congrArg Value.bool (decide_eq_false (by omega)).symm) | exact slotV rfl (congrArg Value.bool (decide_eq_decide.2 (by omega))) | exact slotV rfl (congrArg Value.bool (decide_not.symm.trans (decide_eq_decide.2 (by omega)))))
          · exact absurd ht47 (by simp)
        refine TC_ret ?_
        exact ret1 rfl rfl ⟨congrArg Value.bool (decide_eq_true rfl), rfl⟩
theorem FlawsSources_bad (es : List RcD) (a : Option Addr) (cap : Nat) (key val : Int) (w0 : World) (hx : RcsAt w0 a es) (h0 : errC es ≠ 0) :
    Gives Try.prog 7 [.slice a es.length cap, .int .i64 key, .int .i64 val] w0 [] fun v h => v = .bool true ∧ h = [] := by
  refine gives_of Try.func7 rfl rfl rfl (Own.start w0) ?_
  refine TC_seq ?_
  refine TC_region ?_
  refine OL_sil rfl rfl rfl (Sil.assign rfl rfl) ?_
  refine OL_nil ?_
  refine TC_seq ?_
  refine TC_seq ?_
  refine TC_region ?_
  refine OL_pure rfl rfl rfl (LO.pure rfl ent15 rfl (fun w _ => head8_gives w)) ?_
  refine OL_sil rfl rfl rfl (Sil.not rfl rfl) ?_
  refine OL_nil ?_
  refine TC_no rfl ?_
  refine TC_skip ?_
  refine TC_seq ?_
  refine TC_seq ?_
  refine TC_region ?_
  refine OL_sil rfl rfl rfl (Sil.move rfl rfl) ?_
  refine OL_loud rfl rfl rfl (LO.calls rfl ent16 rfl (fun w hw => big8_gives es a cap w (hx.keep hw.keep))) ?_
  rintro _ _ ⟨_, ⟨bb, rfl, hbig, rfl⟩, rfl⟩
  refine OL_nil ?_
  refine TC_cond rfl (fun ht16 => ?_) (fun ht16 => ?_)
  · refine TC_seq ?_
    refine TC_region ?_
    refine OL_sil rfl rfl rfl (Sil.assign rfl rfl) ?_
    refine OL_nil ?_
    refine TC_ret ?_
    exact ret1 rfl rfl ⟨rfl, rfl⟩
  · refine TC_skip ?_
    refine TC_seq ?_
    refine TC_region ?_
    refine OL_sil rfl rfl rfl (Sil.move rfl rfl) ?_
    refine OL_loud rfl rfl rfl (LO.calls rfl ent17 rfl (fun w hw => (refOf_gives es a cap w (hx.keep hw.keep)).mono (fun v h hR => hR.bad h0))) ?_
    rintro _ _ ⟨_, ⟨rfl, rfl⟩, rfl⟩
    refine OL_sil rfl rfl rfl (Sil.move rfl rfl) ?_
    refine OL_sil rfl rfl rfl (Sil.extract rfl rfl rfl) ?_
    refine OL_sil rfl rfl rfl (Sil.extract rfl rfl rfl) ?_
    refine OL_sil rfl rfl rfl (Sil.extract rfl rfl rfl) ?_
    refine OL_sil rfl rfl rfl (Sil.assign rfl rfl) ?_
    refine OL_sil rfl rfl rfl (Sil.assign rfl rfl) ?_
    refine OL_sil rfl rfl rfl (Sil.assign rfl rfl) ?_
    refine OL_nil ?_
    refine TC_seq ?_
    refine TC_seq ?_
    refine TC_region ?_
    refine OL_sil rfl rfl rfl (Sil.move rfl rfl) ?_
    refine OL_sil rfl rfl rfl (Sil.neq rfl rfl rfl) ?_
    refine OL_nil ?_
    refine TC_ifn rfl (fun ht24 => ?_) (fun ht24 => ?_)
    · refine TC_seq ?_
      refine TC_region ?_
      refine OL_sil rfl rfl rfl (Sil.assign rfl rfl) ?_
      refine OL_nil ?_
      refine TC_ret ?_
      exact ret1 rfl rfl ⟨rfl, rfl⟩
    · exact absurd ht24 h0
theorem FlawsSources_gives (es : List RcD) (a : Option Addr) (cap : Nat) (key val : Int) (w0 : World) (hx : RcsAt w0 a es) :
    Gives Try.prog 7 [.slice a es.length cap, .int .i64 key, .int .i64 val] w0 [] fun v h => v = .bool true ∧ h = [] := by
  by_cases h0 : errC es = 0
  · by_cases hz : val = 0
    · exact FlawsSources_z es a cap key val w0 hx h0 hz
    · exact FlawsSources_nz es a cap key val w0 hx h0 hz
  · exact FlawsSources_bad es a cap key val w0 hx h0
end Go.Proofs.Ytjnopbmanhialaa
