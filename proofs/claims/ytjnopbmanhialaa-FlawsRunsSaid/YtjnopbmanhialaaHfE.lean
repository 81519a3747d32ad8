/-
  Walk: the reference's Of.
-/
import Derived.Test.YtjnopbmanhialaaHfD
namespace Go.Cru
open Go
section
variable {P : Program} {n : Nat} {w0 : World} {bor : List Nat} {l : Env} {h : Mem} {o : Oper} {v : Value}
theorem LO.sqStoreAs {x y : Operand} {T : TypeId} {g m cap T' sz off : Nat} {xs xs2 : List Value} (i : Nat) (ho : o.op = .store T x y) (hx : ev l x = some (.pointer (some ⟨g, off, none⟩))) (hy : ev l y = some v) (hi : h[i]? = some (sq (some ⟨g, 0, none⟩) m cap T' sz xs))
    (hT : (P.info? T).map (·.size) = some 1) (hl : v.cells = #[v]) (h1 : oneC v = true) (hfit : off < m * sz) (he : xs.set off v = xs2) :
    LO P n w0 bor h l o fun u h' => u = undef ∧ h' = h.set i (sq (some ⟨g, 0, none⟩) m cap T' sz xs2) := he ▸ LO.sqStore i ho hx hy hi hT hl h1 hfit
end
end Go.Cru
namespace Go.Proofs.Ytjnopbmanhialaa
open Go.Cru

def frC (ts : List (RcD × Nat)) : List Value := ts.map fun t => .int .i64 t.2
theorem frC_length (ts : List (RcD × Nat)) : (frC ts).length = ts.length := by simp [frC]
theorem frC_at {ts : List (RcD × Nat)} {k : Nat} {t : RcD × Nat} (h : ts[k]? = some t) : (frC ts)[k]? = some (.int .i64 t.2) := by simp [frC, h]
theorem frC_step (e : RcD) (p : Int) (ts : List (RcD × Nat)) : frC (ts.map (stepT e p)) = frC ts := by
  unfold frC
  rw [List.map_map]
  refine List.map_congr_left fun t _ => ?_
  show Value.int .i64 ((stepT e p t).2 : Nat) = _
  unfold stepT
  split
  · split
    · rfl
    · split <;> rfl
  · rfl
theorem stepT_no {e : RcD} {p : Int} {t : RcD × Nat} (h : ¬ ((t.2 : Int) = p ∧ (e.p = 2 ∨ e.p = 3))) : stepT e p t = t := by
  unfold stepT
  split
  · rw [if_neg (by omega), if_neg (by omega)]
  · rfl
theorem stepT_2 {e : RcD} {p : Int} {t : RcD × Nat} (h : (t.2 : Int) = p) (h2 : e.p = 2) : stepT e p t = (⟨t.1.p, 1, e.ops⟩, t.2) := by
  unfold stepT; rw [if_pos h, if_pos h2]
theorem stepT_3 {e : RcD} {p : Int} {t : RcD × Nat} (h : (t.2 : Int) = p) (h3 : e.p = 3) : stepT e p t = (⟨t.1.p, 2, t.1.ops⟩, t.2) := by
  unfold stepT; rw [if_pos h, if_neg (by omega), if_pos h3]
/-- The first k transactions are stepped, the others not yet. -/
def Mid (f : RcD × Nat → RcD × Nat) (ts : List (RcD × Nat)) (k : Nat) (xs : List RcV) : Prop := xs.length = ts.length ∧ ∀ j t, ts[j]? = some t → ∃ u, xs[j]? = some ((if j < k then f t else t).1, u)
theorem Mid.start {f : RcD × Nat → RcD × Nat} {ts : List (RcD × Nat)} {xs : List RcV} (h : xs.map (·.1) = ts.map (·.1)) : Mid f ts 0 xs := by
  have hl : xs.length = ts.length := by have := congrArg List.length h; simpa using this
  refine ⟨hl, fun j t hj => ?_⟩
  obtain ⟨x, hx⟩ : ∃ x, xs[j]? = some x := ⟨_, List.getElem?_eq_getElem (by have := ltOf hj; omega)⟩
  have h1 := congrArg (fun l => l[j]?) h
  simp only [List.getElem?_map, hx, hj, Option.map_some, Option.some.injEq] at h1
  refine ⟨x.2, ?_⟩
  rw [hx, if_neg (by omega), ← h1]
theorem Mid.done {f : RcD × Nat → RcD × Nat} {ts : List (RcD × Nat)} {k : Nat} {xs : List RcV} (h : Mid f ts k xs) (hk : ts.length ≤ k) : xs.map (·.1) = (ts.map f).map (·.1) := by
  apply List.ext_getElem?
  intro j
  simp only [List.getElem?_map]
  cases hj : ts[j]? with
  | none =>
    have : xs[j]? = none := List.getElem?_eq_none (by have := List.getElem?_eq_none_iff.1 hj; rw [h.1]; exact this)
    rw [this]; rfl
  | some t =>
    obtain ⟨u, hu⟩ := h.2 j t hj
    rw [hu, if_pos (by have := ltOf hj; omega)]
    rfl
theorem Mid.stay {f : RcD × Nat → RcD × Nat} {ts : List (RcD × Nat)} {k : Nat} {xs : List RcV} {t : RcD × Nat} (h : Mid f ts k xs) (ht : ts[k]? = some t) (hf : f t = t) : Mid f ts (k + 1) xs := by
  refine ⟨h.1, fun j t' hj => ?_⟩
  obtain ⟨u, hu⟩ := h.2 j t' hj
  refine ⟨u, hu.trans ?_⟩
  by_cases e : j = k
  · subst e
    rw [ht] at hj; cases hj
    rw [if_neg (by omega), if_pos (by omega), hf]
  · by_cases e2 : j < k
    · rw [if_pos e2, if_pos (by omega)]
    · rw [if_neg e2, if_neg (by omega)]
theorem Mid.put {f : RcD × Nat → RcD × Nat} {ts : List (RcD × Nat)} {k : Nat} {xs : List RcV} {t : RcD × Nat} {y : RcV} (h : Mid f ts k xs) (ht : ts[k]? = some t) (hf : y.1 = (f t).1) : Mid f ts (k + 1) (xs.set k y) := by
  refine ⟨by rw [List.length_set]; exact h.1, fun j t' hj => ?_⟩
  by_cases e : j = k
  · subst e
    rw [ht] at hj; cases hj
    exact ⟨y.2, by rw [List.getElem?_set_self (by rw [h.1]; exact ltOf ht), if_pos (by omega), ← hf]⟩
  · obtain ⟨u, hu⟩ := h.2 j t' hj
    refine ⟨u, ?_⟩
    rw [List.getElem?_set_ne (fun h => e h.symm), hu]
    by_cases e2 : j < k
    · rw [if_pos e2, if_pos (by omega)]
    · rw [if_neg e2, if_neg (by omega)]
theorem lies_set {T : TypeId} {rs rs' : List Res} {xs : List RcV} {k : Nat} {y : RcV} (h : ∀ x ∈ xs, Lies T rs x) (hs : ∀ r ∈ rs, r ∈ rs') (hy : Lies T rs' y) : ∀ x ∈ xs.set k y, Lies T rs' x := fun x hx => by
  rcases List.mem_or_eq_of_mem_set hx with hx | rfl
  · exact (h x hx).mono hs
  · exact hy
theorem txs_len (es : List RcD) : ∀ i, (txsM es i).length ≤ i
  | 0 => Nat.le_refl _
  | i + 1 => by
    have := txs_len es i
    rw [txsM]
    split
    · omega
    · split
      · simp; omega
      · simp; omega
theorem lies_sq {T : TypeId} {x : RcV} {rs : List Res} {ops : List OpD} {p q : Int} (h : Lies T rs x) (e : x.1.ops = ops) : Lies T rs (⟨p, q, ops⟩, x.2) := by
  subst e
  exact h

theorem refOf_gives (es : List RcD) (a : Option Addr) (cap0 : Nat) (w0 : World) (hx : RcsAt w0 a es) :
    Gives Try.prog 17 [.slice a es.length cap0] w0 [] fun v h => OfR es v h := by
  refine gives_of Try.func17 rfl rfl rfl (Own.start w0) ?_
  refine TC_seq ?_
  refine TC_region ?_
  refine OL_sil rfl rfl rfl (Sil.assign rfl rfl) ?_
  refine OL_sil rfl rfl rfl (Sil.assign rfl rfl) ?_
  refine OL_sil rfl rfl rfl (Sil.assign rfl rfl) ?_
  refine OL_nil ?_
  refine TC_seq ?_
  refine TC_seq ?_
  refine TC_region ?_
  refine OL_sil rfl rfl rfl (Sil.move rfl rfl) ?_
  refine OL_sil rfl rfl rfl (Sil.lenSl rfl rfl Try.underlying22) ?_
  refine OL_sil rfl rfl rfl (Sil.gtr rfl rfl rfl) ?_
  refine OL_nil ?_
  refine TC_if rfl (fun ht15 => ?_) (fun ht15 => ?_)
  · refine TC_seq ?_
    refine TC_region ?_
    refine OL_sil rfl rfl rfl (Sil.assign rfl rfl) ?_
    refine OL_sil rfl rfl rfl (Sil.assign rfl rfl) ?_
    refine OL_sil rfl rfl rfl (Sil.assign rfl rfl) ?_
    refine OL_nil ?_
    refine TC_ret ?_
    exact ret3h rfl rfl rfl rfl (List.nil_sublist _) (OfR.many ht15)
  · refine TC_skip ?_
    refine TC_seq ?_
    refine TC_region ?_
    refine OL_loud rfl rfl rfl (LO.buildSlice0 (s := 3) rfl Try.underlying25 rfl) ?_
    rintro _ _ ⟨g0, rfl, rfl⟩
    refine OL_sil rfl rfl rfl (Sil.assign rfl rfl) ?_
    refine OL_nil ?_
    refine TC_seq ?_
    refine TC_region ?_
    refine OL_loud rfl rfl rfl (LO.buildSlice0 (s := 1) rfl Try.underlying37 rfl) ?_
    rintro _ _ ⟨g1, rfl, rfl⟩
    refine OL_own (fun w hw => hw.bag0) ?_
    refine OL_sil rfl rfl rfl (Sil.assign rfl rfl) ?_
    refine OL_nil ?_
    refine TC_seq ?_
    refine TC_seq ?_
    refine TC_region ?_
    refine OL_sil rfl rfl rfl (Sil.move rfl rfl) ?_
    refine OL_sil rfl rfl rfl (Sil.lenSl rfl rfl Try.underlying22) ?_
    refine OL_sil rfl rfl rfl (Sil.move rfl rfl) ?_
    refine OL_nil ?_
    refine TC_block ?_
    refine TC_loop (fun ((i, xs, ao, cap, ao2, cap2, rs) : Nat × List RcV × Option Addr × Nat × Option Addr × Nat × List Res) => [(0, .slice a es.length cap0), (5, .slice ao xs.length cap), (6, .slice ao2 xs.length cap2), (18, .slice a es.length cap0), (19, .int .i64 es.length), (20, .int .i64 i)]) (fun (i, xs, ao, cap, ao2, cap2, rs) => [sq ao xs.length cap 43 3 (rvsC xs), sq ao2 xs.length cap2 3 1 (frC (txsM es i)), bagR rs]) (fun (i, xs, ao, cap, ao2, cap2, rs) => i ≤ es.length ∧ (∀ j, j < i → errM es j = 0) ∧ xs.map (·.1) = (txsM es i).map (·.1) ∧ ∀ x ∈ xs, Lies 40 rs x) (fun (i, _) => es.length - i) (0, [], some ⟨g0, 0, none⟩, 0, some ⟨g1, 0, none⟩, 0, []) ?_ ?_
    · exact ⟨⟨Nat.zero_le _, fun j h => absurd h (by omega), rfl, fun x hx => by cases hx⟩, ⟨rfl, rfl, rfl, rfl, rfl, rfl, trivial⟩, List.Sublist.refl _⟩
    · rintro ⟨i, xs, ao, cap, ao2, cap2, rs⟩ ⟨hi, herr, hxs, hli⟩
      have hi : i ≤ es.length := hi
      have herr : ∀ j, j < i → errM es j = 0 := herr
      have hxs : xs.map (·.1) = (txsM es i).map (·.1) := hxs
      have hli : ∀ x ∈ xs, Lies 40 rs x := hli
      have hlen : xs.length = (txsM es i).length := by have := congrArg List.length hxs; simpa using this
      have htl := txs_len es i
      refine TC_seq ?_
      refine TC_region ?_
      refine OL_sil rfl rfl rfl (Sil.lss rfl rfl rfl) ?_
      refine OL_nil ?_
      refine TC_seq ?_
      refine TC_if rfl (fun ht21 => ?_) (fun ht21 => ?_)
      · obtain ⟨e, he⟩ := nthSome ht21
        have hil := ltOf he
        obtain ⟨x, u, rfl, hcx, a1, cap1, rfl, hu⟩ := hx.2 i e he
        obtain ⟨hp1, hp2⟩ := lastG_lt es e.q i
        refine TC_skip ?_
        refine TC_seq ?_
        refine TC_block ?_
        refine TC_seq ?_
        refine TC_region ?_
        refine OL_sil rfl rfl rfl (Sil.move rfl rfl) ?_
        refine OL_sil rfl rfl rfl (Sil.indexSl i rfl rfl rfl Try.underlying22 rfl rfl (by omega)) ?_
        refine OL_sil rfl rfl rfl (Sil.oldS rfl rfl hcx Try.underlying58 rfl rfl rfl) ?_
        refine OL_loud rfl rfl rfl (LO.alloc rfl rfl) ?_
        rintro _ _ ⟨b8, _, rfl, rfl⟩
        refine OL_sil rfl rfl rfl (Sil.assign rfl rfl) ?_
        refine OL_loud0 rfl rfl (by first | exact LO.storeAllV rfl rfl rfl (by first | exact at0 | exact at1 | exact at2 | exact at3 | exact at4 | exact at5 | exact at6 | exact at7 | exact at8 | exact at9 | exact at10 | exact at11 | exact at12 | exact at13 | exact at14 | exact at15) (by rfl) (by rfl) (by rfl) (by rfl) | exact LO.store1V rfl rfl rfl (by first | exact at0 | exact at1 | exact at2 | exact at3 | exact at4 | exact at5 | exact at6 | exact at7 | exact at8 | exact at9 | exact at10 | exact at11 | exact at12 | exact at13 | exact at14 | exact at15) (by rfl) (by rfl) (by rfl)) ?_
        rintro _ _ ⟨rfl, rfl⟩
        refine OL_nil ?_
        refine TC_seq ?_
        refine TC_seq ?_
        refine TC_region ?_
        refine OL_sil rfl rfl rfl (by first | exact Sil.ownV rfl rfl (by first | exact at0 | exact at1 | exact at2 | exact at3 | exact at4 | exact at5 | exact at6 | exact at7 | exact at8 | exact at9 | exact at10 | exact at11 | exact at12 | exact at13 | exact at14 | exact at15) Try.underlying58 rfl (by rfl) | exact Sil.wholeV rfl rfl (by first | exact at0 | exact at1 | exact at2 | exact at3 | exact at4 | exact at5 | exact at6 | exact at7 | exact at8 | exact at9 | exact at10 | exact at11 | exact at12 | exact at13 | exact at14 | exact at15) ⟨Try.underlying58, rfl⟩ rfl (by rfl)) ?_
        refine OL_pure rfl rfl rfl (LO.pure rfl ent36 rfl (fun w hw => right_gives e _ w ⟨a1, cap1, rfl, hu.keep hw.keep⟩)) ?_
        refine OL_sil rfl rfl rfl (Sil.not rfl rfl) ?_
        refine OL_nil ?_
        refine TC_ifn rfl (fun ht27 => ?_) (fun ht27 => ?_)
        · refine TC_seq ?_
          refine TC_region ?_
          refine OL_sil rfl rfl rfl (Sil.move rfl rfl) ?_
          refine OL_sil rfl rfl rfl (Sil.assign rfl rfl) ?_
          refine OL_sil rfl rfl rfl (Sil.assign rfl rfl) ?_
          refine OL_sil rfl rfl rfl (Sil.assign rfl rfl) ?_
          refine OL_nil ?_
          refine TC_ret ?_
          exact ret3h rfl rfl rfl rfl (List.nil_sublist _) (OfR.err ht15 herr (errM_20 he ht27) (by decide) hil)
        · have hops : e.ops.length ≤ 12 := by
            have := ht27.1
            unfold badH at this
            omega
          refine TC_skip ?_
          refine TC_seq ?_
          refine TC_region ?_
          refine OL_sil rfl rfl rfl (Sil.move rfl rfl) ?_
          refine OL_sil rfl rfl rfl (Sil.move rfl rfl) ?_
          refine OL_pure rfl rfl rfl (LO.pure rfl ent37 rfl (fun w hw => last_gives es i e he (some x) cap0 w (hx.keep hw.keep))) ?_
          refine OL_sil rfl rfl rfl (Sil.assign rfl rfl) ?_
          refine OL_nil ?_
          refine TC_seq ?_
          refine TC_bool 10 (opB es e.q i = true) ?_ ?_
          · refine TC_region ?_
            refine OL_sil rfl rfl rfl (Sil.move rfl rfl) ?_
            refine OL_sil rfl rfl rfl (Sil.geq rfl rfl rfl) ?_
            refine OL_sil rfl rfl rfl (Sil.move rfl rfl) ?_
            refine OL_dec 34 rfl (fun ht34 => ?_) (fun ht34 => ?_)
            · obtain ⟨ep, hep⟩ : ∃ ep, es[(lastG es e.q i).toNat]? = some ep := ⟨_, List.getElem?_eq_getElem (by omega)⟩
              obtain ⟨x', up, hx', hcp, ap, capp, rfl, hup⟩ := hx.2 _ ep hep
              cases hx'
              refine OL_sil rfl rfl rfl (Sil.move rfl rfl) ?_
              refine OL_sil rfl rfl rfl (Sil.move rfl rfl) ?_
              refine OL_sil rfl rfl rfl (Sil.indexSl (lastG es e.q i).toNat rfl rfl rfl Try.underlying22 rfl (by omega) (by omega)) ?_
              refine OL_sil rfl rfl rfl (Sil.fieldAdd 0 rfl rfl Try.underlying58 rfl rfl) ?_
              refine OL_sil rfl rfl rfl (Sil.oldF 0 rfl (by rw [← add_add]; rfl) hcp Try.underlying3 rfl rfl) ?_
              refine OL_sil rfl rfl rfl (Sil.eql rfl rfl rfl) ?_
              refine OL_sil rfl rfl rfl (Sil.pick1 rfl rfl rfl) ?_
              refine OL_sil rfl rfl rfl (Sil.assign rfl rfl) ?_
              refine OL_nil ?_
              refine Cont.then_intro (And.intro (by (repeat' (first | exact trivial | refine ⟨rfl, ?_⟩))) (And.intro ?_ rfl)); first | exact slotV rfl (congrArg Value.bool (by rw [opB_neg ht34]; rfl)) | exact slotV rfl (congrArg Value.bool (by rw [opB_pos ht34 hep]; simp))
            · refine OL_skip rfl rfl rfl ?_
              refine OL_skip rfl rfl rfl ?_
              refine OL_skip rfl rfl rfl ?_
              refine OL_skip rfl rfl rfl ?_
              refine OL_skip rfl rfl rfl ?_
              refine OL_skip rfl rfl rfl ?_
              refine OL_sil rfl rfl rfl (Sil.pick0 rfl rfl rfl) ?_
              refine OL_sil rfl rfl rfl (Sil.assign rfl rfl) ?_
              refine OL_nil ?_
              refine Cont.then_intro (And.intro (by (repeat' (first | exact trivial | refine ⟨rfl, ?_⟩))) (And.intro ?_ rfl)); first | exact slotV rfl (congrArg Value.bool (by rw [opB_neg ht34]; rfl)) | exact slotV rfl (congrArg Value.bool (by rw [opB_pos ht34 hep]; simp))
          refine TC_seq ?_
          refine TC_seq ?_
          refine TC_region ?_
          refine OL_sil rfl rfl rfl (Sil.move rfl rfl) ?_
          refine OL_sil rfl rfl rfl (Sil.fieldLoc 0 rfl rfl Try.underlying58 rfl rfl) ?_
          refine OL_sil rfl rfl rfl (by exact Sil.ownV rfl rfl (by first | exact at0 | exact at1 | exact at2 | exact at3 | exact at4 | exact at5 | exact at6 | exact at7 | exact at8 | exact at9 | exact at10 | exact at11 | exact at12 | exact at13 | exact at14 | exact at15) Try.underlying3 rfl (by rfl)) ?_
          refine OL_sil rfl rfl rfl (Sil.eql rfl rfl rfl) ?_
          refine OL_sil rfl rfl rfl (Sil.eqlB rfl rfl rfl Try.underlying4) ?_
          refine OL_nil ?_
          refine TC_cond rfl (fun ht46 => ?_) (fun ht46 => ?_)
          · refine TC_seq ?_
            refine TC_region ?_
            refine OL_sil rfl rfl rfl (Sil.move rfl rfl) ?_
            refine OL_sil rfl rfl rfl (Sil.assign rfl rfl) ?_
            refine OL_sil rfl rfl rfl (Sil.assign rfl rfl) ?_
            refine OL_sil rfl rfl rfl (Sil.assign rfl rfl) ?_
            refine OL_nil ?_
            refine TC_ret ?_
            exact ret3h rfl rfl rfl rfl (List.nil_sublist _) (OfR.err ht15 herr (errM_21 he ht27 ht46) (by decide) hil)
          · refine TC_skip ?_
            refine TC_seq ?_
            refine TC_seq ?_
            refine TC_region ?_
            refine OL_sil rfl rfl rfl (Sil.fieldLoc 0 rfl rfl Try.underlying58 rfl rfl) ?_
            refine OL_sil rfl rfl rfl (by exact Sil.ownV rfl rfl (by first | exact at0 | exact at1 | exact at2 | exact at3 | exact at4 | exact at5 | exact at6 | exact at7 | exact at8 | exact at9 | exact at10 | exact at11 | exact at12 | exact at13 | exact at14 | exact at15) Try.underlying3 rfl (by rfl)) ?_
            refine OL_sil rfl rfl rfl (Sil.eql rfl rfl rfl) ?_
            refine OL_nil ?_
            refine TC_if rfl (fun ht50 => ?_) (fun ht50 => ?_)
            · refine TC_seq ?_
              refine TC_seq ?_
              refine TC_region ?_
              refine OL_sil rfl rfl rfl (Sil.move rfl rfl) ?_
              refine OL_sil rfl rfl rfl (Sil.move rfl rfl) ?_
              refine OL_loud rfl rfl rfl (LO.calls rfl ent38 rfl (fun w hw => twice_gives es i e he (some x) cap0 w (hx.keep hw.keep))) ?_
              rintro _ _ ⟨_, ⟨bt, rfl, htw, rfl⟩, rfl⟩
              refine OL_nil ?_
              refine TC_cond rfl (fun ht53 => ?_) (fun ht53 => ?_)
              · refine TC_seq ?_
                refine TC_region ?_
                refine OL_sil rfl rfl rfl (Sil.move rfl rfl) ?_
                refine OL_sil rfl rfl rfl (Sil.assign rfl rfl) ?_
                refine OL_sil rfl rfl rfl (Sil.assign rfl rfl) ?_
                refine OL_sil rfl rfl rfl (Sil.assign rfl rfl) ?_
                refine OL_nil ?_
                refine TC_ret ?_
                exact ret3h rfl rfl rfl rfl (List.nil_sublist _) (OfR.err ht15 herr ((errM_23 he ht27 ht46 ht50).trans (if_pos (htw.1 ht53))) (by decide) hil)
              · have herr1 : errM es i = 0 := (errM_23 he ht27 ht46 ht50).trans (if_neg (fun h => by rw [htw.2 h] at ht53; cases ht53))
                refine TC_skip ?_
                refine TC_seq ?_
                refine TC_drawS [blk b8 (.cells (rcC e (.slice a1 e.ops.length cap1)).toArray 58 (0, 0))] (by (repeat' (first | exact all_nil | refine all_cons (by repeat (first | exact List.Mem.head _ | refine List.Mem.tail _ ?_)) ?_))) rfl (fun j => false) ?_
                intro hs0
                refine DL_take 0 rfl (by kernel_rfl) rfl rfl rfl (Sil.move rfl rfl) (by (repeat' (first | exact all_nil | refine all_cons (by repeat (first | exact List.Mem.head _ | refine List.Mem.tail _ ?_)) ?_))) ?_
                refine DL_take 1 rfl (by kernel_rfl) rfl rfl rfl (Sil.fieldLoc 1 rfl rfl Try.underlying58 rfl rfl) (by (repeat' (first | exact all_nil | refine all_cons (by repeat (first | exact List.Mem.head _ | refine List.Mem.tail _ ?_)) ?_))) ?_
                refine DL_take 2 rfl (by kernel_rfl) rfl rfl rfl (by exact Sil.ownV rfl rfl (by first | exact at0 | exact at1 | exact at2 | exact at3 | exact at4 | exact at5 | exact at6 | exact at7 | exact at8 | exact at9 | exact at10 | exact at11 | exact at12 | exact at13 | exact at14 | exact at15) Try.underlying3 rfl (by rfl)) (by (repeat' (first | exact all_nil | refine all_cons (by repeat (first | exact List.Mem.head _ | refine List.Mem.tail _ ?_)) ?_))) ?_
                refine DL_take 4 rfl (by kernel_rfl) rfl rfl rfl (Sil.fieldLoc 2 rfl rfl Try.underlying58 rfl rfl) (by (repeat' (first | exact all_nil | refine all_cons (by repeat (first | exact List.Mem.head _ | refine List.Mem.tail _ ?_)) ?_))) ?_
                refine DL_take 5 rfl (by kernel_rfl) rfl rfl rfl (by exact Sil.ownV rfl rfl (by first | exact at0 | exact at1 | exact at2 | exact at3 | exact at4 | exact at5 | exact at6 | exact at7 | exact at8 | exact at9 | exact at10 | exact at11 | exact at12 | exact at13 | exact at14 | exact at15) Try.underlying41 rfl (by rfl)) (by (repeat' (first | exact all_nil | refine all_cons (by repeat (first | exact List.Mem.head _ | refine List.Mem.tail _ ?_)) ?_))) ?_
                refine DL_one 3 (by kernel_rfl) ?_
                refine DS_loud rfl rfl rfl rfl (LO.buildSlice0 (s := 3) rfl Try.underlying41 rfl) ?_
                rintro _ _ ⟨g3, rfl, rfl⟩
                refine ⟨.inr (by (repeat' (first | exact all_nil | refine all_cons (by repeat (first | exact List.Mem.head _ | refine List.Mem.tail _ ?_)) ?_))), ?_⟩
                refine DL_one 6 (by kernel_rfl) ?_
                refine DS_loud rfl rfl rfl rfl (LO.appendV 4 (opsC e.ops) rfl rfl rfl rfl elOp (opsC_length _) (newsOps hu) (opsC_one _) (by unfold maxLen; omega) (by omega)) ?_
                rintro _ _ ⟨g4, cap4, rfl, rfl⟩
                refine ⟨.inr (by (repeat' (first | exact all_nil | refine all_cons (by repeat (first | exact List.Mem.head _ | refine List.Mem.tail _ ?_)) ?_))), ?_⟩
                refine DL_take 7 rfl (by kernel_rfl) rfl rfl rfl (Sil.buildS (vs := [(0, .int .i64 e.q), (2, .slice g4 (0 + e.ops.length) cap4)]) (cs := (rcC ⟨e.q, 0, e.ops⟩ (.slice g4 (0 + e.ops.length) cap4)).toArray) (ss := [1, 1, 1]) rfl rfl Try.underlying43 rfl rfl rfl) (by (repeat' (first | exact all_nil | refine all_cons (by repeat (first | exact List.Mem.head _ | refine List.Mem.tail _ ?_)) ?_))) ?_
                refine DL_one 8 (by kernel_rfl) ?_
                refine DS_loud rfl rfl rfl rfl (LO.buildSlice1 rfl rfl Try.underlying25 rfl rfl rfl) ?_
                rintro _ _ ⟨tb, rfl, rfl⟩
                refine ⟨.inr (by (repeat' (first | exact all_nil | refine all_cons (by repeat (first | exact List.Mem.head _ | refine List.Mem.tail _ ?_)) ?_))), ?_⟩
                refine DL_one 9 (by kernel_rfl) ?_
                refine DS_loud rfl rfl rfl rfl (LO.append 0 (rcC ⟨e.q, 0, e.ops⟩ (.slice g4 (0 + e.ops.length) cap4)) rfl rfl rfl rfl elTx rfl (fun w hw => hw.cells (i := 5) rfl) (by simp [rcC, oneC]) (by unfold maxLen; omega) (by omega)) ?_
                rintro _ _ ⟨ao1, cap5, rfl, rfl⟩
                refine ⟨.inr (by (repeat' (first | exact all_nil | refine all_cons (by repeat (first | exact List.Mem.head _ | refine List.Mem.tail _ ?_)) ?_))), ?_⟩
                refine DL_take 10 rfl (by kernel_rfl) rfl rfl rfl (Sil.assign rfl rfl) (by (repeat' (first | exact all_nil | refine all_cons (by repeat (first | exact List.Mem.head _ | refine List.Mem.tail _ ?_)) ?_))) ?_
                refine DL_done (by kernel_rfl) ?_
                refine TC_know (fun w hw => lies_of (p := e.q) (q := 0) (rs := rs) (hw.mine _ (List.mem_of_getElem? (i := 4) rfl))) (fun hlies => ?_)
                refine TC_own (fun w hw => hw.bagPut (A := [_, _]) (B := [_]) (C := [_]) rfl) ?_
                refine TC_seq ?_
                refine TC_region ?_
                refine OL_sil rfl rfl rfl (Sil.move rfl rfl) ?_
                refine OL_sil rfl rfl rfl (Sil.move rfl rfl) ?_
                refine OL_loud rfl rfl rfl (LO.buildSlice1 (s := 0) rfl rfl Try.underlying37 rfl rfl rfl) ?_
                rintro _ _ ⟨tb2, rfl, rfl⟩
                refine OL_loud rfl rfl rfl (LO.append 1 [.int .i64 i] rfl rfl rfl rfl elI rfl (fun w hw => hw.cells (i := 5) rfl) (by simp [oneC]) (by unfold maxLen; omega) (by omega)) ?_
                rintro _ _ ⟨ao6, cap6, rfl, rfl⟩
                refine OL_sil rfl rfl rfl (Sil.assign rfl rfl) ?_
                refine OL_nil ?_
                refine TC_exit ?_
                refine TC_region ?_
                refine OL_sil rfl rfl rfl (Sil.add rfl rfl rfl (by omega) (by omega)) ?_
                refine OL_sil rfl rfl rfl (Sil.move rfl rfl) ?_
                refine OL_nil ?_
                refine ⟨(i + 1, xs ++ [(⟨e.q, 0, e.ops⟩, .slice g4 (0 + e.ops.length) cap4)], ao1, cap5, ao6, cap6, rs ++ [sq g4 (0 + e.ops.length) cap4 40 3 ([] ++ opsC e.ops)]), ⟨⟨by show i + 1 ≤ es.length; omega, noErr_succ herr herr1, ?_, ?_⟩, ⟨rfl, slotV rfl (by simp), slotV rfl (by simp), rfl, rfl, rfl, trivial⟩, ?_⟩, by show es.length - (i + 1) < es.length - i; omega⟩
                · show (xs ++ [(_ : RcV)]).map (·.1) = (txsM es (i + 1)).map (·.1)
                  rw [txsM_inv he ht50, List.map_append, List.map_append, hxs]
                  rfl
                · intro y hy
                  rcases List.mem_append.1 hy with hy | hy
                  · exact (hli y hy).mono fun r hr => List.mem_append_left _ hr
                  · rw [List.mem_singleton.1 hy]; exact hlies
                · show List.Sublist [sq ao1 (xs ++ [_]).length cap5 _ 3 (rvsC (xs ++ [_])), sq ao6 (xs ++ [_]).length cap6 _ 1 (frC (txsM es (i + 1))), bagR _] _
                  rw [← rvsC_snoc, List.length_append, txsM_inv he ht50, show frC (txsM es i ++ [(⟨e.q, 0, e.ops⟩, i)]) = frC (txsM es i) ++ [.int .i64 i] from by simp [frC]]
                  exact List.Sublist.cons_cons _ (List.Sublist.cons_cons _ (List.Sublist.cons_cons _ (List.nil_sublist _)))
            · have hop : opB es e.q i = true := by
                cases hb : opB es e.q i with
                | true => rfl
                | false => rw [hb] at ht46; simp [ht50] at ht46
              obtain ⟨hp0, ep, hep, hep1, hepq⟩ := opB_true hop
              obtain ⟨x', up, hx', hcp, ap, capp, rfl, hup⟩ := hx.2 _ ep hep
              cases hx'
              refine TC_skip ?_
              refine TC_seq ?_
              refine TC_seq ?_
              refine TC_bool 77 (e.p ≠ 2 ∧ (e.ops.length : Int) > 0) ?_ ?_
              · refine TC_region ?_
                refine OL_sil rfl rfl rfl (Sil.fieldLoc 0 rfl rfl Try.underlying58 rfl rfl) ?_
                refine OL_sil rfl rfl rfl (by exact Sil.ownV rfl rfl (by first | exact at0 | exact at1 | exact at2 | exact at3 | exact at4 | exact at5 | exact at6 | exact at7 | exact at8 | exact at9 | exact at10 | exact at11 | exact at12 | exact at13 | exact at14 | exact at15) Try.underlying3 rfl (by rfl)) ?_
                refine OL_sil rfl rfl rfl (Sil.neq rfl rfl rfl) ?_
                refine OL_sil rfl rfl rfl (Sil.move rfl rfl) ?_
                refine OL_decn 72 rfl (fun ht72 => ?_) (fun ht72 => ?_)
                · refine OL_sil rfl rfl rfl (Sil.fieldLoc 2 rfl rfl Try.underlying58 rfl rfl) ?_
                  refine OL_sil rfl rfl rfl (by exact Sil.ownV rfl rfl (by first | exact at0 | exact at1 | exact at2 | exact at3 | exact at4 | exact at5 | exact at6 | exact at7 | exact at8 | exact at9 | exact at10 | exact at11 | exact at12 | exact at13 | exact at14 | exact at15) Try.underlying41 rfl (by rfl)) ?_
                  refine OL_sil rfl rfl rfl (Sil.lenSl rfl rfl Try.underlying41) ?_
                  refine OL_sil rfl rfl rfl (Sil.gtr rfl rfl rfl) ?_
                  refine OL_sil rfl rfl rfl (Sil.pick1 rfl rfl rfl) ?_
                  refine OL_nil ?_
                  (refine Cont.then_intro (And.intro (by (repeat' (first | exact trivial | refine ⟨rfl, ?_⟩))) (And.intro ?_ rfl)); first | exact slotV rfl (congrArg Value.bool (decide_eq_true (by omega)).symm) | exact slotV rfl (congrArg Value.bool (decide_eq_false (by omega)).symm) | exact slotV rfl (congrArg Value.bool (decide_eq_decide.2 (by omega))) | exact slotV rfl (congrArg Value.bool (decide_not.symm.trans (decide_eq_decide.2 (by omega)))))
                · refine OL_skip rfl rfl rfl ?_
                  refine OL_skip rfl rfl rfl ?_
                  refine OL_skip rfl rfl rfl ?_
                  refine OL_skip rfl rfl rfl ?_
                  refine OL_sil rfl rfl rfl (Sil.pick0 rfl rfl rfl) ?_
                  refine OL_nil ?_
                  (refine Cont.then_intro (And.intro (by (repeat' (first | exact trivial | refine ⟨rfl, ?_⟩))) (And.intro ?_ rfl)); first | exact slotV rfl (congrArg Value.bool (decide_eq_true (by omega)).symm) | exact slotV rfl (congrArg Value.bool (decide_eq_false (by omega)).symm) | exact slotV rfl (congrArg Value.bool (decide_eq_decide.2 (by omega))) | exact slotV rfl (congrArg Value.bool (decide_not.symm.trans (decide_eq_decide.2 (by omega)))))
              refine TC_if rfl (fun ht77 => ?_) (fun ht77 => ?_)
              · refine TC_seq ?_
                refine TC_region ?_
                refine OL_sil rfl rfl rfl (Sil.move rfl rfl) ?_
                refine OL_sil rfl rfl rfl (Sil.assign rfl rfl) ?_
                refine OL_sil rfl rfl rfl (Sil.assign rfl rfl) ?_
                refine OL_sil rfl rfl rfl (Sil.assign rfl rfl) ?_
                refine OL_nil ?_
                refine TC_ret ?_
                exact ret3h rfl rfl rfl rfl (List.nil_sublist _) (OfR.err ht15 herr (errM_22 he ht27 ht46 ht50 ht77) (by decide) hil)
              · refine TC_skip ?_
                refine TC_seq ?_
                refine TC_seq ?_
                refine TC_region ?_
                refine OL_sil rfl rfl rfl (Sil.fieldLoc 0 rfl rfl Try.underlying58 rfl rfl) ?_
                refine OL_sil rfl rfl rfl (by exact Sil.ownV rfl rfl (by first | exact at0 | exact at1 | exact at2 | exact at3 | exact at4 | exact at5 | exact at6 | exact at7 | exact at8 | exact at9 | exact at10 | exact at11 | exact at12 | exact at13 | exact at14 | exact at15) Try.underlying3 rfl (by rfl)) ?_
                refine OL_sil rfl rfl rfl (Sil.eql rfl rfl rfl) ?_
                refine OL_nil ?_
                refine TC_cut (fun _ : Unit => [(0, .slice (some x) es.length cap0), (5, .slice ao xs.length cap), (6, .slice ao2 xs.length cap2), (8, .pointer (some ⟨b8, 0, none⟩)), (9, .int .i64 (lastG es e.q i)), (18, .slice (some x) es.length cap0), (19, .int .i64 es.length), (20, .int .i64 i)]) (fun _ => [sq ao xs.length cap 43 3 (rvsC xs), sq ao2 xs.length cap2 3 1 (frC (txsM es i)), bagR rs, blk b8 (.cells (rcC e (.slice a1 e.ops.length cap1)).toArray 58 (0, 0))]) (fun _ => errM es i = 0) ?_ ?_
                · refine TC_if rfl (fun ht81 => ?_) (fun ht81 => ?_)
                  · refine TC_seq ?_
                    refine TC_drawS [blk b8 (.cells (rcC e (.slice a1 e.ops.length cap1)).toArray 58 (0, 0))] (by (repeat' (first | exact all_nil | refine all_cons (by repeat (first | exact List.Mem.head _ | refine List.Mem.tail _ ?_)) ?_))) rfl (fun j => false) ?_
                    intro hs0
                    refine DL_take 0 rfl (by kernel_rfl) rfl rfl rfl (Sil.move rfl rfl) (by (repeat' (first | exact all_nil | refine all_cons (by repeat (first | exact List.Mem.head _ | refine List.Mem.tail _ ?_)) ?_))) ?_
                    refine DL_take 1 rfl (by kernel_rfl) rfl rfl rfl (Sil.move rfl rfl) (by (repeat' (first | exact all_nil | refine all_cons (by repeat (first | exact List.Mem.head _ | refine List.Mem.tail _ ?_)) ?_))) ?_
                    refine DL_take 2 rfl (by kernel_rfl) rfl rfl rfl (Sil.indexSl (lastG es e.q i).toNat rfl rfl rfl Try.underlying22 rfl (by omega) (by omega)) (by (repeat' (first | exact all_nil | refine all_cons (by repeat (first | exact List.Mem.head _ | refine List.Mem.tail _ ?_)) ?_))) ?_
                    refine DL_take 3 rfl (by kernel_rfl) rfl rfl rfl (Sil.fieldAdd 2 rfl rfl Try.underlying58 rfl rfl) (by (repeat' (first | exact all_nil | refine all_cons (by repeat (first | exact List.Mem.head _ | refine List.Mem.tail _ ?_)) ?_))) ?_
                    refine DL_take 4 rfl (by kernel_rfl) rfl rfl rfl (Sil.oldF 2 rfl (by rw [← add_add]; rfl) hcp Try.underlying41 rfl rfl) (by (repeat' (first | exact all_nil | refine all_cons (by repeat (first | exact List.Mem.head _ | refine List.Mem.tail _ ?_)) ?_))) ?_
                    refine DL_take 5 rfl (by kernel_rfl) rfl rfl rfl (Sil.fieldLoc 2 rfl rfl Try.underlying58 rfl rfl) (by (repeat' (first | exact all_nil | refine all_cons (by repeat (first | exact List.Mem.head _ | refine List.Mem.tail _ ?_)) ?_))) ?_
                    refine DL_take 6 rfl (by kernel_rfl) rfl rfl rfl (by exact Sil.ownV rfl rfl (by first | exact at0 | exact at1 | exact at2 | exact at3 | exact at4 | exact at5 | exact at6 | exact at7 | exact at8 | exact at9 | exact at10 | exact at11 | exact at12 | exact at13 | exact at14 | exact at15) Try.underlying41 rfl (by rfl)) (by (repeat' (first | exact all_nil | refine all_cons (by repeat (first | exact List.Mem.head _ | refine List.Mem.tail _ ?_)) ?_))) ?_
                    refine DL_one 7 (by kernel_rfl) ?_
                    refine DS_loud rfl rfl rfl rfl (LO.pure rfl ent39 rfl (fun w hw => answer_gives ep.ops e.ops ap a1 capp cap1 w (hup.keep hw.keep) (hu.keep hw.keep))) ?_
                    rintro _ _ ⟨rfl, rfl⟩
                    refine ⟨.inr (by (repeat' (first | exact all_nil | refine all_cons (by repeat (first | exact List.Mem.head _ | refine List.Mem.tail _ ?_)) ?_))), ?_⟩
                    refine DL_take 8 rfl (by kernel_rfl) rfl rfl rfl (Sil.assign rfl rfl) (by (repeat' (first | exact all_nil | refine all_cons (by repeat (first | exact List.Mem.head _ | refine List.Mem.tail _ ?_)) ?_))) ?_
                    refine DL_done (by kernel_rfl) ?_
                    refine TC_seq ?_
                    refine TC_region ?_
                    refine OL_sil rfl rfl rfl (Sil.move rfl rfl) ?_
                    refine OL_sil rfl rfl rfl (Sil.neq rfl rfl rfl) ?_
                    refine OL_nil ?_
                    refine TC_ifn rfl (fun ht91 => ?_) (fun ht91 => ?_)
                    · refine TC_seq ?_
                      refine TC_region ?_
                      refine OL_sil rfl rfl rfl (Sil.move rfl rfl) ?_
                      refine OL_sil rfl rfl rfl (Sil.move rfl rfl) ?_
                      refine OL_sil rfl rfl rfl (Sil.assign rfl rfl) ?_
                      refine OL_sil rfl rfl rfl (Sil.assign rfl rfl) ?_
                      refine OL_sil rfl rfl rfl (Sil.assign rfl rfl) ?_
                      refine OL_nil ?_
                      refine TC_ret ?_
                      exact ret3h rfl rfl rfl rfl (List.nil_sublist _) (OfR.err ht15 herr (errM_ans he ht27 ht46 ht81 hep) ht91 hil)
                    · refine TC_skip ?_
                      exact ⟨(), (errM_ans he ht27 ht46 ht81 hep).trans ht91, ⟨rfl, rfl, rfl, rfl, rfl, rfl, rfl, rfl, trivial⟩, List.Sublist.refl _⟩
                  · refine TC_skip ?_
                    exact ⟨(), errM_end he ht27 ht46 ht50 ht77 ht81, ⟨rfl, rfl, rfl, rfl, rfl, rfl, rfl, rfl, trivial⟩, List.Sublist.refl _⟩
                · intro _ herr1
                  refine TC_seq ?_
                  refine TC_region ?_
                  refine OL_sil rfl rfl rfl (Sil.move rfl rfl) ?_
                  refine OL_sil rfl rfl rfl (Sil.lenSl rfl rfl Try.underlying25) ?_
                  refine OL_sil rfl rfl rfl (Sil.move rfl rfl) ?_
                  refine OL_nil ?_
                  refine TC_block ?_
                  refine TC_loop (fun ((k, xs', rs') : Nat × List RcV × List Res) => [(0, .slice (some x) es.length cap0), (5, .slice ao xs.length cap), (6, .slice ao2 xs.length cap2), (8, .pointer (some ⟨b8, 0, none⟩)), (9, .int .i64 (lastG es e.q i)), (18, .slice (some x) es.length cap0), (19, .int .i64 es.length), (20, .int .i64 i), (95, .int .i64 xs.length), (96, .int .i64 k)]) (fun (k, xs', rs') => [sq ao xs.length cap 43 3 (rvsC xs'), sq ao2 xs.length cap2 3 1 (frC (txsM es i)), bagR rs', blk b8 (.cells (rcC e (.slice a1 e.ops.length cap1)).toArray 58 (0, 0))]) (fun (k, xs', rs') => k ≤ xs.length ∧ Mid (stepT e (lastG es e.q i)) (txsM es i) k xs' ∧ ∀ x ∈ xs', Lies 40 rs' x) (fun (k, _) => xs.length - k) (0, xs, rs) ?_ ?_
                  · exact ⟨⟨Nat.zero_le _, Mid.start hxs, hli⟩, ⟨rfl, rfl, rfl, rfl, rfl, rfl, rfl, rfl, rfl, rfl, trivial⟩, List.Sublist.refl _⟩
                  · rintro ⟨k, xs', rs'⟩ ⟨hk, hmid, hli'⟩
                    have hk : k ≤ xs.length := hk
                    have hmid : Mid (stepT e (lastG es e.q i)) (txsM es i) k xs' := hmid
                    have hli' : ∀ x ∈ xs', Lies 40 rs' x := hli'
                    refine TC_seq ?_
                    refine TC_region ?_
                    refine OL_sil rfl rfl rfl (Sil.lss rfl rfl rfl) ?_
                    refine OL_nil ?_
                    refine TC_seq ?_
                    refine TC_if rfl (fun ht97 => ?_) (fun ht97 => ?_)
                    · obtain ⟨t, ht⟩ : ∃ t, (txsM es i)[k]? = some t := ⟨_, List.getElem?_eq_getElem (by omega)⟩
                      obtain ⟨ut, hut⟩ := hmid.2 k t ht
                      rw [if_neg (by omega)] at hut
                      have hlt := hli' _ (List.mem_of_getElem? hut)
                      refine TC_know (fun w hw => hw.sqSome (i := 0) rfl (by omega)) (fun hsome => ?_)
                      obtain ⟨g5, rfl⟩ := hsome
                      refine TC_know (fun w hw => hw.sqSome (i := 1) rfl (by omega)) (fun hsome => ?_)
                      obtain ⟨g6, rfl⟩ := hsome
                      refine TC_skip ?_
                      refine TC_seq ?_
                      refine TC_block ?_
                      refine TC_seq ?_
                      refine TC_region ?_
                      refine OL_sil rfl rfl rfl (Sil.move rfl rfl) ?_
                      refine OL_sil rfl rfl rfl (Sil.assign rfl rfl) ?_
                      refine OL_nil ?_
                      refine TC_seq ?_
                      refine TC_seq ?_
                      refine TC_bool 109 ((t.2 : Int) = lastG es e.q i ∧ e.p = 2) ?_ ?_
                      · refine TC_region ?_
                        refine OL_sil rfl rfl rfl (Sil.move rfl rfl) ?_
                        refine OL_sil rfl rfl rfl (Sil.move rfl rfl) ?_
                        refine OL_sil rfl rfl rfl (Sil.indexOwn1 k rfl rfl rfl Try.underlying37 rfl rfl (by omega)) ?_
                        refine OL_sil rfl rfl rfl (Sil.sqLoad 1 rfl rfl rfl Try.underlying3 rfl (frC_at ht)) ?_
                        refine OL_sil rfl rfl rfl (Sil.move rfl rfl) ?_
                        refine OL_sil rfl rfl rfl (Sil.eql rfl rfl rfl) ?_
                        refine OL_sil rfl rfl rfl (Sil.move rfl rfl) ?_
                        refine OL_dec 105 rfl (fun ht105 => ?_) (fun ht105 => ?_)
                        · refine OL_sil rfl rfl rfl (Sil.fieldLoc 0 rfl rfl Try.underlying58 rfl rfl) ?_
                          refine OL_sil rfl rfl rfl (by exact Sil.ownV rfl rfl (by first | exact at0 | exact at1 | exact at2 | exact at3 | exact at4 | exact at5 | exact at6 | exact at7 | exact at8 | exact at9 | exact at10 | exact at11 | exact at12 | exact at13 | exact at14 | exact at15) Try.underlying3 rfl (by rfl)) ?_
                          refine OL_sil rfl rfl rfl (Sil.eql rfl rfl rfl) ?_
                          refine OL_sil rfl rfl rfl (Sil.pick1 rfl rfl rfl) ?_
                          refine OL_nil ?_
                          (refine Cont.then_intro (And.intro (by (repeat' (first | exact trivial | refine ⟨rfl, ?_⟩))) (And.intro ?_ rfl)); first | exact slotV rfl (congrArg Value.bool (decide_eq_true (by omega)).symm) | exact slotV rfl (congrArg Value.bool (decide_eq_false (by omega)).symm) | exact slotV rfl (congrArg Value.bool (decide_eq_decide.2 (by omega))) | exact slotV rfl (congrArg Value.bool (decide_not.symm.trans (decide_eq_decide.2 (by omega)))))
                        · refine OL_skip rfl rfl rfl ?_
                          refine OL_skip rfl rfl rfl ?_
                          refine OL_skip rfl rfl rfl ?_
                          refine OL_sil rfl rfl rfl (Sil.pick0 rfl rfl rfl) ?_
                          refine OL_nil ?_
                          (refine Cont.then_intro (And.intro (by (repeat' (first | exact trivial | refine ⟨rfl, ?_⟩))) (And.intro ?_ rfl)); first | exact slotV rfl (congrArg Value.bool (decide_eq_true (by omega)).symm) | exact slotV rfl (congrArg Value.bool (decide_eq_false (by omega)).symm) | exact slotV rfl (congrArg Value.bool (decide_eq_decide.2 (by omega))) | exact slotV rfl (congrArg Value.bool (decide_not.symm.trans (decide_eq_decide.2 (by omega)))))
                      refine TC_if rfl (fun ht109 => ?_) (fun ht109 => ?_)
                      · refine TC_seq ?_
                        refine TC_region ?_
                        refine OL_sil rfl rfl rfl (Sil.move rfl rfl) ?_
                        refine OL_sil rfl rfl rfl (Sil.move rfl rfl) ?_
                        refine OL_sil rfl rfl rfl (Sil.indexOwn k rfl rfl rfl Try.underlying25 rfl rfl (by omega)) ?_
                        refine OL_sil rfl rfl rfl (Sil.fieldLoc 1 rfl rfl Try.underlying43 rfl rfl) ?_
                        refine OL_loud0 rfl rfl (LO.sqStoreAs 0 rfl rfl rfl rfl rfl rfl rfl (by show k * 3 + 1 < xs.length * 3; omega) (rvsC_set1 hut 1)) ?_
                        rintro _ _ ⟨rfl, rfl⟩
                        refine OL_nil ?_
                        refine TC_region ?_
                        refine OL_sil rfl rfl rfl (Sil.move rfl rfl) ?_
                        refine OL_sil rfl rfl rfl (Sil.move rfl rfl) ?_
                        refine OL_loud rfl rfl rfl (LO.buildSlice0 (s := 3) rfl Try.underlying41 rfl) ?_
                        rintro _ _ ⟨g3, rfl, rfl⟩
                        refine OL_sil rfl rfl rfl (Sil.fieldLoc 2 rfl rfl Try.underlying58 rfl rfl) ?_
                        refine OL_sil rfl rfl rfl (by exact Sil.ownV rfl rfl (by first | exact at0 | exact at1 | exact at2 | exact at3 | exact at4 | exact at5 | exact at6 | exact at7 | exact at8 | exact at9 | exact at10 | exact at11 | exact at12 | exact at13 | exact at14 | exact at15) Try.underlying41 rfl (by rfl)) ?_
                        refine OL_loud rfl rfl rfl (LO.appendV 4 (opsC e.ops) rfl rfl rfl rfl elOp (opsC_length _) (newsOps hu) (opsC_one _) (by unfold maxLen; omega) (by omega)) ?_
                        rintro _ _ ⟨g4, cap4, rfl, rfl⟩
                        refine OL_sil rfl rfl rfl (Sil.indexOwn k rfl rfl rfl Try.underlying25 rfl rfl (by omega)) ?_
                        refine OL_sil rfl rfl rfl (Sil.fieldLoc 2 rfl rfl Try.underlying43 rfl rfl) ?_
                        refine OL_loud0 rfl rfl (LO.sqStoreAs 0 rfl rfl rfl rfl rfl rfl rfl (by show k * 3 + 2 < xs.length * 3; omega) ((rvsC_set2 (List.getElem?_set_self (ltOf hut)) e.ops (.slice g4 (0 + e.ops.length) cap4)).trans (by rw [List.set_set]))) ?_
                        rintro _ _ ⟨rfl, rfl⟩
                        refine OL_nil ?_
                        refine TC_know (fun w hw => lies_of (p := t.1.p) (q := 1) (rs := rs') (hw.mine _ (List.mem_of_getElem? (i := 4) rfl))) (fun hlies => ?_)
                        refine TC_own (fun w hw => hw.bagPut (A := [_, _]) (B := [_]) (C := []) rfl) ?_
                        refine TC_seq ?_
                        refine TC_bool 132 ((t.2 : Int) = lastG es e.q i ∧ e.p = 3) ?_ ?_
                        · refine TC_region ?_
                          refine OL_sil rfl rfl rfl (Sil.move rfl rfl) ?_
                          refine OL_sil rfl rfl rfl (Sil.move rfl rfl) ?_
                          refine OL_sil rfl rfl rfl (Sil.indexOwn1 k rfl rfl rfl Try.underlying37 rfl rfl (by omega)) ?_
                          refine OL_sil rfl rfl rfl (Sil.sqLoad 1 rfl rfl rfl Try.underlying3 rfl (frC_at ht)) ?_
                          refine OL_sil rfl rfl rfl (Sil.move rfl rfl) ?_
                          refine OL_sil rfl rfl rfl (Sil.eql rfl rfl rfl) ?_
                          refine OL_sil rfl rfl rfl (Sil.move rfl rfl) ?_
                          refine OL_dec 128 rfl (fun ht128 => ?_) (fun ht128 => ?_)
                          · refine OL_sil rfl rfl rfl (Sil.fieldLoc 0 rfl rfl Try.underlying58 rfl rfl) ?_
                            refine OL_sil rfl rfl rfl (by exact Sil.ownV rfl rfl (by first | exact at0 | exact at1 | exact at2 | exact at3 | exact at4 | exact at5 | exact at6 | exact at7 | exact at8 | exact at9 | exact at10 | exact at11 | exact at12 | exact at13 | exact at14 | exact at15) Try.underlying3 rfl (by rfl)) ?_
                            refine OL_sil rfl rfl rfl (Sil.eql rfl rfl rfl) ?_
                            refine OL_sil rfl rfl rfl (Sil.pick1 rfl rfl rfl) ?_
                            refine OL_nil ?_
                            (refine Cont.then_intro (And.intro (by (repeat' (first | exact trivial | refine ⟨rfl, ?_⟩))) (And.intro ?_ rfl)); first | exact slotV rfl (congrArg Value.bool (decide_eq_true (by omega)).symm) | exact slotV rfl (congrArg Value.bool (decide_eq_false (by omega)).symm) | exact slotV rfl (congrArg Value.bool (decide_eq_decide.2 (by omega))) | exact slotV rfl (congrArg Value.bool (decide_not.symm.trans (decide_eq_decide.2 (by omega)))))
                          · refine OL_skip rfl rfl rfl ?_
                            refine OL_skip rfl rfl rfl ?_
                            refine OL_skip rfl rfl rfl ?_
                            refine OL_sil rfl rfl rfl (Sil.pick0 rfl rfl rfl) ?_
                            refine OL_nil ?_
                            (refine Cont.then_intro (And.intro (by (repeat' (first | exact trivial | refine ⟨rfl, ?_⟩))) (And.intro ?_ rfl)); first | exact slotV rfl (congrArg Value.bool (decide_eq_true (by omega)).symm) | exact slotV rfl (congrArg Value.bool (decide_eq_false (by omega)).symm) | exact slotV rfl (congrArg Value.bool (decide_eq_decide.2 (by omega))) | exact slotV rfl (congrArg Value.bool (decide_not.symm.trans (decide_eq_decide.2 (by omega)))))
                        refine TC_if rfl (fun ht132 => ?_) (fun ht132 => ?_)
                        · omega
                        · refine TC_skip ?_
                          refine TC_region ?_
                          refine OL_sil rfl rfl rfl (Sil.add rfl rfl rfl (by omega) (by omega)) ?_
                          refine OL_sil rfl rfl rfl (Sil.move rfl rfl) ?_
                          refine OL_nil ?_
                          refine ⟨(k + 1, xs'.set k (⟨t.1.p, 1, e.ops⟩, .slice g4 (0 + e.ops.length) cap4), rs' ++ [sq g4 (0 + e.ops.length) cap4 40 3 ([] ++ opsC e.ops)]), ⟨⟨by show k + 1 ≤ xs.length; omega, hmid.put ht (by rw [stepT_2 ht109.1 ht109.2]), lies_set hli' (fun r hr => List.mem_append_left _ hr) hlies⟩, ⟨rfl, rfl, rfl, rfl, rfl, rfl, rfl, rfl, rfl, rfl, trivial⟩, ?_⟩, by show xs.length - (k + 1) < xs.length - k; omega⟩
                          exact List.Sublist.cons_cons _ (List.Sublist.cons_cons _ (List.Sublist.cons_cons _ (List.Sublist.cons_cons _ (List.nil_sublist _))))
                      · refine TC_skip ?_
                        refine TC_seq ?_
                        refine TC_bool 132 ((t.2 : Int) = lastG es e.q i ∧ e.p = 3) ?_ ?_
                        · refine TC_region ?_
                          refine OL_sil rfl rfl rfl (Sil.move rfl rfl) ?_
                          refine OL_sil rfl rfl rfl (Sil.move rfl rfl) ?_
                          refine OL_sil rfl rfl rfl (Sil.indexOwn1 k rfl rfl rfl Try.underlying37 rfl rfl (by omega)) ?_
                          refine OL_sil rfl rfl rfl (Sil.sqLoad 1 rfl rfl rfl Try.underlying3 rfl (frC_at ht)) ?_
                          refine OL_sil rfl rfl rfl (Sil.move rfl rfl) ?_
                          refine OL_sil rfl rfl rfl (Sil.eql rfl rfl rfl) ?_
                          refine OL_sil rfl rfl rfl (Sil.move rfl rfl) ?_
                          refine OL_dec 128 rfl (fun ht128 => ?_) (fun ht128 => ?_)
                          · refine OL_sil rfl rfl rfl (Sil.fieldLoc 0 rfl rfl Try.underlying58 rfl rfl) ?_
                            refine OL_sil rfl rfl rfl (by exact Sil.ownV rfl rfl (by first | exact at0 | exact at1 | exact at2 | exact at3 | exact at4 | exact at5 | exact at6 | exact at7 | exact at8 | exact at9 | exact at10 | exact at11 | exact at12 | exact at13 | exact at14 | exact at15) Try.underlying3 rfl (by rfl)) ?_
                            refine OL_sil rfl rfl rfl (Sil.eql rfl rfl rfl) ?_
                            refine OL_sil rfl rfl rfl (Sil.pick1 rfl rfl rfl) ?_
                            refine OL_nil ?_
                            (refine Cont.then_intro (And.intro (by (repeat' (first | exact trivial | refine ⟨rfl, ?_⟩))) (And.intro ?_ rfl)); first | exact slotV rfl (congrArg Value.bool (decide_eq_true (by omega)).symm) | exact slotV rfl (congrArg Value.bool (decide_eq_false (by omega)).symm) | exact slotV rfl (congrArg Value.bool (decide_eq_decide.2 (by omega))) | exact slotV rfl (congrArg Value.bool (decide_not.symm.trans (decide_eq_decide.2 (by omega)))))
                          · refine OL_skip rfl rfl rfl ?_
                            refine OL_skip rfl rfl rfl ?_
                            refine OL_skip rfl rfl rfl ?_
                            refine OL_sil rfl rfl rfl (Sil.pick0 rfl rfl rfl) ?_
                            refine OL_nil ?_
                            (refine Cont.then_intro (And.intro (by (repeat' (first | exact trivial | refine ⟨rfl, ?_⟩))) (And.intro ?_ rfl)); first | exact slotV rfl (congrArg Value.bool (decide_eq_true (by omega)).symm) | exact slotV rfl (congrArg Value.bool (decide_eq_false (by omega)).symm) | exact slotV rfl (congrArg Value.bool (decide_eq_decide.2 (by omega))) | exact slotV rfl (congrArg Value.bool (decide_not.symm.trans (decide_eq_decide.2 (by omega)))))
                        refine TC_if rfl (fun ht132 => ?_) (fun ht132 => ?_)
                        · refine TC_region ?_
                          refine OL_sil rfl rfl rfl (Sil.move rfl rfl) ?_
                          refine OL_sil rfl rfl rfl (Sil.move rfl rfl) ?_
                          refine OL_sil rfl rfl rfl (Sil.indexOwn k rfl rfl rfl Try.underlying25 rfl rfl (by omega)) ?_
                          refine OL_sil rfl rfl rfl (Sil.fieldLoc 1 rfl rfl Try.underlying43 rfl rfl) ?_
                          refine OL_loud0 rfl rfl (LO.sqStoreAs 0 rfl rfl rfl rfl rfl rfl rfl (by show k * 3 + 1 < xs.length * 3; omega) (rvsC_set1 hut 2)) ?_
                          rintro _ _ ⟨rfl, rfl⟩
                          refine OL_nil ?_
                          refine TC_region ?_
                          refine OL_sil rfl rfl rfl (Sil.add rfl rfl rfl (by omega) (by omega)) ?_
                          refine OL_sil rfl rfl rfl (Sil.move rfl rfl) ?_
                          refine OL_nil ?_
                          refine ⟨(k + 1, xs'.set k (⟨t.1.p, 2, t.1.ops⟩, ut), rs'), ⟨⟨by show k + 1 ≤ xs.length; omega, hmid.put ht (by rw [stepT_3 ht132.1 ht132.2]), lies_set hli' (fun r hr => hr) hlt⟩, ⟨rfl, rfl, rfl, rfl, rfl, rfl, rfl, rfl, rfl, rfl, trivial⟩, ?_⟩, by show xs.length - (k + 1) < xs.length - k; omega⟩
                          exact List.Sublist.refl _
                        · refine TC_skip ?_
                          refine TC_region ?_
                          refine OL_sil rfl rfl rfl (Sil.add rfl rfl rfl (by omega) (by omega)) ?_
                          refine OL_sil rfl rfl rfl (Sil.move rfl rfl) ?_
                          refine OL_nil ?_
                          exact ⟨(k + 1, xs', rs'), ⟨⟨by show k + 1 ≤ xs.length; omega, hmid.stay ht (stepT_no (by omega)), hli'⟩, ⟨rfl, rfl, rfl, rfl, rfl, rfl, rfl, rfl, rfl, rfl, trivial⟩, List.Sublist.refl _⟩, by show xs.length - (k + 1) < xs.length - k; omega⟩
                    · refine TC_exit ?_
                      refine TC_region ?_
                      refine OL_sil rfl rfl rfl (Sil.add rfl rfl rfl (by omega) (by omega)) ?_
                      refine OL_sil rfl rfl rfl (Sil.move rfl rfl) ?_
                      refine OL_nil ?_
                      have hxl : xs'.length = xs.length := by rw [hmid.1, hlen]
                      refine ⟨(i + 1, xs', ao, cap, ao2, cap2, rs'), ⟨⟨by show i + 1 ≤ es.length; omega, noErr_succ herr herr1, ?_, hli'⟩, ⟨rfl, slotV rfl (by simp only [hxl]), slotV rfl (by simp only [hxl]), rfl, rfl, rfl, trivial⟩, ?_⟩, by show es.length - (i + 1) < es.length - i; omega⟩
                      · show xs'.map (·.1) = (txsM es (i + 1)).map (·.1)
                        rw [txsM_end he ht50]
                        exact hmid.done (by omega)
                      · show List.Sublist [sq ao xs'.length cap _ 3 (rvsC xs'), sq ao2 xs'.length cap2 _ 1 (frC (txsM es (i + 1))), bagR _] _
                        rw [hxl, txsM_end he ht50, frC_step]
                        exact List.Sublist.cons_cons _ (List.Sublist.cons_cons _ (List.Sublist.cons_cons _ (List.nil_sublist _)))
      · have hie : i = es.length := by omega
        subst hie
        refine TC_exit ?_
        refine TC_seq ?_
        refine TC_region ?_
        refine OL_sil rfl rfl rfl (Sil.move rfl rfl) ?_
        refine OL_sil rfl rfl rfl (Sil.assign rfl rfl) ?_
        refine OL_sil rfl rfl rfl (Sil.assign rfl rfl) ?_
        refine OL_sil rfl rfl rfl (Sil.assign rfl rfl) ?_
        refine OL_nil ?_
        refine TC_ret ?_
        exact ret3h rfl rfl rfl rfl (List.Sublist.cons_cons _ (List.Sublist.cons _ (List.Sublist.refl _))) (.inr ⟨errC_ok ht15 herr, ao, cap, xs, rs, rfl, hxs, rfl, hli⟩)
end Go.Proofs.Ytjnopbmanhialaa
