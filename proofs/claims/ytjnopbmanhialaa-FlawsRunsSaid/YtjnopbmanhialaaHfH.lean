/-
  Walk: hist.Of.
-/
import Derived.Test.YtjnopbmanhialaaHfG
namespace Go.Proofs.Ytjnopbmanhialaa
open Go.Cru

theorem opF_zero (es : List RcD) : opF es 0 = fun _ => none := by
  funext c
  unfold opF
  rw [opB_neg (by simp [lastG])]
  simp
theorem wrG_zero (es : List RcD) : wrG es 0 = fun _ => none := by
  funext c
  unfold wrG wrB
  simp
theorem bxor (a b : Bool) : (!(a == !b)) = (a == b) := by cases a <;> cases b <;> rfl
theorem histOf_gives (es : List RcD) (a : Option Addr) (cap0 : Nat) (w0 : World) (hx : RcsAt w0 a es) :
    Gives Try.prog 27 [.slice a es.length cap0] w0 [] fun v h => OfR es v h := by
  refine gives_of Try.func27 rfl rfl rfl (Own.start w0) ?_
  refine TC_seq ?_
  refine TC_region ?_
  refine OL_sil rfl rfl rfl (Sil.assign rfl rfl) ?_
  refine OL_sil rfl rfl rfl (Sil.assign rfl rfl) ?_
  refine OL_sil rfl rfl rfl (Sil.assign rfl rfl) ?_
  refine OL_nil ?_
  refine TC_seq ?_
  refine TC_seq ?_
  refine TC_region ?_
  refine OL_sil rfl rfl rfl (Sil.move rfl rfl) ?_
  refine OL_sil rfl rfl rfl (Sil.lenSl rfl rfl Try.underlying22) ?_
  refine OL_sil rfl rfl rfl (Sil.gtr rfl rfl rfl) ?_
  refine OL_nil ?_
  refine TC_if rfl (fun ht19 => ?_) (fun ht19 => ?_)
  · refine TC_seq ?_
    refine TC_region ?_
    refine OL_sil rfl rfl rfl (Sil.assign rfl rfl) ?_
    refine OL_sil rfl rfl rfl (Sil.assign rfl rfl) ?_
    refine OL_sil rfl rfl rfl (Sil.assign rfl rfl) ?_
    refine OL_nil ?_
    refine TC_ret ?_
    exact ret3h rfl rfl rfl rfl (List.nil_sublist _) (OfR.many ht19)
  · refine TC_skip ?_
    refine TC_seq ?_
    refine TC_region ?_
    refine OL_sil rfl rfl rfl (Sil.assign rfl rfl) ?_
    refine OL_nil ?_
    refine TC_seq ?_
    refine TC_region ?_
    refine OL_loud rfl rfl rfl (LO.makeMap (intK .i64) rfl) ?_
    rintro _ _ ⟨mo, rfl, rfl⟩
    refine OL_sil rfl rfl rfl (Sil.assign rfl rfl) ?_
    refine OL_nil ?_
    refine TC_seq ?_
    refine TC_region ?_
    refine OL_loud rfl rfl rfl (LO.makeMap (intK .i64) rfl) ?_
    rintro _ _ ⟨mw, rfl, rfl⟩
    refine OL_sil rfl rfl rfl (Sil.assign rfl rfl) ?_
    refine OL_nil ?_
    refine TC_seq ?_
    refine TC_seq ?_
    refine TC_own (fun w hw => hw.nil 43 3) ?_
    refine TC_own (fun w hw => hw.bag0) ?_
    refine TC_region ?_
    refine OL_sil rfl rfl rfl (Sil.move rfl rfl) ?_
    refine OL_sil rfl rfl rfl (Sil.lenSl rfl rfl Try.underlying22) ?_
    refine OL_sil rfl rfl rfl (Sil.move rfl rfl) ?_
    refine OL_nil ?_
    refine TC_block ?_
    refine TC_loop (fun ((i, xs, ao, cap, rs) : Nat × List RcV × Option Addr × Nat × List Res) => [(0, .slice a es.length cap0), (5, .slice ao xs.length cap), (6, .map (some mo)), (7, .map (some mw)), (22, .slice a es.length cap0), (23, .int .i64 es.length), (24, .int .i64 i)]) (fun (i, xs, ao, cap, rs) => [mpR (intK .i64) mo (opF es i), mpR (intK .i64) mw (wrG es i), sq ao xs.length cap 43 3 (rvsC xs), bagR rs]) (fun (i, xs, ao, cap, rs) => i ≤ es.length ∧ (∀ j, j < i → errM es j = 0) ∧ xs.map (·.1) = (txsM es i).map (·.1) ∧ ∀ x ∈ xs, Lies 40 rs x) (fun (i, _) => es.length - i) (0, [], none, 0, []) ?_ ?_
    · exact ⟨⟨Nat.zero_le _, fun j h => absurd h (by omega), rfl, fun x hx => by cases hx⟩, ⟨rfl, rfl, rfl, rfl, rfl, rfl, rfl, trivial⟩, by show List.Sublist [mpR _ mo (opF es 0), mpR _ mw (wrG es 0), _, _] _; rw [opF_zero, wrG_zero]; exact List.Sublist.refl _⟩
    · rintro ⟨i, xs, ao, cap, rs⟩ ⟨hi, herr, hxs, hli⟩
      have hi : i ≤ es.length := hi
      have herr : ∀ j, j < i → errM es j = 0 := herr
      have hxs : xs.map (·.1) = (txsM es i).map (·.1) := hxs
      have hli : ∀ x ∈ xs, Lies 40 rs x := hli
      have hlen : xs.length = (txsM es i).length := by have := congrArg List.length hxs; simpa using this
      have htl := txs_len es i
      refine TC_seq ?_
      refine TC_region ?_
      refine OL_sil rfl rfl rfl (Sil.lss rfl rfl rfl) ?_
      refine OL_nil ?_
      refine TC_seq ?_
      refine TC_if rfl (fun ht25 => ?_) (fun ht25 => ?_)
      · obtain ⟨e, he⟩ := nthSome ht25
        have hil := ltOf he
        obtain ⟨x, u, rfl, hcx, a1, cap1, rfl, hu⟩ := hx.2 i e he
        obtain ⟨hp1, hp2⟩ := lastG_lt es e.q i
        refine TC_skip ?_
        refine TC_seq ?_
        refine TC_block ?_
        refine TC_seq ?_
        refine TC_region ?_
        refine OL_sil rfl rfl rfl (Sil.move rfl rfl) ?_
        refine OL_sil rfl rfl rfl (Sil.indexSl i rfl rfl rfl Try.underlying22 rfl rfl (by omega)) ?_
        refine OL_sil rfl rfl rfl (Sil.oldS rfl rfl hcx Try.underlying58 rfl rfl rfl) ?_
        refine OL_loud rfl rfl rfl (LO.alloc rfl rfl) ?_
        rintro _ _ ⟨b9, _, rfl, rfl⟩
        refine OL_sil rfl rfl rfl (Sil.assign rfl rfl) ?_
        refine OL_loud0 rfl rfl (by first | exact LO.storeAllV rfl rfl rfl (by first | exact at0 | exact at1 | exact at2 | exact at3 | exact at4 | exact at5 | exact at6 | exact at7 | exact at8 | exact at9 | exact at10 | exact at11 | exact at12 | exact at13 | exact at14 | exact at15) (by rfl) (by rfl) (by rfl) (by rfl) | exact LO.store1V rfl rfl rfl (by first | exact at0 | exact at1 | exact at2 | exact at3 | exact at4 | exact at5 | exact at6 | exact at7 | exact at8 | exact at9 | exact at10 | exact at11 | exact at12 | exact at13 | exact at14 | exact at15) (by rfl) (by rfl) (by rfl)) ?_
        rintro _ _ ⟨rfl, rfl⟩
        refine OL_nil ?_
        refine TC_seq ?_
        refine TC_seq ?_
        refine TC_region ?_
        refine OL_sil rfl rfl rfl (by first | exact Sil.ownV rfl rfl (by first | exact at0 | exact at1 | exact at2 | exact at3 | exact at4 | exact at5 | exact at6 | exact at7 | exact at8 | exact at9 | exact at10 | exact at11 | exact at12 | exact at13 | exact at14 | exact at15) Try.underlying58 rfl (by rfl) | exact Sil.wholeV rfl rfl (by first | exact at0 | exact at1 | exact at2 | exact at3 | exact at4 | exact at5 | exact at6 | exact at7 | exact at8 | exact at9 | exact at10 | exact at11 | exact at12 | exact at13 | exact at14 | exact at15) ⟨Try.underlying58, rfl⟩ rfl (by rfl)) ?_
        refine OL_pure rfl rfl rfl (LO.pure rfl ent42 rfl (fun w hw => check_gives e _ w ⟨a1, cap1, rfl, hu.keep hw.keep⟩)) ?_
        refine OL_sil rfl rfl rfl (Sil.assign rfl rfl) ?_
        refine OL_nil ?_
        refine TC_seq ?_
        refine TC_region ?_
        refine OL_sil rfl rfl rfl (Sil.move rfl rfl) ?_
        refine OL_sil rfl rfl rfl (Sil.neq rfl rfl rfl) ?_
        refine OL_nil ?_
        refine TC_ifn rfl (fun ht32 => ?_) (fun ht32 => ?_)
        · have hnr : ¬ right e := fun h => ht32 (if_pos h)
          refine TC_slot 10 (v := .int .i64 20) rfl (by rw [if_neg hnr]) ?_
          refine TC_seq ?_
          refine TC_region ?_
          refine OL_sil rfl rfl rfl (Sil.move rfl rfl) ?_
          refine OL_sil rfl rfl rfl (Sil.move rfl rfl) ?_
          refine OL_sil rfl rfl rfl (Sil.assign rfl rfl) ?_
          refine OL_sil rfl rfl rfl (Sil.assign rfl rfl) ?_
          refine OL_sil rfl rfl rfl (Sil.assign rfl rfl) ?_
          refine OL_nil ?_
          refine TC_ret ?_
          exact ret3h rfl rfl rfl rfl (List.nil_sublist _) (OfR.err ht19 herr (errM_20 he hnr) (by decide) hil)
        · have hr : right e := by refine Decidable.byContradiction fun h => ?_; rw [if_neg h] at ht32; cases ht32
          have hops : e.ops.length ≤ 12 := by
            have := hr.1
            unfold badH at this
            omega
          refine TC_skip ?_
          refine TC_seq ?_
          refine TC_region ?_
          refine OL_sil rfl rfl rfl (Sil.move rfl rfl) ?_
          refine OL_sil rfl rfl rfl (Sil.fieldLoc 1 rfl rfl Try.underlying58 rfl rfl) ?_
          refine OL_sil rfl rfl rfl (by exact Sil.ownV rfl rfl (by first | exact at0 | exact at1 | exact at2 | exact at3 | exact at4 | exact at5 | exact at6 | exact at7 | exact at8 | exact at9 | exact at10 | exact at11 | exact at12 | exact at13 | exact at14 | exact at15) Try.underlying3 rfl (by rfl)) ?_
          refine OL_sil rfl rfl rfl (Sil.lookup2 0 e.q (int_row Try.underlying3) rfl rfl rfl rfl Try.underlying75 rfl) ?_
          refine OL_sil rfl rfl rfl (Sil.move rfl rfl) ?_
          refine OL_sil rfl rfl rfl (Sil.extract rfl rfl rfl) ?_
          refine OL_sil rfl rfl rfl (Sil.extract rfl rfl rfl) ?_
          refine OL_sil rfl rfl rfl (Sil.assign rfl rfl) ?_
          refine OL_sil rfl rfl rfl (Sil.assign rfl rfl) ?_
          refine OL_nil ?_
          refine TC_slot 12 (v := .bool (decide (opB es e.q i = true))) rfl (congrArg Value.bool (by rw [opF_some]; simp)) ?_
          refine TC_seq ?_
          refine TC_seq ?_
          refine TC_region ?_
          refine OL_sil rfl rfl rfl (Sil.move rfl rfl) ?_
          refine OL_sil rfl rfl rfl (Sil.fieldLoc 0 rfl rfl Try.underlying58 rfl rfl) ?_
          refine OL_sil rfl rfl rfl (by exact Sil.ownV rfl rfl (by first | exact at0 | exact at1 | exact at2 | exact at3 | exact at4 | exact at5 | exact at6 | exact at7 | exact at8 | exact at9 | exact at10 | exact at11 | exact at12 | exact at13 | exact at14 | exact at15) Try.underlying3 rfl (by rfl)) ?_
          refine OL_sil rfl rfl rfl (Sil.neq rfl rfl rfl) ?_
          refine OL_sil rfl rfl rfl (Sil.neqB rfl rfl rfl Try.underlying4) ?_
          refine OL_nil ?_
          refine TC_cond rfl (fun ht46 => ?_) (fun ht46 => ?_)
          · rw [bxor] at ht46
            refine TC_seq ?_
            refine TC_region ?_
            refine OL_sil rfl rfl rfl (Sil.move rfl rfl) ?_
            refine OL_sil rfl rfl rfl (Sil.assign rfl rfl) ?_
            refine OL_sil rfl rfl rfl (Sil.assign rfl rfl) ?_
            refine OL_sil rfl rfl rfl (Sil.assign rfl rfl) ?_
            refine OL_nil ?_
            refine TC_ret ?_
            exact ret3h rfl rfl rfl rfl (List.nil_sublist _) (OfR.err ht19 herr (errM_21 he hr ht46) (by decide) hil)
          · rw [bxor] at ht46
            refine TC_skip ?_
            refine TC_seq ?_
            refine TC_seq ?_
            refine TC_region ?_
            refine OL_sil rfl rfl rfl (Sil.move rfl rfl) ?_
            refine OL_sil rfl rfl rfl (Sil.not rfl rfl) ?_
            refine OL_nil ?_
            refine TC_cond rfl (fun ht49 => ?_) (fun ht49 => ?_)
            · have hob : opB es e.q i = false := by
                cases hb : opB es e.q i with
                | false => rfl
                | true => rw [hb] at ht49; simp at ht49
              have hp : e.p = 1 := by
                refine Decidable.byContradiction fun h => ?_
                rw [hob] at ht46; simp [h] at ht46
              refine TC_seq ?_
              refine TC_seq ?_
              refine TC_region ?_
              refine OL_sil rfl rfl rfl (Sil.fieldLoc 2 rfl rfl Try.underlying58 rfl rfl) ?_
              refine OL_sil rfl rfl rfl (by exact Sil.ownV rfl rfl (by first | exact at0 | exact at1 | exact at2 | exact at3 | exact at4 | exact at5 | exact at6 | exact at7 | exact at8 | exact at9 | exact at10 | exact at11 | exact at12 | exact at13 | exact at14 | exact at15) Try.underlying41 rfl (by rfl)) ?_
              refine OL_sil rfl rfl rfl (Sil.lenSl rfl rfl Try.underlying41) ?_
              refine OL_sil rfl rfl rfl (Sil.move rfl rfl) ?_
              refine OL_nil ?_
              refine TC_block ?_
              refine TC_loop (fun j : Nat => [(0, .slice (some x) es.length cap0), (5, .slice ao xs.length cap), (6, .map (some mo)), (7, .map (some mw)), (22, .slice (some x) es.length cap0), (23, .int .i64 es.length), (24, .int .i64 i), (8, .int .i64 i), (9, .pointer (some ⟨b9, 0, none⟩)), (51, .slice a1 e.ops.length cap1), (52, .int .i64 e.ops.length), (53, .int .i64 j)]) (fun j => [mpR (intK .i64) mo (opF es i), mpR (intK .i64) mw (wrF es i e j), sq ao xs.length cap 43 3 (rvsC xs), bagR rs, blk b9 (.cells (rcC e (.slice a1 e.ops.length cap1)).toArray 58 (0, 0))]) (fun j => j ≤ e.ops.length ∧ ∀ j' o, j' < j → e.ops[j']? = some o → o.k = 2 → wrJ es i e j' o.val = false) (fun j => e.ops.length - j) 0 ?_ ?_
              · exact ⟨⟨Nat.zero_le _, fun j' o h => absurd h (by omega)⟩, ⟨rfl, rfl, rfl, rfl, rfl, rfl, rfl, rfl, rfl, rfl, rfl, rfl, trivial⟩, by rw [wrF_zero]; exact List.Sublist.refl _⟩
              · intro j hj
                refine TC_seq ?_
                refine TC_region ?_
                refine OL_sil rfl rfl rfl (Sil.lss rfl rfl rfl) ?_
                refine OL_nil ?_
                refine TC_seq ?_
                refine TC_if rfl (fun ht54 => ?_) (fun ht54 => ?_)
                · obtain ⟨o, ho⟩ := nthSome ht54
                  obtain ⟨y, rfl, hcy⟩ := hu.2 j o ho
                  refine TC_skip ?_
                  refine TC_seq ?_
                  refine TC_block ?_
                  refine TC_seq ?_
                  refine TC_region ?_
                  refine OL_sil rfl rfl rfl (Sil.indexSl j rfl rfl rfl Try.underlying41 rfl rfl (by omega)) ?_
                  refine OL_sil rfl rfl rfl (Sil.oldS rfl rfl hcy Try.underlying40 rfl rfl rfl) ?_
                  refine OL_loud rfl rfl rfl (LO.alloc rfl rfl) ?_
                  rintro _ _ ⟨b14, _, rfl, rfl⟩
                  refine OL_loud0 rfl rfl (by first | exact LO.storeAllV rfl rfl rfl (by first | exact at0 | exact at1 | exact at2 | exact at3 | exact at4 | exact at5 | exact at6 | exact at7 | exact at8 | exact at9 | exact at10 | exact at11 | exact at12 | exact at13 | exact at14 | exact at15) (by rfl) (by rfl) (by rfl) (by rfl) | exact LO.store1V rfl rfl rfl (by first | exact at0 | exact at1 | exact at2 | exact at3 | exact at4 | exact at5 | exact at6 | exact at7 | exact at8 | exact at9 | exact at10 | exact at11 | exact at12 | exact at13 | exact at14 | exact at15) (by rfl) (by rfl) (by rfl)) ?_
                  rintro _ _ ⟨rfl, rfl⟩
                  refine OL_nil ?_
                  refine TC_seq ?_
                  refine TC_region ?_
                  refine OL_sil rfl rfl rfl (Sil.fieldLoc 0 rfl rfl Try.underlying40 rfl rfl) ?_
                  refine OL_sil rfl rfl rfl (by exact Sil.ownV rfl rfl (by first | exact at0 | exact at1 | exact at2 | exact at3 | exact at4 | exact at5 | exact at6 | exact at7 | exact at8 | exact at9 | exact at10 | exact at11 | exact at12 | exact at13 | exact at14 | exact at15) Try.underlying3 rfl (by rfl)) ?_
                  refine OL_sil rfl rfl rfl (Sil.eql rfl rfl rfl) ?_
                  refine OL_nil ?_
                  refine TC_if rfl (fun ht59 => ?_) (fun ht59 => ?_)
                  · refine TC_seq ?_
                    refine TC_seq ?_
                    refine TC_region ?_
                    refine OL_sil rfl rfl rfl (Sil.move rfl rfl) ?_
                    refine OL_sil rfl rfl rfl (Sil.fieldLoc 2 rfl rfl Try.underlying40 rfl rfl) ?_
                    refine OL_sil rfl rfl rfl (by exact Sil.ownV rfl rfl (by first | exact at0 | exact at1 | exact at2 | exact at3 | exact at4 | exact at5 | exact at6 | exact at7 | exact at8 | exact at9 | exact at10 | exact at11 | exact at12 | exact at13 | exact at14 | exact at15) Try.underlying3 rfl (by rfl)) ?_
                    refine OL_sil rfl rfl rfl (Sil.lookup1 1 o.val (int_row Try.underlying3) rfl rfl rfl rfl Try.underlying76 rfl) ?_
                    refine OL_slot 63 (v := .bool (wrJ es i e j o.val)) rfl (wrF_get es i e j o.val) ?_
                    refine OL_nil ?_
                    refine TC_cond rfl (fun ht63 => ?_) (fun ht63 => ?_)
                    · refine TC_seq ?_
                      refine TC_region ?_
                      refine OL_sil rfl rfl rfl (Sil.move rfl rfl) ?_
                      refine OL_sil rfl rfl rfl (Sil.assign rfl rfl) ?_
                      refine OL_sil rfl rfl rfl (Sil.assign rfl rfl) ?_
                      refine OL_sil rfl rfl rfl (Sil.assign rfl rfl) ?_
                      refine OL_nil ?_
                      refine TC_ret ?_
                      exact ret3h rfl rfl rfl rfl (List.nil_sublist _) (OfR.err ht19 herr ((errM_23 he hr (by simpa using ht46) hp).trans (if_pos (twP_of he hp ho ht59 ht63))) (by decide) hil)
                    · refine TC_skip ?_
                      refine TC_region ?_
                      refine OL_sil rfl rfl rfl (Sil.move rfl rfl) ?_
                      refine OL_sil rfl rfl rfl (Sil.fieldLoc 2 rfl rfl Try.underlying40 rfl rfl) ?_
                      refine OL_sil rfl rfl rfl (by exact Sil.ownV rfl rfl (by first | exact at0 | exact at1 | exact at2 | exact at3 | exact at4 | exact at5 | exact at6 | exact at7 | exact at8 | exact at9 | exact at10 | exact at11 | exact at12 | exact at13 | exact at14 | exact at15) Try.underlying3 rfl (by rfl)) ?_
                      refine OL_loud0 rfl rfl (LO.mapUpdate 1 o.val (int_row Try.underlying3) rfl rfl rfl rfl rfl Try.underlying76) ?_
                      rintro _ _ ⟨rfl, rfl⟩
                      refine OL_nil ?_
                      refine TC_region ?_
                      refine OL_sil rfl rfl rfl (Sil.add rfl rfl rfl (by omega) (by omega)) ?_
                      refine OL_sil rfl rfl rfl (Sil.move rfl rfl) ?_
                      refine OL_nil ?_
                      refine ⟨j + 1, ⟨⟨by omega, fun j' o' hj' ho' hk => by
                        by_cases e' : j' = j
                        · subst e'; rw [ho] at ho'; cases ho'; exact ht63
                        · exact hj.2 j' o' (by omega) ho' hk⟩, ⟨rfl, rfl, rfl, rfl, rfl, rfl, rfl, rfl, rfl, rfl, rfl, rfl, trivial⟩, ?_⟩, by omega⟩
                      rw [← wrF_put ho ht59]
                      exact List.Sublist.cons_cons _ (List.Sublist.cons_cons _ (List.Sublist.cons_cons _ (List.Sublist.cons_cons _ (List.Sublist.cons_cons _ (List.nil_sublist _)))))
                  · refine TC_skip ?_
                    refine TC_region ?_
                    refine OL_sil rfl rfl rfl (Sil.add rfl rfl rfl (by omega) (by omega)) ?_
                    refine OL_sil rfl rfl rfl (Sil.move rfl rfl) ?_
                    refine OL_nil ?_
                    refine ⟨j + 1, ⟨⟨by omega, fun j' o' hj' ho' hk => by
                      by_cases e' : j' = j
                      · subst e'; rw [ho] at ho'; cases ho'; exact absurd hk ht59
                      · exact hj.2 j' o' (by omega) ho' hk⟩, ⟨rfl, rfl, rfl, rfl, rfl, rfl, rfl, rfl, rfl, rfl, rfl, rfl, trivial⟩, ?_⟩, by omega⟩
                    rw [wrF_stay ho ht59]
                    exact List.Sublist.cons_cons _ (List.Sublist.cons_cons _ (List.Sublist.cons_cons _ (List.Sublist.cons_cons _ (List.Sublist.cons_cons _ (List.nil_sublist _)))))
                · have herr1 : errM es i = 0 := (errM_23 he hr (by simpa using ht46) hp).trans (if_neg (twP_no he fun j' o' ho' => hj.2 j' o' (by have := ltOf ho'; omega) ho'))
                  refine TC_exit ?_
                  refine TC_seq ?_
                  refine TC_region ?_
                  refine OL_sil rfl rfl rfl (Sil.move rfl rfl) ?_
                  refine OL_sil rfl rfl rfl (Sil.fieldLoc 1 rfl rfl Try.underlying58 rfl rfl) ?_
                  refine OL_sil rfl rfl rfl (by exact Sil.ownV rfl rfl (by first | exact at0 | exact at1 | exact at2 | exact at3 | exact at4 | exact at5 | exact at6 | exact at7 | exact at8 | exact at9 | exact at10 | exact at11 | exact at12 | exact at13 | exact at14 | exact at15) Try.underlying3 rfl (by rfl)) ?_
                  refine OL_sil rfl rfl rfl (Sil.move rfl rfl) ?_
                  refine OL_sil rfl rfl rfl (Sil.lenSl rfl rfl Try.underlying25) ?_
                  refine OL_loud0 rfl rfl (LO.mapUpdate 0 e.q (int_row Try.underlying3) rfl rfl rfl rfl rfl Try.underlying75) ?_
                  rintro _ _ ⟨rfl, rfl⟩
                  refine OL_nil ?_
                  refine TC_seq ?_
                  refine TC_drawS [blk b9 (.cells (rcC e (.slice a1 e.ops.length cap1)).toArray 58 (0, 0))] (by (repeat' (first | exact all_nil | refine all_cons (by repeat (first | exact List.Mem.head _ | refine List.Mem.tail _ ?_)) ?_))) rfl (fun j => false) ?_
                  intro hs0
                  refine DL_take 0 rfl (by kernel_rfl) rfl rfl rfl (Sil.move rfl rfl) (by (repeat' (first | exact all_nil | refine all_cons (by repeat (first | exact List.Mem.head _ | refine List.Mem.tail _ ?_)) ?_))) ?_
                  refine DL_take 1 rfl (by kernel_rfl) rfl rfl rfl (Sil.fieldLoc 1 rfl rfl Try.underlying58 rfl rfl) (by (repeat' (first | exact all_nil | refine all_cons (by repeat (first | exact List.Mem.head _ | refine List.Mem.tail _ ?_)) ?_))) ?_
                  refine DL_take 2 rfl (by kernel_rfl) rfl rfl rfl (by exact Sil.ownV rfl rfl (by first | exact at0 | exact at1 | exact at2 | exact at3 | exact at4 | exact at5 | exact at6 | exact at7 | exact at8 | exact at9 | exact at10 | exact at11 | exact at12 | exact at13 | exact at14 | exact at15) Try.underlying3 rfl (by rfl)) (by (repeat' (first | exact all_nil | refine all_cons (by repeat (first | exact List.Mem.head _ | refine List.Mem.tail _ ?_)) ?_))) ?_
                  refine DL_take 3 rfl (by kernel_rfl) rfl rfl rfl (Sil.fieldLoc 2 rfl rfl Try.underlying58 rfl rfl) (by (repeat' (first | exact all_nil | refine all_cons (by repeat (first | exact List.Mem.head _ | refine List.Mem.tail _ ?_)) ?_))) ?_
                  refine DL_take 4 rfl (by kernel_rfl) rfl rfl rfl (by exact Sil.ownV rfl rfl (by first | exact at0 | exact at1 | exact at2 | exact at3 | exact at4 | exact at5 | exact at6 | exact at7 | exact at8 | exact at9 | exact at10 | exact at11 | exact at12 | exact at13 | exact at14 | exact at15) Try.underlying41 rfl (by rfl)) (by (repeat' (first | exact all_nil | refine all_cons (by repeat (first | exact List.Mem.head _ | refine List.Mem.tail _ ?_)) ?_))) ?_
                  refine DL_one 5 (by kernel_rfl) ?_
                  refine DS_loud rfl rfl rfl rfl (LO.calls rfl ent43 rfl (fun w hw => Clone_gives e.ops a1 cap1 w (hu.keep hw.keep) (by omega))) ?_
                  rintro _ _ ⟨_, ⟨g4, cap4, rfl, rfl⟩, rfl⟩
                  refine ⟨.inr (by (repeat' (first | exact all_nil | refine all_cons (by repeat (first | exact List.Mem.head _ | refine List.Mem.tail _ ?_)) ?_))), ?_⟩
                  refine DL_take 6 rfl (by kernel_rfl) rfl rfl rfl (Sil.buildS (vs := [(0, .int .i64 e.q), (2, .slice g4 e.ops.length cap4)]) (cs := (rcC ⟨e.q, 0, e.ops⟩ (.slice g4 e.ops.length cap4)).toArray) (ss := [1, 1, 1]) rfl rfl Try.underlying43 rfl rfl rfl) (by (repeat' (first | exact all_nil | refine all_cons (by repeat (first | exact List.Mem.head _ | refine List.Mem.tail _ ?_)) ?_))) ?_
                  refine DL_one 7 (by kernel_rfl) ?_
                  refine DS_loud rfl rfl rfl rfl (LO.buildSlice1 rfl rfl Try.underlying25 rfl rfl rfl) ?_
                  rintro _ _ ⟨tb, rfl, rfl⟩
                  refine ⟨.inr (by (repeat' (first | exact all_nil | refine all_cons (by repeat (first | exact List.Mem.head _ | refine List.Mem.tail _ ?_)) ?_))), ?_⟩
                  refine DL_one 8 (by kernel_rfl) ?_
                  refine DS_loud rfl rfl rfl rfl (LO.append 2 (rcC ⟨e.q, 0, e.ops⟩ (.slice g4 e.ops.length cap4)) rfl rfl rfl rfl elTx rfl (fun w hw => hw.cells (i := 6) rfl) (by simp [rcC, oneC]) (by unfold maxLen; omega) (by omega)) ?_
                  rintro _ _ ⟨ao1, cap5, rfl, rfl⟩
                  refine ⟨.inr (by (repeat' (first | exact all_nil | refine all_cons (by repeat (first | exact List.Mem.head _ | refine List.Mem.tail _ ?_)) ?_))), ?_⟩
                  refine DL_take 9 rfl (by kernel_rfl) rfl rfl rfl (Sil.assign rfl rfl) (by (repeat' (first | exact all_nil | refine all_cons (by repeat (first | exact List.Mem.head _ | refine List.Mem.tail _ ?_)) ?_))) ?_
                  refine DL_done (by kernel_rfl) ?_
                  refine TC_know (fun w hw => lies_cl (p := e.q) (q := 0) (rs := rs) (hw.mine _ (List.mem_of_getElem? (i := 5) rfl))) (fun hlies => ?_)
                  refine TC_own (fun w hw => hw.bagPut (A := [_, _, _]) (B := [_]) (C := [_]) rfl) ?_
                  refine TC_exit ?_
                  refine TC_region ?_
                  refine OL_sil rfl rfl rfl (Sil.add rfl rfl rfl (by omega) (by omega)) ?_
                  refine OL_sil rfl rfl rfl (Sil.move rfl rfl) ?_
                  refine OL_nil ?_
                  refine ⟨(i + 1, xs ++ [(⟨e.q, 0, e.ops⟩, .slice g4 e.ops.length cap4)], ao1, cap5, rs ++ [sq g4 e.ops.length cap4 40 3 (opsC e.ops)]), ⟨⟨by show i + 1 ≤ es.length; omega, noErr_succ herr herr1, ?_, ?_⟩, ⟨rfl, slotV rfl (by simp), rfl, rfl, rfl, rfl, rfl, trivial⟩, ?_⟩, by show es.length - (i + 1) < es.length - i; omega⟩
                  · show (xs ++ [(_ : RcV)]).map (·.1) = (txsM es (i + 1)).map (·.1)
                    rw [txsM_inv he hp, List.map_append, List.map_append, hxs]
                    rfl
                  · intro y hy
                    rcases List.mem_append.1 hy with hy | hy
                    · exact (hli y hy).mono fun r hr => List.mem_append_left _ hr
                    · rw [List.mem_singleton.1 hy]; exact hlies
                  · show List.Sublist [mpR _ mo (opF es (i + 1)), mpR _ mw (wrG es (i + 1)), sq ao1 (xs ++ [_]).length cap5 _ 3 (rvsC (xs ++ [_])), bagR _] _
                    rw [← rvsC_snoc, List.length_append, ← opF_put he hp, ← hlen, ← wrF_end he hp (show e.ops.length ≤ j by omega)]
                    exact List.Sublist.cons_cons _ (List.Sublist.cons_cons _ (List.Sublist.cons_cons _ (List.Sublist.cons_cons _ (List.nil_sublist _))))
            · have hob : opB es e.q i = true := by
                cases hb : opB es e.q i with
                | true => rfl
                | false => rw [hb] at ht49; simp at ht49
              have hp : ¬ e.p = 1 := fun h => by rw [hob] at ht46; simp [h] at ht46
              obtain ⟨hp0, ep, hep, hep1, hepq⟩ := opB_true hob
              obtain ⟨t, ht, htp⟩ := tx_at es hep hep1 i (by omega)
              have hml := ltOf ht
              obtain ⟨_, _, e0, he0, _, hte, hst⟩ := tx_inv es i _ t ht
              rw [htp] at he0
              rw [hep] at he0
              cases he0
              have hst := hst.resolve_right (fun h => by have := h.2; rw [hepq, htp] at this; omega)
              obtain ⟨xt, hxt⟩ : ∃ xt, xs[(txsM es (lastG es e.q i).toNat).length]? = some xt := ⟨_, List.getElem?_eq_getElem (by omega)⟩
              have hxt1 : xt.1 = t.1 := by
                have := congrArg (fun l => l[(txsM es (lastG es e.q i).toNat).length]?) hxs
                simp only [List.getElem?_map, hxt, ht, Option.map_some, Option.some.injEq] at this
                exact this
              have hlt := hli _ (List.mem_of_getElem? hxt)
              obtain ⟨xt1, ut⟩ := xt
              have hxt1 : xt1 = t.1 := hxt1
              subst hxt1
              obtain ⟨at9, ct9, hform⟩ := Lies.form hlt
              have hform : ut = .slice at9 t.1.ops.length ct9 := hform
              subst hform
              have huniq : ∀ k t', (txsM es i)[k]? = some t' → k ≠ (txsM es (lastG es e.q i).toNat).length → stepT e (lastG es e.q i) t' = t' := fun k t' hk hne => stepT_no fun hh => by
                obtain ⟨_, h2, _⟩ := tx_inv es i k t' hk
                refine hne (h2.symm.trans ?_)
                rw [show t'.2 = (lastG es e.q i).toNat from by omega]
              have htp2 : (t.2 : Int) = lastG es e.q i := by omega
              generalize hm : (txsM es (lastG es e.q i).toNat).length = m at ht hml hxt huniq
              refine TC_slot 11 (v := .int .i64 (m : Int)) rfl (by unfold opF; rw [if_pos hob, hm]; rfl) ?_
              refine TC_skip ?_
              refine TC_seq ?_
              refine TC_region ?_
              refine OL_sil rfl rfl rfl (Sil.move rfl rfl) ?_
              refine OL_sil rfl rfl rfl (Sil.fieldLoc 1 rfl rfl Try.underlying58 rfl rfl) ?_
              refine OL_sil rfl rfl rfl (by exact Sil.ownV rfl rfl (by first | exact at0 | exact at1 | exact at2 | exact at3 | exact at4 | exact at5 | exact at6 | exact at7 | exact at8 | exact at9 | exact at10 | exact at11 | exact at12 | exact at13 | exact at14 | exact at15) Try.underlying3 rfl (by rfl)) ?_
              refine OL_loud0 rfl rfl (LO.mapDelete 0 e.q (int_row Try.underlying3) rfl rfl rfl rfl Try.underlying75) ?_
              rintro _ _ ⟨rfl, rfl⟩
              refine OL_nil ?_
              refine TC_know (fun w hw => hw.sqSome (i := 2) rfl (by omega)) (fun hsome => ?_)
              obtain ⟨g5, rfl⟩ := hsome
              refine TC_seq ?_
              refine TC_region ?_
              refine OL_sil rfl rfl rfl (Sil.move rfl rfl) ?_
              refine OL_sil rfl rfl rfl (Sil.move rfl rfl) ?_
              refine OL_sil rfl rfl rfl (Sil.indexOwn m rfl rfl rfl Try.underlying25 rfl rfl (by omega)) ?_
              refine OL_sil rfl rfl rfl (Sil.assign rfl rfl) ?_
              refine OL_nil ?_
              refine TC_seq ?_
              refine TC_seq ?_
              refine TC_drawS [sq (some ⟨g5, 0, none⟩) xs.length cap 43 3 (rvsC xs), blk b9 (.cells (rcC e (.slice a1 e.ops.length cap1)).toArray 58 (0, 0))] (by (repeat' (first | exact all_nil | refine all_cons (by repeat (first | exact List.Mem.head _ | refine List.Mem.tail _ ?_)) ?_))) rfl (fun j => false) ?_
              intro hs0
              refine DL_take 0 rfl (by kernel_rfl) rfl rfl rfl (Sil.move rfl rfl) (by (repeat' (first | exact all_nil | refine all_cons (by repeat (first | exact List.Mem.head _ | refine List.Mem.tail _ ?_)) ?_))) ?_
              refine DL_take 1 rfl (by kernel_rfl) rfl rfl rfl (Sil.nilCheck rfl rfl) (by (repeat' (first | exact all_nil | refine all_cons (by repeat (first | exact List.Mem.head _ | refine List.Mem.tail _ ?_)) ?_))) ?_
              refine DL_take 2 rfl (by kernel_rfl) rfl rfl rfl (Sil.fieldLoc 2 rfl rfl Try.underlying43 rfl rfl) (by (repeat' (first | exact all_nil | refine all_cons (by repeat (first | exact List.Mem.head _ | refine List.Mem.tail _ ?_)) ?_))) ?_
              refine DL_take 3 rfl (by kernel_rfl) rfl rfl rfl (Sil.sqLoad 0 rfl rfl rfl Try.underlying41 rfl (rvsC_at hxt 2 _ rfl)) (by (repeat' (first | exact all_nil | refine all_cons (by repeat (first | exact List.Mem.head _ | refine List.Mem.tail _ ?_)) ?_))) ?_
              refine DL_take 4 rfl (by kernel_rfl) rfl rfl rfl (by first | exact Sil.ownV rfl rfl (by first | exact at0 | exact at1 | exact at2 | exact at3 | exact at4 | exact at5 | exact at6 | exact at7 | exact at8 | exact at9 | exact at10 | exact at11 | exact at12 | exact at13 | exact at14 | exact at15) Try.underlying58 rfl (by rfl) | exact Sil.wholeV rfl rfl (by first | exact at0 | exact at1 | exact at2 | exact at3 | exact at4 | exact at5 | exact at6 | exact at7 | exact at8 | exact at9 | exact at10 | exact at11 | exact at12 | exact at13 | exact at14 | exact at15) ⟨Try.underlying58, rfl⟩ rfl (by rfl)) (by (repeat' (first | exact all_nil | refine all_cons (by repeat (first | exact List.Mem.head _ | refine List.Mem.tail _ ?_)) ?_))) ?_
              refine DL_one 5 (by kernel_rfl) ?_
              refine DS_loud rfl rfl rfl rfl (LO.pure rfl ent44 rfl (fun w hw => hAns_gives t.1.ops e at9 a1 ct9 cap1 w (OpsV.at (hlt.ops (hw.mine _ (List.mem_of_getElem? (i := 3) rfl)))) (hu.keep hw.keep))) ?_
              rintro _ _ ⟨rfl, rfl⟩
              refine ⟨.inr (by (repeat' (first | exact all_nil | refine all_cons (by repeat (first | exact List.Mem.head _ | refine List.Mem.tail _ ?_)) ?_))), ?_⟩
              refine DL_take 6 rfl (by kernel_rfl) rfl rfl rfl (Sil.assign rfl rfl) (by (repeat' (first | exact all_nil | refine all_cons (by repeat (first | exact List.Mem.head _ | refine List.Mem.tail _ ?_)) ?_))) ?_
              refine DL_done (by kernel_rfl) ?_
              refine TC_seq ?_
              refine TC_region ?_
              refine OL_sil rfl rfl rfl (Sil.move rfl rfl) ?_
              refine OL_sil rfl rfl rfl (Sil.neq rfl rfl rfl) ?_
              refine OL_nil ?_
              refine TC_ifn rfl (fun ht96 => ?_) (fun ht96 => ?_)
              · have hea : errM es i = ansH t.1.ops e := by
                  unfold ansH at ht96 ⊢
                  rw [hst.2] at ht96 ⊢
                  by_cases h2 : e.p = 2
                  · rw [if_pos h2, errM_ans he hr (by simpa using ht46) h2 hep]
                  · rw [if_neg h2] at ht96 ⊢
                    by_cases h3 : (e.ops.length : Int) > 0
                    · rw [if_pos h3, errM_22 he hr (by simpa using ht46) hp ⟨h2, h3⟩]
                    · rw [if_neg h3] at ht96; exact absurd rfl ht96
                refine TC_seq ?_
                refine TC_region ?_
                refine OL_sil rfl rfl rfl (Sil.move rfl rfl) ?_
                refine OL_sil rfl rfl rfl (Sil.move rfl rfl) ?_
                refine OL_sil rfl rfl rfl (Sil.assign rfl rfl) ?_
                refine OL_sil rfl rfl rfl (Sil.assign rfl rfl) ?_
                refine OL_sil rfl rfl rfl (Sil.assign rfl rfl) ?_
                refine OL_nil ?_
                refine TC_ret ?_
                exact ret3h rfl rfl rfl rfl (List.nil_sublist _) (OfR.err ht19 herr hea ht96 hil)
              · have herr1 : errM es i = 0 := by
                  unfold ansH at ht96
                  rw [hst.2] at ht96
                  by_cases h2 : e.p = 2
                  · rw [if_pos h2] at ht96; rw [errM_ans he hr (by simpa using ht46) h2 hep]; exact ht96
                  · rw [if_neg h2] at ht96
                    by_cases h3 : (e.ops.length : Int) > 0
                    · rw [if_pos h3] at ht96; cases ht96
                    · exact errM_end he hr (by simpa using ht46) hp (fun h => h3 h.2) h2
                refine TC_skip ?_
                refine TC_seq ?_
                refine TC_region ?_
                refine OL_sil rfl rfl rfl (Sil.fieldLoc 0 rfl rfl Try.underlying58 rfl rfl) ?_
                refine OL_sil rfl rfl rfl (by exact Sil.ownV rfl rfl (by first | exact at0 | exact at1 | exact at2 | exact at3 | exact at4 | exact at5 | exact at6 | exact at7 | exact at8 | exact at9 | exact at10 | exact at11 | exact at12 | exact at13 | exact at14 | exact at15) Try.underlying3 rfl (by rfl)) ?_
                refine OL_nil ?_
                refine TC_block ?_
                refine TC_seq ?_
                refine TC_region ?_
                refine OL_sil rfl rfl rfl (Sil.eql rfl rfl rfl) ?_
                refine OL_sil rfl rfl rfl (Sil.assign rfl rfl) ?_
                refine OL_nil ?_
                refine TC_if rfl (fun ht101 => ?_) (fun ht101 => ?_)
                · refine TC_region ?_
                  refine OL_sil rfl rfl rfl (Sil.move rfl rfl) ?_
                  refine OL_sil rfl rfl rfl (Sil.move rfl rfl) ?_
                  refine OL_sil rfl rfl rfl (Sil.fieldLoc 2 rfl rfl Try.underlying58 rfl rfl) ?_
                  refine OL_sil rfl rfl rfl (by exact Sil.ownV rfl rfl (by first | exact at0 | exact at1 | exact at2 | exact at3 | exact at4 | exact at5 | exact at6 | exact at7 | exact at8 | exact at9 | exact at10 | exact at11 | exact at12 | exact at13 | exact at14 | exact at15) Try.underlying41 rfl (by rfl)) ?_
                  refine OL_loud rfl rfl rfl (LO.calls rfl ent43 rfl (fun w hw => Clone_gives e.ops a1 cap1 w (hu.keep hw.keep) (by omega))) ?_
                  rintro _ _ ⟨_, ⟨g4, cap4, rfl, rfl⟩, rfl⟩
                  refine OL_sil rfl rfl rfl (Sil.nilCheck rfl rfl) ?_
                  refine OL_sil rfl rfl rfl (Sil.fieldLoc 1 rfl rfl Try.underlying43 rfl rfl) ?_
                  refine OL_loud0 rfl rfl (LO.sqStoreAs 2 rfl rfl rfl rfl rfl rfl rfl (by show m * 3 + 1 < xs.length * 3; omega) (rvsC_set1 hxt 1)) ?_
                  rintro _ _ ⟨rfl, rfl⟩
                  refine OL_sil rfl rfl rfl (Sil.nilCheck rfl rfl) ?_
                  refine OL_sil rfl rfl rfl (Sil.fieldLoc 2 rfl rfl Try.underlying43 rfl rfl) ?_
                  refine OL_loud0 rfl rfl (LO.sqStoreAs 2 rfl rfl rfl rfl rfl rfl rfl (by show m * 3 + 2 < xs.length * 3; omega) ((rvsC_set2 (List.getElem?_set_self (ltOf hxt)) e.ops (.slice g4 e.ops.length cap4)).trans (by rw [List.set_set]))) ?_
                  rintro _ _ ⟨rfl, rfl⟩
                  refine OL_nil ?_
                  refine TC_know (fun w hw => lies_cl (p := t.1.p) (q := 1) (rs := rs) (hw.mine _ (List.mem_of_getElem? (i := 5) rfl))) (fun hlies => ?_)
                  refine TC_own (fun w hw => hw.bagPut (A := [_, _, _]) (B := [_]) (C := []) rfl) ?_
                  refine TC_region ?_
                  refine OL_sil rfl rfl rfl (Sil.add rfl rfl rfl (by omega) (by omega)) ?_
                  refine OL_sil rfl rfl rfl (Sil.move rfl rfl) ?_
                  refine OL_nil ?_
                  have hxl : (xs.set m (⟨t.1.p, 1, e.ops⟩, .slice g4 e.ops.length cap4)).length = xs.length := List.length_set
                  refine ⟨(i + 1, xs.set m (⟨t.1.p, 1, e.ops⟩, .slice g4 e.ops.length cap4), some ⟨g5, 0, none⟩, cap, rs ++ [sq g4 e.ops.length cap4 40 3 (opsC e.ops)]), ⟨⟨by show i + 1 ≤ es.length; omega, noErr_succ herr herr1, ?_, lies_set hli (fun r hr => List.mem_append_left _ hr) hlies⟩, ⟨rfl, slotV rfl (by simp only [hxl]), rfl, rfl, rfl, rfl, rfl, trivial⟩, ?_⟩, by show es.length - (i + 1) < es.length - i; omega⟩
                  · show (xs.set m _).map (·.1) = (txsM es (i + 1)).map (·.1)
                    rw [txsM_end he hp]
                    exact set_step hxs ht (by rw [stepT_2 htp2 ht101]) huniq
                  · show List.Sublist [mpR _ mo (opF es (i + 1)), mpR _ mw (wrG es (i + 1)), sq _ (xs.set m _).length cap _ 3 (rvsC (xs.set m _)), bagR _] _
                    rw [hxl, ← opF_del he hp, wrG_end he hp]
                    exact List.Sublist.cons_cons _ (List.Sublist.cons_cons _ (List.Sublist.cons_cons _ (List.Sublist.cons_cons _ (List.nil_sublist _))))
                · refine TC_seq ?_
                  refine TC_region ?_
                  refine OL_sil rfl rfl rfl (Sil.eql rfl rfl rfl) ?_
                  refine OL_sil rfl rfl rfl (Sil.assign rfl rfl) ?_
                  refine OL_nil ?_
                  refine TC_if rfl (fun ht112 => ?_) (fun ht112 => ?_)
                  · refine TC_region ?_
                    refine OL_sil rfl rfl rfl (Sil.move rfl rfl) ?_
                    refine OL_sil rfl rfl rfl (Sil.nilCheck rfl rfl) ?_
                    refine OL_sil rfl rfl rfl (Sil.fieldLoc 1 rfl rfl Try.underlying43 rfl rfl) ?_
                    refine OL_loud0 rfl rfl (LO.sqStoreAs 2 rfl rfl rfl rfl rfl rfl rfl (by show m * 3 + 1 < xs.length * 3; omega) (rvsC_set1 hxt 2)) ?_
                    rintro _ _ ⟨rfl, rfl⟩
                    refine OL_nil ?_
                    refine TC_region ?_
                    refine OL_sil rfl rfl rfl (Sil.add rfl rfl rfl (by omega) (by omega)) ?_
                    refine OL_sil rfl rfl rfl (Sil.move rfl rfl) ?_
                    refine OL_nil ?_
                    have hxl : (xs.set m (⟨t.1.p, 2, t.1.ops⟩, .slice at9 t.1.ops.length ct9)).length = xs.length := List.length_set
                    refine ⟨(i + 1, xs.set m (⟨t.1.p, 2, t.1.ops⟩, .slice at9 t.1.ops.length ct9), some ⟨g5, 0, none⟩, cap, rs), ⟨⟨by show i + 1 ≤ es.length; omega, noErr_succ herr herr1, ?_, lies_set hli (fun r hr => hr) hlt⟩, ⟨rfl, slotV rfl (by simp only [hxl]), rfl, rfl, rfl, rfl, rfl, trivial⟩, ?_⟩, by show es.length - (i + 1) < es.length - i; omega⟩
                    · show (xs.set m _).map (·.1) = (txsM es (i + 1)).map (·.1)
                      rw [txsM_end he hp]
                      exact set_step hxs ht (by rw [stepT_3 htp2 ht112]) huniq
                    · show List.Sublist [mpR _ mo (opF es (i + 1)), mpR _ mw (wrG es (i + 1)), sq _ (xs.set m _).length cap _ 3 (rvsC (xs.set m _)), bagR _] _
                      rw [hxl, ← opF_del he hp, wrG_end he hp]
                      exact List.Sublist.cons_cons _ (List.Sublist.cons_cons _ (List.Sublist.cons_cons _ (List.Sublist.cons_cons _ (List.nil_sublist _))))
                  · refine TC_skip ?_
                    refine TC_region ?_
                    refine OL_sil rfl rfl rfl (Sil.add rfl rfl rfl (by omega) (by omega)) ?_
                    refine OL_sil rfl rfl rfl (Sil.move rfl rfl) ?_
                    refine OL_nil ?_
                    refine ⟨(i + 1, xs, some ⟨g5, 0, none⟩, cap, rs), ⟨⟨by show i + 1 ≤ es.length; omega, noErr_succ herr herr1, ?_, hli⟩, ⟨rfl, rfl, rfl, rfl, rfl, rfl, rfl, trivial⟩, ?_⟩, by show es.length - (i + 1) < es.length - i; omega⟩
                    · show xs.map (·.1) = (txsM es (i + 1)).map (·.1)
                      rw [txsM_end he hp, hxs]
                      congr 1
                      refine (List.map_id _).symm.trans (List.map_congr_left fun t' _ => (stepT_no fun h => by omega).symm)
                    · show List.Sublist [mpR _ mo (opF es (i + 1)), mpR _ mw (wrG es (i + 1)), sq _ xs.length cap _ 3 (rvsC xs), bagR _] _
                      rw [← opF_del he hp, wrG_end he hp]
                      exact List.Sublist.cons_cons _ (List.Sublist.cons_cons _ (List.Sublist.cons_cons _ (List.Sublist.cons_cons _ (List.nil_sublist _))))
      · have hie : i = es.length := by omega
        subst hie
        refine TC_exit ?_
        refine TC_seq ?_
        refine TC_region ?_
        refine OL_sil rfl rfl rfl (Sil.move rfl rfl) ?_
        refine OL_sil rfl rfl rfl (Sil.assign rfl rfl) ?_
        refine OL_sil rfl rfl rfl (Sil.assign rfl rfl) ?_
        refine OL_sil rfl rfl rfl (Sil.assign rfl rfl) ?_
        refine OL_nil ?_
        refine TC_ret ?_
        exact ret3h rfl rfl rfl rfl (List.Sublist.cons _ (List.Sublist.cons _ (List.Sublist.refl _))) (.inr ⟨errC_ok ht19 herr, ao, cap, xs, rs, rfl, hxs, rfl, hli⟩)
end Go.Proofs.Ytjnopbmanhialaa
