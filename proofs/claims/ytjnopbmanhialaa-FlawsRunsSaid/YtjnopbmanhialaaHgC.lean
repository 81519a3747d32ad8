/-
  Walk: the reference's Sure.
-/
import Derived.Test.YtjnopbmanhialaaHgB
namespace Go.Proofs.Ytjnopbmanhialaa
open Go.Cru

def boolsC (m : Nat) (g : Nat → Bool) : List Value := (List.range m).map fun j => Value.bool (g j)
theorem boolsC_length (m : Nat) (g : Nat → Bool) : (boolsC m g).length = m := by simp [boolsC]
theorem boolsC_snoc (m : Nat) (g : Nat → Bool) : boolsC m g ++ [.bool (g m)] = boolsC (m + 1) g := by simp [boolsC, List.range_succ]
theorem boolsC_at (m : Nat) (g : Nat → Bool) (j : Nat) (hj : j < m) : (boolsC m g)[j]? = some (.bool (g j)) := by simp [boolsC, hj]
def hn (b : Bool) : Int := if b = true then 1 else 0
theorem hn_iff (b : Bool) : hn b = 1 ↔ b = true := by cases b <;> simp [hn]
theorem hn_or (a b : Bool) : hn (a || b) = 1 ↔ (hn a = 1 ∨ hn b = 1) := by cases a <;> cases b <;> simp [hn]
theorem hn_dec (p : Prop) [Decidable p] : hn (decide p) = 1 ↔ p := by rw [hn_iff, decide_eq_true_eq]
theorem gN_end {wf : OpD → Int} {ts : List RcD} {i : Nat} {t : RcD} (ht : ts[i]? = some t) : gN wf ts ts.length i = decide (t.q = 1 ∨ t.q = 0 ∧ hn (hitN wf ts ts.length i) = 1) := by
  unfold gN
  rw [qOf_at ht]
  have hlt := ltOf ht
  cases h : hitN wf ts ts.length i <;> by_cases h1 : t.q = 1 <;> by_cases h0 : t.q = 0 <;> simp [h1, h0, hlt, hn]

theorem refSure_gives (ts : List RcD) (a : Option Addr) (cap : Nat) (w0 : World) (hx : RcsAt w0 a ts) (hn1 : ts.length ≤ 1000) (hb : ∀ t ∈ ts, t.ops.length ≤ 1000) :
    Gives Try.prog 21 [.slice a ts.length cap] w0 [] fun v h => ∃ ao cp, v = .slice ao ts.length cp ∧ h = [sq ao ts.length cp 4 1 (boolsC ts.length (gN (wfR ts) ts ts.length))] := by
  refine gives_of Try.func21 rfl rfl rfl (Own.start w0) ?_
  refine TC_seq ?_
  refine TC_region ?_
  refine OL_sil rfl rfl rfl (Sil.assign rfl rfl) ?_
  refine OL_nil ?_
  refine TC_seq ?_
  refine TC_region ?_
  refine OL_loud rfl rfl rfl (LO.buildSlice0 (s := 1) rfl Try.underlying35 rfl) ?_
  rintro _ _ ⟨g0, rfl, rfl⟩
  refine OL_sil rfl rfl rfl (Sil.assign rfl rfl) ?_
  refine OL_nil ?_
  refine TC_seq ?_
  refine TC_seq ?_
  refine TC_region ?_
  refine OL_sil rfl rfl rfl (Sil.move rfl rfl) ?_
  refine OL_sil rfl rfl rfl (Sil.lenSl rfl rfl Try.underlying25) ?_
  refine OL_sil rfl rfl rfl (Sil.move rfl rfl) ?_
  refine OL_nil ?_
  refine TC_block ?_
  refine TC_loop (fun (x : Nat × Option Addr × Nat) => [(0, .slice a ts.length cap), (3, .slice x.2.1 x.1 x.2.2), (10, .slice a ts.length cap), (11, .int .i64 ts.length), (12, .int .i64 x.1)]) (fun x => [sq x.2.1 x.1 x.2.2 4 1 (boolsC x.1 (gN (wfR ts) ts ts.length))]) (fun x => x.1 ≤ ts.length) (fun x => ts.length - x.1) (0, some ⟨g0, 0, none⟩, 0) ?_ ?_
  · exact ⟨Nat.zero_le _, ⟨rfl, rfl, rfl, rfl, rfl, trivial⟩, List.Sublist.refl _⟩
  · rintro ⟨i, ao, cap0⟩ hi
    replace hi : i ≤ ts.length := hi
    refine TC_seq ?_
    refine TC_region ?_
    refine OL_sil rfl rfl rfl (Sil.lss rfl rfl rfl) ?_
    refine OL_nil ?_
    refine TC_seq ?_
    refine TC_if rfl (fun ht13 => ?_) (fun ht13 => ?_)
    · obtain ⟨t, ht⟩ := nthSome ht13
      replace ht : ts[i]? = some t := ht
      have hil := ltOf ht
      obtain ⟨x, u, rfl, hct, au, cu, rfl, hu⟩ := hx.2 i t ht
      refine TC_skip ?_
      refine TC_seq ?_
      refine TC_block ?_
      refine TC_seq ?_
      refine TC_region ?_
      refine OL_sil rfl rfl rfl (Sil.move rfl rfl) ?_
      refine OL_sil rfl rfl rfl (Sil.assign rfl rfl) ?_
      refine OL_nil ?_
      refine TC_seq ?_
      refine TC_region ?_
      refine OL_sil rfl rfl rfl (Sil.move rfl rfl) ?_
      refine OL_sil rfl rfl rfl (Sil.move rfl rfl) ?_
      refine OL_sil rfl rfl rfl (Sil.indexSl i rfl rfl rfl Try.underlying25 rfl rfl (by omega)) ?_
      refine OL_sil rfl rfl rfl (Sil.fieldAdd 1 rfl rfl Try.underlying43 rfl rfl) ?_
      refine OL_sil rfl rfl rfl (Sil.oldF 1 rfl (by rw [← add_add]; rfl) hct Try.underlying3 rfl rfl) ?_
      refine OL_sil rfl rfl rfl (Sil.eql rfl rfl rfl) ?_
      refine OL_sil rfl rfl rfl (Sil.assign rfl rfl) ?_
      refine OL_nil ?_
      refine TC_seq ?_
      refine TC_seq ?_
      refine TC_region ?_
      refine OL_sil rfl rfl rfl (Sil.move rfl rfl) ?_
      refine OL_sil rfl rfl rfl (Sil.lenSl rfl rfl Try.underlying25) ?_
      refine OL_sil rfl rfl rfl (Sil.move rfl rfl) ?_
      refine OL_nil ?_
      refine TC_block ?_
      refine TC_loop (fun k : Nat => [(0, .slice (some x) ts.length cap), (3, .slice ao i cap0), (4, .int .i64 i), (5, .bool (decide (t.q = 1 ∨ t.q = 0 ∧ hn (hitN (wfR ts) ts k i) = 1))), (10, .slice (some x) ts.length cap), (11, .int .i64 ts.length), (12, .int .i64 i), (21, .slice (some x) ts.length cap), (22, .int .i64 ts.length), (23, .int .i64 k)]) (fun _ => [sq ao i cap0 4 1 (boolsC i (gN (wfR ts) ts ts.length))]) (fun k => k ≤ ts.length) (fun k => ts.length - k) 0 ?_ ?_
      · have h00 : hn (hitN (wfR ts) ts 0 i) = 0 := by simp [hitN, hn]
        exact ⟨Nat.zero_le _, ⟨rfl, rfl, rfl, slotV rfl (congrArg Value.bool (decide_eq_decide.2 (by omega))), rfl, rfl, rfl, rfl, rfl, rfl, trivial⟩, List.Sublist.refl _⟩
      · intro k hk
        refine TC_seq ?_
        refine TC_region ?_
        refine OL_sil rfl rfl rfl (Sil.lss rfl rfl rfl) ?_
        refine OL_nil ?_
        refine TC_seq ?_
        refine TC_if rfl (fun ht24 => ?_) (fun ht24 => ?_)
        · obtain ⟨tk, htk⟩ := nthSome ht24
          have hbk := hb tk (List.mem_of_getElem? htk)
          have hrl := rdF_len tk
          obtain ⟨xk, uk, hxk, hctk, ak, ck, rfl, hku⟩ := hx.2 k tk htk
          cases hxk
          refine TC_skip ?_
          refine TC_seq ?_
          refine TC_block ?_
          refine TC_seq ?_
          refine TC_region ?_
          refine OL_sil rfl rfl rfl (Sil.move rfl rfl) ?_
          refine OL_sil rfl rfl rfl (Sil.assign rfl rfl) ?_
          refine OL_nil ?_
          refine TC_seq ?_
          refine TC_region ?_
          refine OL_sil rfl rfl rfl (Sil.move rfl rfl) ?_
          refine OL_sil rfl rfl rfl (Sil.move rfl rfl) ?_
          refine OL_sil rfl rfl rfl (Sil.indexSl k rfl rfl rfl Try.underlying25 rfl rfl (by omega)) ?_
          refine OL_sil rfl rfl rfl (Sil.oldS rfl rfl hctk Try.underlying43 rfl rfl rfl) ?_
          refine OL_loud rfl rfl rfl (LO.calls rfl ent32 rfl (fun w hw => refReads_gives tk (.slice ak tk.ops.length ck) w ⟨ak, ck, rfl, hku.keep hw.keep⟩ (by omega))) ?_
          rintro _ _ ⟨_, ⟨ar, cr, rfl, rfl⟩, rfl⟩
          refine OL_sil rfl rfl rfl (Sil.lenSl rfl rfl Try.underlying41) ?_
          refine OL_sil rfl rfl rfl (Sil.move rfl rfl) ?_
          refine OL_nil ?_
          refine TC_block ?_
          refine TC_loop (fun m : Nat => [(0, .slice (some x) ts.length cap), (3, .slice ao i cap0), (4, .int .i64 i), (5, .bool (decide (t.q = 1 ∨ t.q = 0 ∧ (hn (hitN (wfR ts) ts k i) = 1 ∨ hn (hitR (wfR ts) (rdF tk) m i) = 1)))), (10, .slice (some x) ts.length cap), (11, .int .i64 ts.length), (12, .int .i64 i), (21, .slice (some x) ts.length cap), (22, .int .i64 ts.length), (23, .int .i64 k), (30, .slice ar (rdF tk).length cr), (31, .int .i64 (rdF tk).length), (32, .int .i64 m)]) (fun _ => [sq ao i cap0 4 1 (boolsC i (gN (wfR ts) ts ts.length)), sq ar (rdF tk).length cr 40 3 (opsC (rdF tk))]) (fun m => m ≤ (rdF tk).length) (fun m => (rdF tk).length - m) 0 ?_ ?_
          · have h00 : hn (hitR (wfR ts) (rdF tk) 0 i) = 0 := by simp [hitR, hn]
            exact ⟨Nat.zero_le _, ⟨rfl, rfl, rfl, slotV rfl (congrArg Value.bool (decide_eq_decide.2 (by omega))), rfl, rfl, rfl, rfl, rfl, rfl, rfl, rfl, rfl, trivial⟩, List.Sublist.refl _⟩
          · intro m hm
            refine TC_seq ?_
            refine TC_region ?_
            refine OL_sil rfl rfl rfl (Sil.lss rfl rfl rfl) ?_
            refine OL_nil ?_
            refine TC_seq ?_
            refine TC_if rfl (fun ht33 => ?_) (fun ht33 => ?_)
            · obtain ⟨o, hr⟩ : ∃ o, (rdF tk)[m]? = some o := ⟨_, List.getElem?_eq_getElem (by omega)⟩
              have hsucc : hn (hitR (wfR ts) (rdF tk) (m + 1) i) = 1 ↔ (hn (hitR (wfR ts) (rdF tk) m i) = 1 ∨ (o.val ≠ 0 ∧ wr1 ts (o.key, o.val) ts.length = i)) := by rw [hitR_succ hr, hn_or, hn_dec]; rfl
              refine TC_know (fun w hw => hw.sqSome (i := 1) rfl (by omega)) (fun hsome => ?_)
              obtain ⟨g6, rfl⟩ := hsome
              refine TC_skip ?_
              refine TC_seq ?_
              refine TC_block ?_
              refine TC_seq ?_
              refine TC_region ?_
              refine OL_sil rfl rfl rfl (Sil.indexOwn m rfl rfl rfl Try.underlying41 rfl rfl (by omega)) ?_
              refine OL_sil rfl rfl rfl (Sil.sqLoadN 1 rfl rfl rfl Try.underlying40 rfl rfl rfl (opsC_at hr)) ?_
              refine OL_loud rfl rfl rfl (LO.alloc rfl rfl) ?_
              rintro _ _ ⟨b8, _, rfl, rfl⟩
              refine OL_loud0 rfl rfl (by first | exact LO.storeAllV rfl rfl rfl (by first | exact at0 | exact at1 | exact at2 | exact at3 | exact at4 | exact at5 | exact at6 | exact at7 | exact at8 | exact at9 | exact at10 | exact at11 | exact at12 | exact at13 | exact at14 | exact at15) (by rfl) (by rfl) (by rfl) (by rfl) | exact LO.store1V rfl rfl rfl (by first | exact at0 | exact at1 | exact at2 | exact at3 | exact at4 | exact at5 | exact at6 | exact at7 | exact at8 | exact at9 | exact at10 | exact at11 | exact at12 | exact at13 | exact at14 | exact at15) (by rfl) (by rfl) (by rfl)) ?_
              rintro _ _ ⟨rfl, rfl⟩
              refine OL_nil ?_
              refine TC_boolE [36, 37, 38, 39, 40, 41, 42, 43, 44, 45, 46, 47, 48, 49, 50, 51, 52, 53, 54, 55, 56, 57, 58, 59, 5] 5 ((t.q = 1 ∨ t.q = 0 ∧ (hn (hitN (wfR ts) ts k i) = 1 ∨ hn (hitR (wfR ts) (rdF tk) m i) = 1)) ∨ (o.val ≠ 0 ∧ t.q = 0 ∧ wr1 ts (o.key, o.val) ts.length = i)) ?_ ?_
              · refine TC_region ?_
                refine OL_sil rfl rfl rfl (Sil.move rfl rfl) ?_
                refine OL_sil rfl rfl rfl (Sil.move rfl rfl) ?_
                refine OL_cases 37 rfl (fun ht37 => ?_) (fun ht37 => ?_)
                · have ht37 := of_decide_eq_true ht37
                  refine OL_skip rfl rfl rfl ?_
                  refine OL_skip rfl rfl rfl ?_
                  refine OL_skip rfl rfl rfl ?_
                  refine OL_skip rfl rfl rfl ?_
                  refine OL_skip rfl rfl rfl ?_
                  refine OL_skip rfl rfl rfl ?_
                  refine OL_skip rfl rfl rfl ?_
                  refine OL_skip rfl rfl rfl ?_
                  refine OL_skip rfl rfl rfl ?_
                  refine OL_skip rfl rfl rfl ?_
                  refine OL_skip rfl rfl rfl ?_
                  refine OL_skip rfl rfl rfl ?_
                  refine OL_skip rfl rfl rfl ?_
                  refine OL_skip rfl rfl rfl ?_
                  refine OL_skip rfl rfl rfl ?_
                  refine OL_skip rfl rfl rfl ?_
                  refine OL_skip rfl rfl rfl ?_
                  refine OL_skip rfl rfl rfl ?_
                  refine OL_skip rfl rfl rfl ?_
                  refine OL_skip rfl rfl rfl ?_
                  refine OL_skip rfl rfl rfl ?_
                  refine OL_sil rfl rfl rfl (Sil.pick1 rfl rfl rfl) ?_
                  refine OL_sil rfl rfl rfl (Sil.assign rfl rfl) ?_
                  refine OL_nil ?_
                  (refine Cont.then_intro (And.intro (by (repeat' (first | exact Ext.refl | refine Ext.cons rfl ?_))) (And.intro ?_ rfl)); first | exact slotV rfl (congrArg Value.bool (decide_eq_true (by omega)).symm) | exact slotV rfl (congrArg Value.bool (decide_eq_false (by omega)).symm) | exact slotV rfl (congrArg Value.bool (decide_eq_decide.2 (by omega))) | exact slotV rfl (congrArg Value.bool (decide_not.symm.trans (decide_eq_decide.2 (by omega)))))
                · have ht37 := of_decide_eq_false ht37
                  refine OL_sil rfl rfl rfl (Sil.fieldLoc 2 rfl rfl Try.underlying40 rfl rfl) ?_
                  refine OL_sil rfl rfl rfl (by exact Sil.ownV rfl rfl (by first | exact at0 | exact at1 | exact at2 | exact at3 | exact at4 | exact at5 | exact at6 | exact at7 | exact at8 | exact at9 | exact at10 | exact at11 | exact at12 | exact at13 | exact at14 | exact at15) Try.underlying3 rfl (by rfl)) ?_
                  refine OL_sil rfl rfl rfl (Sil.neq rfl rfl rfl) ?_
                  refine OL_sil rfl rfl rfl (Sil.move rfl rfl) ?_
                  refine OL_decn 41 rfl (fun ht41 => ?_) (fun ht41 => ?_)
                  · refine OL_sil rfl rfl rfl (Sil.move rfl rfl) ?_
                    refine OL_sil rfl rfl rfl (Sil.move rfl rfl) ?_
                    refine OL_sil rfl rfl rfl (Sil.indexSl i rfl rfl rfl Try.underlying25 rfl rfl (by omega)) ?_
                    refine OL_sil rfl rfl rfl (Sil.fieldAdd 1 rfl rfl Try.underlying43 rfl rfl) ?_
                    refine OL_sil rfl rfl rfl (Sil.oldF 1 rfl (by rw [← add_add]; rfl) hct Try.underlying3 rfl rfl) ?_
                    refine OL_sil rfl rfl rfl (Sil.eql rfl rfl rfl) ?_
                    refine OL_sil rfl rfl rfl (Sil.pick1 rfl rfl rfl) ?_
                    refine OL_sil rfl rfl rfl (Sil.move rfl rfl) ?_
                    refine OL_dec 49 rfl (fun ht49 => ?_) (fun ht49 => ?_)
                    · refine OL_sil rfl rfl rfl (Sil.move rfl rfl) ?_
                      refine OL_sil rfl rfl rfl (Sil.fieldLoc 1 rfl rfl Try.underlying40 rfl rfl) ?_
                      refine OL_sil rfl rfl rfl (by exact Sil.ownV rfl rfl (by first | exact at0 | exact at1 | exact at2 | exact at3 | exact at4 | exact at5 | exact at6 | exact at7 | exact at8 | exact at9 | exact at10 | exact at11 | exact at12 | exact at13 | exact at14 | exact at15) Try.underlying3 rfl (by rfl)) ?_
                      refine OL_sil rfl rfl rfl (Sil.fieldLoc 2 rfl rfl Try.underlying40 rfl rfl) ?_
                      refine OL_sil rfl rfl rfl (by exact Sil.ownV rfl rfl (by first | exact at0 | exact at1 | exact at2 | exact at3 | exact at4 | exact at5 | exact at6 | exact at7 | exact at8 | exact at9 | exact at10 | exact at11 | exact at12 | exact at13 | exact at14 | exact at15) Try.underlying3 rfl (by rfl)) ?_
                      refine OL_pure rfl rfl rfl (LO.pure rfl ent23 rfl (fun w hw => Writer_gives ts (some x) cap o.key o.val w (hx.keep hw.keep) hn1 hb)) ?_
                      refine OL_sil rfl rfl rfl (Sil.move rfl rfl) ?_
                      refine OL_sil rfl rfl rfl (Sil.eql rfl rfl rfl) ?_
                      refine OL_sil rfl rfl rfl (Sil.pick1 rfl rfl rfl) ?_
                      refine OL_sil rfl rfl rfl (Sil.pick0 rfl rfl rfl) ?_
                      refine OL_sil rfl rfl rfl (Sil.assign rfl rfl) ?_
                      refine OL_nil ?_
                      (refine Cont.then_intro (And.intro (by (repeat' (first | exact Ext.refl | refine Ext.cons rfl ?_))) (And.intro ?_ rfl)); first | exact slotV rfl (congrArg Value.bool (decide_eq_true (by omega)).symm) | exact slotV rfl (congrArg Value.bool (decide_eq_false (by omega)).symm) | exact slotV rfl (congrArg Value.bool (decide_eq_decide.2 (by omega))) | exact slotV rfl (congrArg Value.bool (decide_not.symm.trans (decide_eq_decide.2 (by omega)))))
                    · refine OL_skip rfl rfl rfl ?_
                      refine OL_skip rfl rfl rfl ?_
                      refine OL_skip rfl rfl rfl ?_
                      refine OL_skip rfl rfl rfl ?_
                      refine OL_skip rfl rfl rfl ?_
                      refine OL_skip rfl rfl rfl ?_
                      refine OL_skip rfl rfl rfl ?_
                      refine OL_skip rfl rfl rfl ?_
                      refine OL_sil rfl rfl rfl (Sil.pick0 rfl rfl rfl) ?_
                      refine OL_sil rfl rfl rfl (Sil.pick0 rfl rfl rfl) ?_
                      refine OL_sil rfl rfl rfl (Sil.assign rfl rfl) ?_
                      refine OL_nil ?_
                      (refine Cont.then_intro (And.intro (by (repeat' (first | exact Ext.refl | refine Ext.cons rfl ?_))) (And.intro ?_ rfl)); first | exact slotV rfl (congrArg Value.bool (decide_eq_true (by omega)).symm) | exact slotV rfl (congrArg Value.bool (decide_eq_false (by omega)).symm) | exact slotV rfl (congrArg Value.bool (decide_eq_decide.2 (by omega))) | exact slotV rfl (congrArg Value.bool (decide_not.symm.trans (decide_eq_decide.2 (by omega)))))
                  · refine OL_skip rfl rfl rfl ?_
                    refine OL_skip rfl rfl rfl ?_
                    refine OL_skip rfl rfl rfl ?_
                    refine OL_skip rfl rfl rfl ?_
                    refine OL_skip rfl rfl rfl ?_
                    refine OL_skip rfl rfl rfl ?_
                    refine OL_sil rfl rfl rfl (Sil.pick0 rfl rfl rfl) ?_
                    refine OL_sil rfl rfl rfl (Sil.move rfl rfl) ?_
                    refine OL_skip rfl rfl rfl ?_
                    refine OL_skip rfl rfl rfl ?_
                    refine OL_skip rfl rfl rfl ?_
                    refine OL_skip rfl rfl rfl ?_
                    refine OL_skip rfl rfl rfl ?_
                    refine OL_skip rfl rfl rfl ?_
                    refine OL_skip rfl rfl rfl ?_
                    refine OL_skip rfl rfl rfl ?_
                    refine OL_sil rfl rfl rfl (Sil.pick0 rfl rfl rfl) ?_
                    refine OL_sil rfl rfl rfl (Sil.pick0 rfl rfl rfl) ?_
                    refine OL_sil rfl rfl rfl (Sil.assign rfl rfl) ?_
                    refine OL_nil ?_
                    (refine Cont.then_intro (And.intro (by (repeat' (first | exact Ext.refl | refine Ext.cons rfl ?_))) (And.intro ?_ rfl)); first | exact slotV rfl (congrArg Value.bool (decide_eq_true (by omega)).symm) | exact slotV rfl (congrArg Value.bool (decide_eq_false (by omega)).symm) | exact slotV rfl (congrArg Value.bool (decide_eq_decide.2 (by omega))) | exact slotV rfl (congrArg Value.bool (decide_not.symm.trans (decide_eq_decide.2 (by omega)))))
              refine TC_region ?_
              refine OL_sil rfl rfl rfl (Sil.add rfl rfl rfl (by omega) (by omega)) ?_
              refine OL_sil rfl rfl rfl (Sil.move rfl rfl) ?_
              refine OL_nil ?_
              exact ⟨m + 1, ⟨by omega, ⟨rfl, rfl, rfl, slotV rfl (congrArg Value.bool (decide_eq_decide.2 (by omega))), rfl, rfl, rfl, rfl, rfl, rfl, rfl, rfl, slotI rfl (by push_cast; rfl), trivial⟩, List.Sublist.cons_cons _ (List.Sublist.cons_cons _ (List.nil_sublist _))⟩, by omega⟩
            · obtain rfl : m = (rdF tk).length := by omega
              have hsucc : hn (hitN (wfR ts) ts (k + 1) i) = 1 ↔ (hn (hitN (wfR ts) ts k i) = 1 ∨ hn (hitR (wfR ts) (rdF tk) (rdF tk).length i) = 1) := by rw [hitN_succ htk, hn_or]
              refine TC_exit ?_
              refine TC_region ?_
              refine OL_sil rfl rfl rfl (Sil.add rfl rfl rfl (by omega) (by omega)) ?_
              refine OL_sil rfl rfl rfl (Sil.move rfl rfl) ?_
              refine OL_nil ?_
              exact ⟨k + 1, ⟨by omega, ⟨rfl, rfl, rfl, slotV rfl (congrArg Value.bool (decide_eq_decide.2 (by omega))), rfl, rfl, rfl, rfl, rfl, slotI rfl (by push_cast; rfl), trivial⟩, List.Sublist.cons_cons _ (List.nil_sublist _)⟩, by omega⟩
        · obtain rfl : k = ts.length := by omega
          refine TC_slot 5 (v := .bool (gN (wfR ts) ts ts.length i)) rfl (congrArg Value.bool (gN_end ht).symm) ?_
          refine TC_exit ?_
          refine TC_region ?_
          refine OL_sil rfl rfl rfl (Sil.move rfl rfl) ?_
          refine OL_sil rfl rfl rfl (Sil.move rfl rfl) ?_
          refine OL_loud rfl rfl rfl (LO.buildSlice1 rfl rfl Try.underlying35 rfl rfl rfl) ?_
          rintro _ _ ⟨tb, rfl, rfl⟩
          refine OL_loud rfl rfl rfl (LO.append 0 [.bool (gN (wfR ts) ts ts.length i)] rfl rfl rfl rfl elBo rfl (fun w hw => hw.cells (i := 1) rfl) (by simp [oneC]) (by unfold maxLen; omega) (by omega)) ?_
          rintro _ _ ⟨ao1, cap1, rfl, rfl⟩
          refine OL_sil rfl rfl rfl (Sil.assign rfl rfl) ?_
          refine OL_nil ?_
          refine TC_region ?_
          refine OL_sil rfl rfl rfl (Sil.add rfl rfl rfl (by omega) (by omega)) ?_
          refine OL_sil rfl rfl rfl (Sil.move rfl rfl) ?_
          refine OL_nil ?_
          refine ⟨(i + 1, ao1, cap1), ⟨by show i + 1 ≤ ts.length; omega, ⟨rfl, rfl, rfl, rfl, slotI rfl (by push_cast; rfl), trivial⟩, ?_⟩, by show ts.length - (i + 1) < ts.length - i; omega⟩
          show List.Sublist [sq ao1 (i + 1) cap1 _ 1 (boolsC (i + 1) _)] _
          rw [← boolsC_snoc]
          exact List.Sublist.cons_cons _ (List.nil_sublist _)
    · obtain rfl : i = ts.length := by omega
      refine TC_exit ?_
      refine TC_seq ?_
      refine TC_region ?_
      refine OL_sil rfl rfl rfl (Sil.move rfl rfl) ?_
      refine OL_sil rfl rfl rfl (Sil.assign rfl rfl) ?_
      refine OL_nil ?_
      refine TC_ret ?_
      exact ret1h rfl rfl (List.Sublist.refl _) ⟨ao, cap0, rfl, rfl⟩
end Go.Proofs.Ytjnopbmanhialaa
