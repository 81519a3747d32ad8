/-
  Walk: the reference's flaws.
-/
import Derived.Test.YtjnopbmanhialaaHfX
namespace Go.Proofs.Ytjnopbmanhialaa
open Go.Cru

theorem elAr : El Try.prog 30 34 (.agg #[.int .i64 0, .int .i64 0, .int .i64 0]) 3 24 := ⟨Try.underlying30, rfl, rfl, by decide⟩
def finB (ts : List RcD) (wi : Int) (p : Int × Int) : Bool := match ts[wi.toNat]? with
  | some t => laHas (wrN t.ops 16) (wrN t.ops 16).length p
  | none => false
def wfR (ts : List RcD) (o : OpD) : Int := wr1 ts (o.key, o.val) ts.length
def kindR (ts : List RcD) (i : Nat) (o : OpD) : Int := kindG ts i o (wfR ts o) (finB ts (wfR ts o) (o.key, o.val))
theorem kindG_nn (ts : List RcD) (i : Nat) (o : OpD) (wi : Int) (la : Bool) : 0 ≤ kindG ts i o wi la := by
  unfold kindG
  split
  · omega
  · split
    · omega
    · split
      · omega
      · split <;> omega
theorem wr1_lt (ts : List RcD) (p : Int × Int) : ∀ i : Nat, i ≤ ts.length → -1 ≤ wr1 ts p i ∧ wr1 ts p i < ts.length
  | 0, _ => by rw [wr1]; omega
  | i + 1, hi => by
    have ih := wr1_lt ts p i (by omega)
    rw [wr1]
    split
    · exact ih
    · split
      · split <;> omega
      · omega

theorem refFlaws_gives (ts : List RcD) (a : Option Addr) (cap : Nat) (w0 : World) (hx : RcsAt w0 a ts) (hn : ts.length ≤ 1000) (hb : ∀ t ∈ ts, t.ops.length ≤ 1000) :
    Gives Try.prog 19 [.slice a ts.length cap] w0 [] fun v h => ∃ ao cp, v = .slice ao (flN (kindR ts) ts ts.length).length cp ∧ h = [sq ao (flN (kindR ts) ts ts.length).length cp 34 3 (opsC (flN (kindR ts) ts ts.length))] := by
  refine gives_of Try.func19 rfl rfl rfl (Own.start w0) ?_
  refine TC_seq ?_
  refine TC_region ?_
  refine OL_sil rfl rfl rfl (Sil.assign rfl rfl) ?_
  refine OL_nil ?_
  refine TC_seq ?_
  refine TC_region ?_
  refine OL_loud rfl rfl rfl (LO.buildSlice0 (s := 3) rfl Try.underlying30 rfl) ?_
  rintro _ _ ⟨g0, rfl, rfl⟩
  refine OL_sil rfl rfl rfl (Sil.assign rfl rfl) ?_
  refine OL_nil ?_
  refine TC_seq ?_
  refine TC_seq ?_
  refine TC_region ?_
  refine OL_sil rfl rfl rfl (Sil.move rfl rfl) ?_
  refine OL_sil rfl rfl rfl (Sil.lenSl rfl rfl Try.underlying25) ?_
  refine OL_sil rfl rfl rfl (Sil.move rfl rfl) ?_
  refine OL_nil ?_
  refine TC_block ?_
  refine TC_loop (fun (x : Nat × List OpD × Option Addr × Nat) => [(0, .slice a ts.length cap), (3, .slice x.2.2.1 x.2.1.length x.2.2.2), (10, .slice a ts.length cap), (11, .int .i64 ts.length), (12, .int .i64 x.1)]) (fun x => [sq x.2.2.1 x.2.1.length x.2.2.2 34 3 (opsC x.2.1)]) (fun x => x.1 ≤ ts.length ∧ x.2.1 = flN (kindR ts) ts x.1) (fun x => ts.length - x.1) (0, [], some ⟨g0, 0, none⟩, 0) ?_ ?_
  · exact ⟨⟨Nat.zero_le _, rfl⟩, ⟨rfl, rfl, rfl, rfl, rfl, trivial⟩, List.Sublist.refl _⟩
  · rintro ⟨i, out0, ao0, cap0⟩ ⟨hi, hout0⟩
    replace hi : i ≤ ts.length := hi
    replace hout0 : out0 = flN (kindR ts) ts i := hout0
    refine TC_seq ?_
    refine TC_region ?_
    refine OL_sil rfl rfl rfl (Sil.lss rfl rfl rfl) ?_
    refine OL_nil ?_
    refine TC_seq ?_
    refine TC_if rfl (fun ht13 => ?_) (fun ht13 => ?_)
    · obtain ⟨t, ht⟩ := nthSome ht13
      have hbt := hb t (List.mem_of_getElem? ht)
      obtain ⟨x, u, rfl, hct, au, cu, rfl, hu⟩ := hx.2 i t ht
      have hrl := rdF_len t
      have hfl := flN_len (kf := kindR ts) hb i
      refine TC_skip ?_
      refine TC_seq ?_
      refine TC_block ?_
      refine TC_seq ?_
      refine TC_region ?_
      refine OL_sil rfl rfl rfl (Sil.move rfl rfl) ?_
      refine OL_sil rfl rfl rfl (Sil.assign rfl rfl) ?_
      refine OL_nil ?_
      refine TC_seq ?_
      refine TC_region ?_
      refine OL_sil rfl rfl rfl (Sil.move rfl rfl) ?_
      refine OL_sil rfl rfl rfl (Sil.move rfl rfl) ?_
      refine OL_sil rfl rfl rfl (Sil.indexSl i rfl rfl rfl Try.underlying25 rfl rfl (by omega)) ?_
      refine OL_sil rfl rfl rfl (Sil.oldS rfl rfl hct Try.underlying43 rfl rfl rfl) ?_
      refine OL_loud rfl rfl rfl (LO.calls rfl ent32 rfl (fun w hw => refReads_gives t (.slice au t.ops.length cu) w ⟨au, cu, rfl, hu.keep hw.keep⟩ (by omega))) ?_
      rintro _ _ ⟨_, ⟨ar, cr, rfl, rfl⟩, rfl⟩
      refine OL_sil rfl rfl rfl (Sil.lenSl rfl rfl Try.underlying41) ?_
      refine OL_sil rfl rfl rfl (Sil.move rfl rfl) ?_
      refine OL_nil ?_
      refine TC_block ?_
      refine TC_loop (fun (x' : Nat × List OpD × Option Addr × Nat) => [(0, .slice (some x) ts.length cap), (3, .slice x'.2.2.1 x'.2.1.length x'.2.2.2), (4, .int .i64 i), (10, .slice (some x) ts.length cap), (11, .int .i64 ts.length), (12, .int .i64 i), (19, .slice ar (rdF t).length cr), (20, .int .i64 (rdF t).length), (21, .int .i64 x'.1)]) (fun x' => [sq x'.2.2.1 x'.2.1.length x'.2.2.2 34 3 (opsC x'.2.1), sq ar (rdF t).length cr 40 3 (opsC (rdF t))]) (fun x' => x'.1 ≤ (rdF t).length ∧ x'.2.1 = flN (kindR ts) ts i ++ flR (kindR ts i) i (rdF t) x'.1) (fun x' => (rdF t).length - x'.1) (0, out0, ao0, cap0) ?_ ?_
      · exact ⟨⟨Nat.zero_le _, by show out0 = _; rw [hout0, flR, List.append_nil]⟩, ⟨rfl, rfl, rfl, rfl, rfl, rfl, rfl, rfl, rfl, trivial⟩, List.Sublist.refl _⟩
      · rintro ⟨k, out, ao, cap1⟩ ⟨hk, hout⟩
        replace hk : k ≤ (rdF t).length := hk
        replace hout : out = flN (kindR ts) ts i ++ flR (kindR ts i) i (rdF t) k := hout
        have hol : ((k, out, ao, cap1) : Nat × List OpD × Option Addr × Nat).2.1.length ≤ i * 1000 + k := by
          show out.length ≤ _
          rw [hout, List.length_append]
          have := flR_len (kindR ts i) i (rdF t) k
          omega
        have hol2 : out.length ≤ i * 1000 + k := hol
        refine TC_seq ?_
        refine TC_region ?_
        refine OL_sil rfl rfl rfl (Sil.lss rfl rfl rfl) ?_
        refine OL_nil ?_
        refine TC_seq ?_
        refine TC_if rfl (fun ht22 => ?_) (fun ht22 => ?_)
        · obtain ⟨o, hr⟩ : ∃ o, (rdF t)[k]? = some o := ⟨_, List.getElem?_eq_getElem (by omega)⟩
          obtain ⟨hw1, hw2⟩ := wr1_lt ts (o.key, o.val) ts.length (Nat.le_refl _)
          have hkn : 0 ≤ kindR ts i o := kindG_nn _ _ _ _ _
          refine TC_know (fun w hw => hw.sqSome (i := 1) rfl (by omega)) (fun hsome => ?_)
          obtain ⟨g6, rfl⟩ := hsome
          refine TC_skip ?_
          refine TC_seq ?_
          refine TC_block ?_
          refine TC_seq ?_
          refine TC_region ?_
          refine OL_sil rfl rfl rfl (Sil.move rfl rfl) ?_
          refine OL_sil rfl rfl rfl (Sil.indexOwn k rfl rfl rfl Try.underlying41 rfl rfl (by omega)) ?_
          refine OL_sil rfl rfl rfl (Sil.sqLoadN 1 rfl rfl rfl Try.underlying40 rfl rfl rfl (opsC_at hr)) ?_
          refine OL_loud rfl rfl rfl (LO.alloc rfl rfl) ?_
          rintro _ _ ⟨b6, _, rfl, rfl⟩
          refine OL_sil rfl rfl rfl (Sil.assign rfl rfl) ?_
          refine OL_loud0 rfl rfl (by first | exact LO.storeAllV rfl rfl rfl (by first | exact at0 | exact at1 | exact at2 | exact at3 | exact at4 | exact at5 | exact at6 | exact at7 | exact at8 | exact at9 | exact at10 | exact at11 | exact at12 | exact at13 | exact at14 | exact at15) (by rfl) (by rfl) (by rfl) (by rfl) | exact LO.store1V rfl rfl rfl (by first | exact at0 | exact at1 | exact at2 | exact at3 | exact at4 | exact at5 | exact at6 | exact at7 | exact at8 | exact at9 | exact at10 | exact at11 | exact at12 | exact at13 | exact at14 | exact at15) (by rfl) (by rfl) (by rfl)) ?_
          rintro _ _ ⟨rfl, rfl⟩
          refine OL_nil ?_
          refine TC_seq ?_
          refine TC_region ?_
          refine OL_sil rfl rfl rfl (Sil.move rfl rfl) ?_
          refine OL_sil rfl rfl rfl (Sil.fieldLoc 1 rfl rfl Try.underlying40 rfl rfl) ?_
          refine OL_sil rfl rfl rfl (by exact Sil.ownV rfl rfl (by first | exact at0 | exact at1 | exact at2 | exact at3 | exact at4 | exact at5 | exact at6 | exact at7 | exact at8 | exact at9 | exact at10 | exact at11 | exact at12 | exact at13 | exact at14 | exact at15) Try.underlying3 rfl (by rfl)) ?_
          refine OL_sil rfl rfl rfl (Sil.fieldLoc 2 rfl rfl Try.underlying40 rfl rfl) ?_
          refine OL_sil rfl rfl rfl (by exact Sil.ownV rfl rfl (by first | exact at0 | exact at1 | exact at2 | exact at3 | exact at4 | exact at5 | exact at6 | exact at7 | exact at8 | exact at9 | exact at10 | exact at11 | exact at12 | exact at13 | exact at14 | exact at15) Try.underlying3 rfl (by rfl)) ?_
          refine OL_pure rfl rfl rfl (LO.pure rfl ent23 rfl (fun w hw => Writer_gives ts (some x) cap o.key o.val w (hx.keep hw.keep) hn hb)) ?_
          refine OL_sil rfl rfl rfl (Sil.assign rfl rfl) ?_
          refine OL_nil ?_
          refine TC_seq ?_
          refine TC_region ?_
          refine OL_sil rfl rfl rfl (Sil.assign rfl rfl) ?_
          refine OL_nil ?_
          refine TC_seq ?_
          refine TC_seq ?_
          refine TC_region ?_
          refine OL_sil rfl rfl rfl (Sil.fieldLoc 2 rfl rfl Try.underlying40 rfl rfl) ?_
          refine OL_sil rfl rfl rfl (by exact Sil.ownV rfl rfl (by first | exact at0 | exact at1 | exact at2 | exact at3 | exact at4 | exact at5 | exact at6 | exact at7 | exact at8 | exact at9 | exact at10 | exact at11 | exact at12 | exact at13 | exact at14 | exact at15) Try.underlying3 rfl (by rfl)) ?_
          refine OL_sil rfl rfl rfl (Sil.neq rfl rfl rfl) ?_
          refine OL_nil ?_
          refine TC_cut (fun _ : Unit => [(0, .slice (some x) ts.length cap), (3, .slice ao out.length cap1), (4, .int .i64 i), (5, .int .i64 k), (8, .int .i64 (kindR ts i o)), (10, .slice (some x) ts.length cap), (11, .int .i64 ts.length), (12, .int .i64 i), (19, .slice (some ⟨g6, 0, none⟩) (rdF t).length cr), (20, .int .i64 (rdF t).length), (21, .int .i64 k)]) (fun _ => [sq ao out.length cap1 34 3 (opsC out), sq (some ⟨g6, 0, none⟩) (rdF t).length cr 40 3 (opsC (rdF t))]) (fun _ => True) ?_ ?_
          · refine TC_ifn rfl (fun ht34 => ?_) (fun ht34 => ?_)
            · refine TC_block ?_
              refine TC_seq ?_
              refine TC_bool 35 (wr1 ts (o.key, o.val) ts.length < 0 ∨ wr1 ts (o.key, o.val) ts.length = i) ?_ ?_
              · refine TC_region ?_
                refine OL_sil rfl rfl rfl (Sil.move rfl rfl) ?_
                refine OL_sil rfl rfl rfl (Sil.lss rfl rfl rfl) ?_
                refine OL_sil rfl rfl rfl (Sil.move rfl rfl) ?_
                refine OL_dec 38 rfl (fun ht38 => ?_) (fun ht38 => ?_)
                · refine OL_skip rfl rfl rfl ?_
                  refine OL_skip rfl rfl rfl ?_
                  refine OL_skip rfl rfl rfl ?_
                  refine OL_sil rfl rfl rfl (Sil.pick1 rfl rfl rfl) ?_
                  refine OL_sil rfl rfl rfl (Sil.assign rfl rfl) ?_
                  refine OL_nil ?_
                  (refine Cont.then_intro (And.intro (by (repeat' (first | exact trivial | refine ⟨rfl, ?_⟩))) (And.intro ?_ rfl)); first | exact slotV rfl (congrArg Value.bool (decide_eq_true (by omega)).symm) | exact slotV rfl (congrArg Value.bool (decide_eq_false (by omega)).symm) | exact slotV rfl (congrArg Value.bool (decide_eq_decide.2 (by omega))) | exact slotV rfl (congrArg Value.bool (decide_not.symm.trans (decide_eq_decide.2 (by omega)))))
                · refine OL_sil rfl rfl rfl (Sil.move rfl rfl) ?_
                  refine OL_sil rfl rfl rfl (Sil.move rfl rfl) ?_
                  refine OL_sil rfl rfl rfl (Sil.eql rfl rfl rfl) ?_
                  refine OL_sil rfl rfl rfl (Sil.pick0 rfl rfl rfl) ?_
                  refine OL_sil rfl rfl rfl (Sil.assign rfl rfl) ?_
                  refine OL_nil ?_
                  (refine Cont.then_intro (And.intro (by (repeat' (first | exact trivial | refine ⟨rfl, ?_⟩))) (And.intro ?_ rfl)); first | exact slotV rfl (congrArg Value.bool (decide_eq_true (by omega)).symm) | exact slotV rfl (congrArg Value.bool (decide_eq_false (by omega)).symm) | exact slotV rfl (congrArg Value.bool (decide_eq_decide.2 (by omega))) | exact slotV rfl (congrArg Value.bool (decide_not.symm.trans (decide_eq_decide.2 (by omega)))))
              refine TC_if rfl (fun ht35 => ?_) (fun ht35 => ?_)
              · refine TC_region ?_
                refine OL_sil rfl rfl rfl (Sil.assign rfl rfl) ?_
                refine OL_nil ?_
                exact ⟨(), trivial, ⟨rfl, rfl, rfl, rfl, slotV rfl (congrArg (Value.int .i64) (show _ = kindR ts i o from (kindG_1 ht34 ht35).symm)), rfl, rfl, rfl, rfl, rfl, rfl, trivial⟩, List.Sublist.cons_cons _ (List.Sublist.cons_cons _ (List.nil_sublist _))⟩
              · obtain ⟨tw, htw⟩ : ∃ tw, ts[(wr1 ts (o.key, o.val) ts.length).toNat]? = some tw := ⟨_, List.getElem?_eq_getElem (by omega)⟩
                obtain ⟨xw, uw, hxw, hcw, hvw⟩ := hx.2 _ tw htw
                cases hxw
                have hbw := hb tw (List.mem_of_getElem? htw)
                have hfin : finB ts (wfR ts o) (o.key, o.val) = laHas (wrN tw.ops 16) (wrN tw.ops 16).length (o.key, o.val) := by unfold finB wfR; rw [htw]
                refine TC_seq ?_
                refine TC_region ?_
                refine OL_sil rfl rfl rfl (Sil.move rfl rfl) ?_
                refine OL_sil rfl rfl rfl (Sil.move rfl rfl) ?_
                refine OL_sil rfl rfl rfl (Sil.indexSl (wr1 ts (o.key, o.val) ts.length).toNat rfl rfl rfl Try.underlying25 rfl (by omega) (by omega)) ?_
                refine OL_sil rfl rfl rfl (Sil.fieldAdd 1 rfl rfl Try.underlying43 rfl rfl) ?_
                refine OL_sil rfl rfl rfl (Sil.oldF 1 rfl (by rw [← add_add]; rfl) hcw Try.underlying3 rfl rfl) ?_
                refine OL_sil rfl rfl rfl (Sil.eql rfl rfl rfl) ?_
                refine OL_sil rfl rfl rfl (Sil.assign rfl rfl) ?_
                refine OL_nil ?_
                refine TC_if rfl (fun ht43 => ?_) (fun ht43 => ?_)
                · refine TC_region ?_
                  refine OL_sil rfl rfl rfl (Sil.assign rfl rfl) ?_
                  refine OL_nil ?_
                  exact ⟨(), trivial, ⟨rfl, rfl, rfl, rfl, slotV rfl (congrArg (Value.int .i64) (show _ = kindR ts i o from (kindG_2 ht34 ht35 htw ht43).symm)), rfl, rfl, rfl, rfl, rfl, rfl, trivial⟩, List.Sublist.cons_cons _ (List.Sublist.cons_cons _ (List.nil_sublist _))⟩
                · refine TC_seq ?_
                  refine TC_draw rfl (fun j => false) ?_
                  refine DL_take 0 rfl (by kernel_rfl) rfl rfl rfl (Sil.move rfl rfl) (fun _ hr => hr) ?_
                  refine DL_take 1 rfl (by kernel_rfl) rfl rfl rfl (Sil.move rfl rfl) (fun _ hr => hr) ?_
                  refine DL_take 2 rfl (by kernel_rfl) rfl rfl rfl (Sil.indexSl (wr1 ts (o.key, o.val) ts.length).toNat rfl rfl rfl Try.underlying25 rfl (by omega) (by omega)) (fun _ hr => hr) ?_
                  refine DL_take 3 rfl (by kernel_rfl) rfl rfl rfl (Sil.oldS rfl rfl hcw Try.underlying43 rfl rfl rfl) (fun _ hr => hr) ?_
                  refine DL_take 4 rfl (by kernel_rfl) rfl rfl rfl (Sil.fieldLoc 1 rfl rfl Try.underlying40 rfl rfl) (fun _ hr => hr) ?_
                  refine DL_take 5 rfl (by kernel_rfl) rfl rfl rfl (by exact Sil.ownV rfl rfl (by first | exact at0 | exact at1 | exact at2 | exact at3 | exact at4 | exact at5 | exact at6 | exact at7 | exact at8 | exact at9 | exact at10 | exact at11 | exact at12 | exact at13 | exact at14 | exact at15) Try.underlying3 rfl (by rfl)) (fun _ hr => hr) ?_
                  refine DL_take 6 rfl (by kernel_rfl) rfl rfl rfl (Sil.fieldLoc 2 rfl rfl Try.underlying40 rfl rfl) (fun _ hr => hr) ?_
                  refine DL_take 7 rfl (by kernel_rfl) rfl rfl rfl (by exact Sil.ownV rfl rfl (by first | exact at0 | exact at1 | exact at2 | exact at3 | exact at4 | exact at5 | exact at6 | exact at7 | exact at8 | exact at9 | exact at10 | exact at11 | exact at12 | exact at13 | exact at14 | exact at15) Try.underlying3 rfl (by rfl)) (fun _ hr => hr) ?_
                  refine DL_one 8 (by kernel_rfl) ?_
                  refine DS_loud rfl rfl rfl rfl (LO.pure rfl ent41 rfl (fun w hw => final_gives tw uw o.key o.val w (hvw.keep hw.keep) hbw)) ?_
                  rintro _ _ ⟨rfl, rfl⟩
                  refine ⟨.inr (fun _ hr => hr), ?_⟩
                  refine DL_take 9 rfl (by kernel_rfl) rfl rfl rfl (Sil.not rfl rfl) (fun _ hr => hr) ?_
                  refine DL_take 10 rfl (by kernel_rfl) rfl rfl rfl (Sil.assign rfl rfl) (fun _ hr => hr) ?_
                  refine DL_done (by kernel_rfl) ?_
                  refine TC_cond rfl (fun ht50 => ?_) (fun ht50 => ?_)
                  · refine TC_region ?_
                    refine OL_sil rfl rfl rfl (Sil.assign rfl rfl) ?_
                    refine OL_nil ?_
                    exact ⟨(), trivial, ⟨rfl, rfl, rfl, rfl, slotV rfl (congrArg (Value.int .i64) (show _ = kindR ts i o from ((kindG_3 ht34 ht35 htw ht43).trans (if_neg (by rw [hfin]; simpa using ht50))).symm)), rfl, rfl, rfl, rfl, rfl, rfl, trivial⟩, List.Sublist.cons_cons _ (List.Sublist.cons_cons _ (List.nil_sublist _))⟩
                  · refine TC_skip ?_
                    exact ⟨(), trivial, ⟨rfl, rfl, rfl, rfl, slotV rfl (congrArg (Value.int .i64) (show _ = kindR ts i o from ((kindG_3 ht34 ht35 htw ht43).trans (if_pos (by rw [hfin]; simpa using ht50))).symm)), rfl, rfl, rfl, rfl, rfl, rfl, trivial⟩, List.Sublist.cons_cons _ (List.Sublist.cons_cons _ (List.nil_sublist _))⟩
            · refine TC_skip ?_
              exact ⟨(), trivial, ⟨rfl, rfl, rfl, rfl, slotV rfl (congrArg (Value.int .i64) (show _ = kindR ts i o from (kindG_0 ht34).symm)), rfl, rfl, rfl, rfl, rfl, rfl, trivial⟩, List.Sublist.cons_cons _ (List.Sublist.cons_cons _ (List.nil_sublist _))⟩
          · intro _ _
            refine TC_seq ?_
            refine TC_region ?_
            refine OL_sil rfl rfl rfl (Sil.move rfl rfl) ?_
            refine OL_sil rfl rfl rfl (Sil.gtr rfl rfl rfl) ?_
            refine OL_nil ?_
            refine TC_if rfl (fun ht62 => ?_) (fun ht62 => ?_)
            · refine TC_region ?_
              refine OL_sil rfl rfl rfl (Sil.move rfl rfl) ?_
              refine OL_sil rfl rfl rfl (Sil.move rfl rfl) ?_
              refine OL_sil rfl rfl rfl (Sil.move rfl rfl) ?_
              refine OL_sil rfl rfl rfl (Sil.move rfl rfl) ?_
              refine OL_sil rfl rfl rfl (Sil.build (vs := [(0, .int .i64 i), (1, .int .i64 k), (2, .int .i64 (kindR ts i o))]) (cs := (iv [(i : Int), (k : Int), kindR ts i o]).toArray) rfl rfl (fun _ => rfl)) ?_
              refine OL_loud rfl rfl rfl (LO.buildSlice1 rfl rfl Try.underlying30 rfl rfl rfl) ?_
              rintro _ _ ⟨tb, rfl, rfl⟩
              refine OL_loud rfl rfl rfl (LO.append 0 (iv [(i : Int), (k : Int), kindR ts i o]) rfl rfl rfl rfl elAr rfl (fun w hw => hw.cells (i := 2) rfl) (by simp [iv, oneC]) (by unfold maxLen; omega) (by omega)) ?_
              rintro _ _ ⟨ao1, cap2, rfl, rfl⟩
              refine OL_sil rfl rfl rfl (Sil.assign rfl rfl) ?_
              refine OL_nil ?_
              refine TC_region ?_
              refine OL_sil rfl rfl rfl (Sil.add rfl rfl rfl (by omega) (by omega)) ?_
              refine OL_sil rfl rfl rfl (Sil.move rfl rfl) ?_
              refine OL_nil ?_
              have hput := flR_put (f := kindR ts i) (i := i) hr rfl (by omega)
              refine ⟨(k + 1, out ++ [⟨i, k, kindR ts i o⟩], ao1, cap2), ⟨⟨by show k + 1 ≤ (rdF t).length; omega, by show out ++ [_] = _; rw [hput, hout, List.append_assoc]⟩, ⟨rfl, slotV rfl (by show _ = Value.slice _ (out ++ [_]).length _; rw [List.length_append]; rfl), rfl, rfl, rfl, rfl, rfl, rfl, slotI rfl (by push_cast; rfl), trivial⟩, ?_⟩, by show (rdF t).length - (k + 1) < (rdF t).length - k; omega⟩
              show List.Sublist [sq ao1 (out ++ [_]).length cap2 _ 3 (opsC (out ++ [_])), _] _
              rw [← opsC_snoc, List.length_append]
              exact List.Sublist.cons_cons _ (List.Sublist.cons_cons _ (List.nil_sublist _))
            · refine TC_skip ?_
              refine TC_region ?_
              refine OL_sil rfl rfl rfl (Sil.add rfl rfl rfl (by omega) (by omega)) ?_
              refine OL_sil rfl rfl rfl (Sil.move rfl rfl) ?_
              refine OL_nil ?_
              have hno := flR_stay (f := kindR ts i) (i := i) hr (by omega)
              exact ⟨(k + 1, out, ao, cap1), ⟨⟨by show k + 1 ≤ (rdF t).length; omega, by show out = _; rw [hno]; exact hout⟩, ⟨rfl, rfl, rfl, rfl, rfl, rfl, rfl, rfl, slotI rfl (by push_cast; rfl), trivial⟩, List.Sublist.cons_cons _ (List.Sublist.cons_cons _ (List.nil_sublist _))⟩, by show (rdF t).length - (k + 1) < (rdF t).length - k; omega⟩
        · obtain rfl : k = (rdF t).length := by omega
          refine TC_exit ?_
          refine TC_region ?_
          refine OL_sil rfl rfl rfl (Sil.add rfl rfl rfl (by omega) (by omega)) ?_
          refine OL_sil rfl rfl rfl (Sil.move rfl rfl) ?_
          refine OL_nil ?_
          exact ⟨(i + 1, out, ao, cap1), ⟨⟨by show i + 1 ≤ ts.length; omega, by show out = _; rw [flN_succ ht]; exact hout⟩, ⟨rfl, rfl, rfl, rfl, slotI rfl (by push_cast; rfl), trivial⟩, List.Sublist.cons_cons _ (List.nil_sublist _)⟩, by show ts.length - (i + 1) < ts.length - i; omega⟩
    · obtain rfl : i = ts.length := by omega
      refine TC_exit ?_
      refine TC_seq ?_
      refine TC_region ?_
      refine OL_sil rfl rfl rfl (Sil.move rfl rfl) ?_
      refine OL_sil rfl rfl rfl (Sil.assign rfl rfl) ?_
      refine OL_nil ?_
      refine TC_ret ?_
      exact ret1h rfl rfl (List.Sublist.refl _) ⟨ao0, cap0, by rw [hout0], by rw [hout0]⟩
end Go.Proofs.Ytjnopbmanhialaa
