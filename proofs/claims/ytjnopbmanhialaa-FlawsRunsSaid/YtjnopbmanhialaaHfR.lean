/-
  Walks: the reads of a transaction, both ways.
-/
import Derived.Test.YtjnopbmanhialaaHfQ
namespace Go.Proofs.Ytjnopbmanhialaa
open Go.Cru

/-- Is the key written among the first i operations? -/
def wroB (ops : List OpD) (i : Nat) (key : Int) : Bool := (ops.take i).any fun o => decide (o.k = 2 ∧ o.key = key)
theorem wroB_succ {ops : List OpD} {i : Nat} {o : OpD} (ho : ops[i]? = some o) (key : Int) : wroB ops (i + 1) key = (wroB ops i key || decide (o.k = 2 ∧ o.key = key)) := by
  unfold wroB
  rw [List.take_add_one, ho, Option.toList, List.any_append]
  simp
def wroF (ops : List OpD) (i : Nat) : Int → Option Value := fun k => if wroB ops i k = true then some (.bool true) else none
theorem wroF_put {ops : List OpD} {i : Nat} {o : OpD} (ho : ops[i]? = some o) (h : o.k = 2) : updK (wroF ops i) o.key (some (.bool true)) = wroF ops (i + 1) := by
  funext v
  unfold updK wroF
  rw [wroB_succ ho]
  by_cases hv : v = o.key
  · rw [if_pos hv, if_pos (by simp [h, hv])]
  · rw [if_neg hv]
    have : decide (o.k = 2 ∧ o.key = v) = false := decide_eq_false (fun hh => hv hh.2.symm)
    rw [this, Bool.or_false]
theorem wroF_stay {ops : List OpD} {i : Nat} {o : OpD} (ho : ops[i]? = some o) (h : ¬ o.k = 2) : wroF ops (i + 1) = wroF ops i := by
  funext v
  unfold wroF
  rw [wroB_succ ho]
  have : decide (o.k = 2 ∧ o.key = v) = false := decide_eq_false (fun hh => h hh.1)
  rw [this, Bool.or_false]
theorem wroF_get (ops : List OpD) (i : Nat) (v : Int) : (wroF ops i v).getD (.bool false) = .bool (wroB ops i v) := by
  unfold wroF
  cases wroB ops i v <;> rfl
/-- The reads of others' writes among the first i operations. -/
def rdN (ops : List OpD) : Nat → List OpD
  | 0 => []
  | i + 1 => match ops[i]? with
    | some o => if o.k ≠ 2 ∧ wroB ops i o.key = false then rdN ops i ++ [o] else rdN ops i
    | none => rdN ops i
theorem rdN_put {ops : List OpD} {i : Nat} {o : OpD} (ho : ops[i]? = some o) (h : o.k ≠ 2 ∧ wroB ops i o.key = false) : rdN ops (i + 1) = rdN ops i ++ [o] := by rw [rdN, ho]; exact if_pos h
theorem rdN_stay {ops : List OpD} {i : Nat} {o : OpD} (ho : ops[i]? = some o) (h : ¬ (o.k ≠ 2 ∧ wroB ops i o.key = false)) : rdN ops (i + 1) = rdN ops i := by rw [rdN, ho]; exact if_neg h
theorem rdN_len (ops : List OpD) : ∀ i, (rdN ops i).length ≤ i
  | 0 => Nat.le_refl _
  | i + 1 => by
    have := rdN_len ops i
    rw [rdN]
    split
    · split
      · rw [List.length_append]; simp; omega
      · omega
    · omega
def rdF (t : RcD) : List OpD := if t.q = 1 then rdN t.ops t.ops.length else []

theorem Reads_gives (t : RcD) (u : Value) (w0 : World) (hu : OpsV w0 u t.ops) (hl : t.ops.length ≤ 1000) :
    Gives Try.prog 31 [.agg (rcC t u).toArray] w0 [] fun v h => ∃ ao cap, v = .slice ao (rdF t).length cap ∧ h = [sq ao (rdF t).length cap 40 3 (opsC (rdF t))] := by
  obtain ⟨a, c, rfl, hx⟩ := hu
  refine gives_of Try.func31 rfl rfl rfl (Own.start w0) ?_
  refine TC_seq ?_
  refine TC_region ?_
  refine OL_loud rfl rfl rfl (LO.box rfl rfl) ?_
  rintro _ _ ⟨b1, _, rfl, rfl⟩
  refine OL_sil rfl rfl rfl (Sil.assign rfl rfl) ?_
  refine OL_nil ?_
  refine TC_seq ?_
  refine TC_region ?_
  refine OL_sil rfl rfl rfl (Sil.assign rfl rfl) ?_
  refine OL_nil ?_
  refine TC_own (fun w hw => hw.nil 40 3) ?_
  refine TC_seq ?_
  refine TC_seq ?_
  refine TC_region ?_
  refine OL_sil rfl rfl rfl (Sil.fieldLoc 1 rfl rfl Try.underlying43 rfl rfl) ?_
  refine OL_sil rfl rfl rfl (by exact Sil.ownV rfl rfl (by first | exact at0 | exact at1 | exact at2 | exact at3 | exact at4 | exact at5 | exact at6 | exact at7 | exact at8 | exact at9 | exact at10 | exact at11 | exact at12 | exact at13 | exact at14 | exact at15) Try.underlying3 rfl (by rfl)) ?_
  refine OL_sil rfl rfl rfl (Sil.neq rfl rfl rfl) ?_
  refine OL_nil ?_
  refine TC_ifn rfl (fun ht9 => ?_) (fun ht9 => ?_)
  · have hrd : rdF t = [] := if_neg ht9
    refine TC_seq ?_
    refine TC_region ?_
    refine OL_sil rfl rfl rfl (Sil.move rfl rfl) ?_
    refine OL_sil rfl rfl rfl (Sil.assign rfl rfl) ?_
    refine OL_nil ?_
    refine TC_ret ?_
    exact ret1h rfl rfl (List.Sublist.cons _ (List.Sublist.refl _)) ⟨none, 0, by rw [hrd]; rfl, by rw [hrd]; rfl⟩
  · have hrd : rdF t = rdN t.ops t.ops.length := if_pos ht9
    refine TC_skip ?_
    refine TC_seq ?_
    refine TC_region ?_
    refine OL_loud rfl rfl rfl (LO.makeMap (intK .i64) rfl) ?_
    rintro _ _ ⟨mb, rfl, rfl⟩
    refine OL_sil rfl rfl rfl (Sil.assign rfl rfl) ?_
    refine OL_nil ?_
    refine TC_seq ?_
    refine TC_seq ?_
    refine TC_region ?_
    refine OL_sil rfl rfl rfl (Sil.fieldLoc 2 rfl rfl Try.underlying43 rfl rfl) ?_
    refine OL_sil rfl rfl rfl (by exact Sil.ownV rfl rfl (by first | exact at0 | exact at1 | exact at2 | exact at3 | exact at4 | exact at5 | exact at6 | exact at7 | exact at8 | exact at9 | exact at10 | exact at11 | exact at12 | exact at13 | exact at14 | exact at15) Try.underlying41 rfl (by rfl)) ?_
    refine OL_sil rfl rfl rfl (Sil.lenSl rfl rfl Try.underlying41) ?_
    refine OL_sil rfl rfl rfl (Sil.move rfl rfl) ?_
    refine OL_nil ?_
    refine TC_block ?_
    refine TC_loop (fun (x : Nat × Option Addr × Nat) => [(3, .slice x.2.1 (rdN t.ops x.1).length x.2.2), (4, .map (some mb)), (13, .slice a t.ops.length c), (14, .int .i64 t.ops.length), (15, .int .i64 x.1)]) (fun x => [sq x.2.1 (rdN t.ops x.1).length x.2.2 40 3 (opsC (rdN t.ops x.1)), mpR (intK .i64) mb (wroF t.ops x.1)]) (fun x => x.1 ≤ t.ops.length) (fun x => t.ops.length - x.1) (0, none, 0) ?_ ?_
    · exact ⟨Nat.zero_le _, ⟨rfl, rfl, rfl, rfl, rfl, trivial⟩, List.Sublist.cons _ (List.Sublist.refl _)⟩
    · rintro ⟨i, ao, cap⟩ hi
      replace hi : i ≤ t.ops.length := hi
      have hm : (rdN t.ops ((i, ao, cap) : Nat × Option Addr × Nat).1).length ≤ i := rdN_len t.ops i
      refine TC_seq ?_
      refine TC_region ?_
      refine OL_sil rfl rfl rfl (Sil.lss rfl rfl rfl) ?_
      refine OL_nil ?_
      refine TC_seq ?_
      refine TC_if rfl (fun ht16 => ?_) (fun ht16 => ?_)
      · obtain ⟨o, ho⟩ := nthSome ht16
        obtain ⟨x, rfl, hct⟩ := hx.2 i o ho
        refine TC_skip ?_
        refine TC_seq ?_
        refine TC_block ?_
        refine TC_seq ?_
        refine TC_region ?_
        refine OL_sil rfl rfl rfl (Sil.indexSl i rfl rfl rfl Try.underlying41 rfl rfl (by omega)) ?_
        refine OL_sil rfl rfl rfl (Sil.oldS rfl rfl hct Try.underlying40 rfl rfl rfl) ?_
        refine OL_loud rfl rfl rfl (LO.alloc rfl rfl) ?_
        rintro _ _ ⟨b6, _, rfl, rfl⟩
        refine OL_loud0 rfl rfl (by first | exact LO.storeAllV rfl rfl rfl (by first | exact at0 | exact at1 | exact at2 | exact at3 | exact at4 | exact at5 | exact at6 | exact at7 | exact at8 | exact at9 | exact at10 | exact at11 | exact at12 | exact at13 | exact at14 | exact at15) (by rfl) (by rfl) (by rfl) (by rfl) | exact LO.store1V rfl rfl rfl (by first | exact at0 | exact at1 | exact at2 | exact at3 | exact at4 | exact at5 | exact at6 | exact at7 | exact at8 | exact at9 | exact at10 | exact at11 | exact at12 | exact at13 | exact at14 | exact at15) (by rfl) (by rfl) (by rfl)) ?_
        rintro _ _ ⟨rfl, rfl⟩
        refine OL_nil ?_
        refine TC_seq ?_
        refine TC_region ?_
        refine OL_sil rfl rfl rfl (Sil.fieldLoc 0 rfl rfl Try.underlying40 rfl rfl) ?_
        refine OL_sil rfl rfl rfl (by exact Sil.ownV rfl rfl (by first | exact at0 | exact at1 | exact at2 | exact at3 | exact at4 | exact at5 | exact at6 | exact at7 | exact at8 | exact at9 | exact at10 | exact at11 | exact at12 | exact at13 | exact at14 | exact at15) Try.underlying3 rfl (by rfl)) ?_
        refine OL_sil rfl rfl rfl (Sil.eql rfl rfl rfl) ?_
        refine OL_nil ?_
        refine TC_if rfl (fun ht21 => ?_) (fun ht21 => ?_)
        · refine TC_region ?_
          refine OL_sil rfl rfl rfl (Sil.move rfl rfl) ?_
          refine OL_sil rfl rfl rfl (Sil.fieldLoc 1 rfl rfl Try.underlying40 rfl rfl) ?_
          refine OL_sil rfl rfl rfl (by exact Sil.ownV rfl rfl (by first | exact at0 | exact at1 | exact at2 | exact at3 | exact at4 | exact at5 | exact at6 | exact at7 | exact at8 | exact at9 | exact at10 | exact at11 | exact at12 | exact at13 | exact at14 | exact at15) Try.underlying3 rfl (by rfl)) ?_
          refine OL_loud0 rfl rfl (LO.mapUpdate 1 o.key (int_row Try.underlying3) rfl rfl rfl rfl rfl Try.underlying76) ?_
          rintro _ _ ⟨rfl, rfl⟩
          refine OL_nil ?_
          refine TC_region ?_
          refine OL_sil rfl rfl rfl (Sil.add rfl rfl rfl (by omega) (by omega)) ?_
          refine OL_sil rfl rfl rfl (Sil.move rfl rfl) ?_
          refine OL_nil ?_
          have hno := rdN_stay ho (fun hh => hh.1 ht21)
          refine ⟨(i + 1, ao, cap), ⟨by show i + 1 ≤ t.ops.length; omega, ⟨slotV rfl (by rw [hno]), rfl, rfl, rfl, slotI rfl (by push_cast; rfl), trivial⟩, ?_⟩, by show t.ops.length - (i + 1) < t.ops.length - i; omega⟩
          show List.Sublist [_, _] _
          rw [hno, ← wroF_put ho ht21]
          exact List.Sublist.cons_cons _ (List.Sublist.cons_cons _ (List.nil_sublist _))
        · refine TC_seq ?_
          refine TC_region ?_
          refine OL_sil rfl rfl rfl (Sil.move rfl rfl) ?_
          refine OL_sil rfl rfl rfl (Sil.fieldLoc 1 rfl rfl Try.underlying40 rfl rfl) ?_
          refine OL_sil rfl rfl rfl (by exact Sil.ownV rfl rfl (by first | exact at0 | exact at1 | exact at2 | exact at3 | exact at4 | exact at5 | exact at6 | exact at7 | exact at8 | exact at9 | exact at10 | exact at11 | exact at12 | exact at13 | exact at14 | exact at15) Try.underlying3 rfl (by rfl)) ?_
          refine OL_sil rfl rfl rfl (Sil.lookup1 1 o.key (int_row Try.underlying3) rfl rfl rfl rfl Try.underlying76 rfl) ?_
          refine OL_slot 28 (v := .bool (wroB t.ops i o.key)) rfl (wroF_get t.ops i o.key) ?_
          refine OL_sil rfl rfl rfl (Sil.not rfl rfl) ?_
          refine OL_nil ?_
          refine TC_cond rfl (fun ht29 => ?_) (fun ht29 => ?_)
          · refine TC_region ?_
            refine OL_sil rfl rfl rfl (Sil.move rfl rfl) ?_
            refine OL_sil rfl rfl rfl (by first | exact Sil.ownV rfl rfl (by first | exact at0 | exact at1 | exact at2 | exact at3 | exact at4 | exact at5 | exact at6 | exact at7 | exact at8 | exact at9 | exact at10 | exact at11 | exact at12 | exact at13 | exact at14 | exact at15) Try.underlying40 rfl (by rfl) | exact Sil.wholeV rfl rfl (by first | exact at0 | exact at1 | exact at2 | exact at3 | exact at4 | exact at5 | exact at6 | exact at7 | exact at8 | exact at9 | exact at10 | exact at11 | exact at12 | exact at13 | exact at14 | exact at15) ⟨Try.underlying40, rfl⟩ rfl (by rfl)) ?_
            refine OL_loud rfl rfl rfl (LO.buildSlice1 rfl rfl Try.underlying41 rfl rfl rfl) ?_
            rintro _ _ ⟨tb, rfl, rfl⟩
            refine OL_loud rfl rfl rfl (LO.append 0 (iv o.is) rfl rfl rfl rfl elOp rfl (fun w hw => hw.cells (i := 3) rfl) (by simp [iv, OpD.is, oneC]) (by unfold maxLen; omega) (by omega)) ?_
            rintro _ _ ⟨ao1, cap1, rfl, rfl⟩
            refine OL_sil rfl rfl rfl (Sil.assign rfl rfl) ?_
            refine OL_nil ?_
            refine TC_region ?_
            refine OL_sil rfl rfl rfl (Sil.add rfl rfl rfl (by omega) (by omega)) ?_
            refine OL_sil rfl rfl rfl (Sil.move rfl rfl) ?_
            refine OL_nil ?_
            have hput := rdN_put ho ⟨ht21, by simpa using ht29⟩
            refine ⟨(i + 1, ao1, cap1), ⟨by show i + 1 ≤ t.ops.length; omega, ⟨slotV rfl (by rw [hput, List.length_append]; rfl), rfl, rfl, rfl, slotI rfl (by push_cast; rfl), trivial⟩, ?_⟩, by show t.ops.length - (i + 1) < t.ops.length - i; omega⟩
            show List.Sublist [_, _] _
            rw [hput, ← opsC_snoc, List.length_append, wroF_stay ho ht21]
            exact List.Sublist.cons_cons _ (List.Sublist.cons_cons _ (List.nil_sublist _))
          · refine TC_skip ?_
            refine TC_region ?_
            refine OL_sil rfl rfl rfl (Sil.add rfl rfl rfl (by omega) (by omega)) ?_
            refine OL_sil rfl rfl rfl (Sil.move rfl rfl) ?_
            refine OL_nil ?_
            have hno := rdN_stay ho (fun hh => by rw [hh.2] at ht29; cases ht29)
            refine ⟨(i + 1, ao, cap), ⟨by show i + 1 ≤ t.ops.length; omega, ⟨slotV rfl (by rw [hno]), rfl, rfl, rfl, slotI rfl (by push_cast; rfl), trivial⟩, ?_⟩, by show t.ops.length - (i + 1) < t.ops.length - i; omega⟩
            show List.Sublist [_, _] _
            rw [hno, wroF_stay ho ht21]
            exact List.Sublist.cons_cons _ (List.Sublist.cons_cons _ (List.nil_sublist _))
      · obtain rfl : i = t.ops.length := by omega
        refine TC_exit ?_
        refine TC_seq ?_
        refine TC_region ?_
        refine OL_sil rfl rfl rfl (Sil.move rfl rfl) ?_
        refine OL_sil rfl rfl rfl (Sil.assign rfl rfl) ?_
        refine OL_nil ?_
        refine TC_ret ?_
        exact ret1h rfl rfl (List.Sublist.cons_cons _ (List.nil_sublist _)) ⟨ao, cap, by rw [hrd], by rw [hrd]⟩

/-- The same as a number. -/
def wn (ops : List OpD) (i : Nat) (key : Int) : Int := if wroB ops i key = true then 1 else 0
theorem wn_iff (ops : List OpD) (i : Nat) (key : Int) : wn ops i key = 1 ↔ wroB ops i key = true := by
  unfold wn
  split <;> simp_all
theorem wn_succ {ops : List OpD} {i : Nat} {o : OpD} (ho : ops[i]? = some o) (key : Int) : wn ops (i + 1) key = 1 ↔ (wn ops i key = 1 ∨ o.k = 2 ∧ o.key = key) := by
  rw [wn_iff, wn_iff, wroB_succ ho, Bool.or_eq_true, decide_eq_true_eq]

theorem refReads_gives (t : RcD) (u : Value) (w0 : World) (hu : OpsV w0 u t.ops) (hl : t.ops.length ≤ 1000) :
    Gives Try.prog 32 [.agg (rcC t u).toArray] w0 [] fun v h => ∃ ao cap, v = .slice ao (rdF t).length cap ∧ h = [sq ao (rdF t).length cap 40 3 (opsC (rdF t))] := by
  obtain ⟨a, c, rfl, hx⟩ := hu
  refine gives_of Try.func32 rfl rfl rfl (Own.start w0) ?_
  refine TC_seq ?_
  refine TC_region ?_
  refine OL_loud rfl rfl rfl (LO.box rfl rfl) ?_
  rintro _ _ ⟨b1, _, rfl, rfl⟩
  refine OL_sil rfl rfl rfl (Sil.assign rfl rfl) ?_
  refine OL_nil ?_
  refine TC_seq ?_
  refine TC_region ?_
  refine OL_loud rfl rfl rfl (LO.buildSlice0 (s := 3) rfl Try.underlying41 rfl) ?_
  rintro _ _ ⟨g8, rfl, rfl⟩
  refine OL_sil rfl rfl rfl (Sil.assign rfl rfl) ?_
  refine OL_nil ?_
  refine TC_seq ?_
  refine TC_seq ?_
  refine TC_region ?_
  refine OL_sil rfl rfl rfl (Sil.fieldLoc 2 rfl rfl Try.underlying43 rfl rfl) ?_
  refine OL_sil rfl rfl rfl (by exact Sil.ownV rfl rfl (by first | exact at0 | exact at1 | exact at2 | exact at3 | exact at4 | exact at5 | exact at6 | exact at7 | exact at8 | exact at9 | exact at10 | exact at11 | exact at12 | exact at13 | exact at14 | exact at15) Try.underlying41 rfl (by rfl)) ?_
  refine OL_sil rfl rfl rfl (Sil.lenSl rfl rfl Try.underlying41) ?_
  refine OL_sil rfl rfl rfl (Sil.move rfl rfl) ?_
  refine OL_nil ?_
  refine TC_block ?_
  refine TC_loop (fun (x : Nat × List OpD × Option Addr × Nat) => [(1, .pointer (some ⟨b1, 0, none⟩)), (3, .slice x.2.2.1 x.2.1.length x.2.2.2), (10, .slice a t.ops.length c), (11, .int .i64 t.ops.length), (12, .int .i64 x.1)]) (fun x => [blk b1 (.cells (rcC t (.slice a t.ops.length c)).toArray 43 (0, 0)), sq x.2.2.1 x.2.1.length x.2.2.2 40 3 (opsC x.2.1)]) (fun x => x.1 ≤ t.ops.length ∧ x.2.1 = if t.q = 1 then rdN t.ops x.1 else []) (fun x => t.ops.length - x.1) (0, [], some ⟨g8, 0, none⟩, 0) ?_ ?_
  · exact ⟨⟨Nat.zero_le _, by rw [show rdN t.ops (0, ([] : List OpD), (some ⟨g8, 0, none⟩ : Option Addr), 0).1 = [] from rfl]; exact (ite_self _).symm⟩, ⟨rfl, rfl, rfl, rfl, rfl, trivial⟩, List.Sublist.refl _⟩
  · rintro ⟨i, out, ao, cap⟩ ⟨hi, hout⟩
    replace hi : i ≤ t.ops.length := hi
    replace hout : out = if t.q = 1 then rdN t.ops i else [] := hout
    have hm : out.length ≤ i := by
      rw [hout]
      split
      · exact rdN_len t.ops i
      · exact Nat.zero_le _
    refine TC_seq ?_
    refine TC_region ?_
    refine OL_sil rfl rfl rfl (Sil.lss rfl rfl rfl) ?_
    refine OL_nil ?_
    refine TC_seq ?_
    refine TC_if rfl (fun ht13 => ?_) (fun ht13 => ?_)
    · obtain ⟨o, ho⟩ := nthSome ht13
      obtain ⟨x, rfl, hct⟩ := hx.2 i o ho
      refine TC_skip ?_
      refine TC_seq ?_
      refine TC_block ?_
      refine TC_seq ?_
      refine TC_region ?_
      refine OL_sil rfl rfl rfl (Sil.move rfl rfl) ?_
      refine OL_sil rfl rfl rfl (Sil.indexSl i rfl rfl rfl Try.underlying41 rfl rfl (by omega)) ?_
      refine OL_sil rfl rfl rfl (Sil.oldS rfl rfl hct Try.underlying40 rfl rfl rfl) ?_
      refine OL_loud rfl rfl rfl (LO.alloc rfl rfl) ?_
      rintro _ _ ⟨b5, _, rfl, rfl⟩
      refine OL_sil rfl rfl rfl (Sil.assign rfl rfl) ?_
      refine OL_loud0 rfl rfl (by first | exact LO.storeAllV rfl rfl rfl (by first | exact at0 | exact at1 | exact at2 | exact at3 | exact at4 | exact at5 | exact at6 | exact at7 | exact at8 | exact at9 | exact at10 | exact at11 | exact at12 | exact at13 | exact at14 | exact at15) (by rfl) (by rfl) (by rfl) (by rfl) | exact LO.store1V rfl rfl rfl (by first | exact at0 | exact at1 | exact at2 | exact at3 | exact at4 | exact at5 | exact at6 | exact at7 | exact at8 | exact at9 | exact at10 | exact at11 | exact at12 | exact at13 | exact at14 | exact at15) (by rfl) (by rfl) (by rfl)) ?_
      rintro _ _ ⟨rfl, rfl⟩
      refine OL_nil ?_
      refine TC_seq ?_
      refine TC_region ?_
      refine OL_sil rfl rfl rfl (Sil.assign rfl rfl) ?_
      refine OL_nil ?_
      refine TC_seq ?_
      refine TC_seq ?_
      refine TC_region ?_
      refine OL_sil rfl rfl rfl (Sil.assign rfl rfl) ?_
      refine OL_nil ?_
      refine TC_block ?_
      refine TC_loop (fun j : Nat => [(1, .pointer (some ⟨b1, 0, none⟩)), (3, .slice ao out.length cap), (4, .int .i64 i), (5, .pointer (some ⟨b5, 0, none⟩)), (6, .bool (decide (wn t.ops j o.key = 1))), (7, .int .i64 j), (10, .slice (some x) t.ops.length c), (11, .int .i64 t.ops.length), (12, .int .i64 i)]) (fun _ => [blk b1 (.cells (rcC t (.slice (some x) t.ops.length c)).toArray 43 (0, 0)), sq ao out.length cap 40 3 (opsC out), blk b5 (.cells (iv o.is).toArray 40 (0, 0))]) (fun j => j ≤ i) (fun j => i - j) 0 ?_ ?_
      · exact ⟨Nat.zero_le _, ⟨rfl, rfl, rfl, rfl, rfl, rfl, rfl, rfl, rfl, trivial⟩, List.Sublist.refl _⟩
      · intro j hj
        refine TC_seq ?_
        refine TC_seq ?_
        refine TC_region ?_
        refine OL_sil rfl rfl rfl (Sil.move rfl rfl) ?_
        refine OL_sil rfl rfl rfl (Sil.move rfl rfl) ?_
        refine OL_sil rfl rfl rfl (Sil.lss rfl rfl rfl) ?_
        refine OL_nil ?_
        refine TC_if rfl (fun ht19 => ?_) (fun ht19 => ?_)
        · obtain ⟨p, hp⟩ : ∃ p, t.ops[j]? = some p := ⟨_, List.getElem?_eq_getElem (by omega)⟩
          obtain ⟨x', hxx, hcp⟩ := hx.2 j p hp
          cases hxx
          refine TC_skip ?_
          refine TC_seq ?_
          refine TC_block ?_
          refine TC_boolE [22, 23, 24, 25, 26, 27, 28, 29, 30, 31, 32, 33, 34, 35, 36, 37, 38, 39, 40, 41, 42, 6] 6 (wn t.ops j o.key = 1 ∨ p.k = 2 ∧ p.key = o.key) ?_ ?_
          · refine TC_draw rfl (fun j => false) ?_
            refine DL_take 0 rfl (by kernel_rfl) rfl rfl rfl (Sil.move rfl rfl) (fun _ hr => hr) ?_
            refine DL_take 1 rfl (by kernel_rfl) rfl rfl rfl (Sil.move rfl rfl) (fun _ hr => hr) ?_
            refine DL_cases 23 rfl (fun ht23 => ?_) (fun ht23 => ?_)
            · have ht23 := of_decide_eq_true ht23
              refine DL_takeSkip 2 rfl (by kernel_rfl) rfl rfl rfl (fun _ hr => hr) ?_
              refine DL_takeSkip 3 rfl (by kernel_rfl) rfl rfl rfl (fun _ hr => hr) ?_
              refine DL_takeSkip 4 rfl (by kernel_rfl) rfl rfl rfl (fun _ hr => hr) ?_
              refine DL_takeSkip 5 rfl (by kernel_rfl) rfl rfl rfl (fun _ hr => hr) ?_
              refine DL_takeSkip 6 rfl (by kernel_rfl) rfl rfl rfl (fun _ hr => hr) ?_
              refine DL_takeSkip 7 rfl (by kernel_rfl) rfl rfl rfl (fun _ hr => hr) ?_
              refine DL_takeSkip 8 rfl (by kernel_rfl) rfl rfl rfl (fun _ hr => hr) ?_
              refine DL_takeSkip 9 rfl (by kernel_rfl) rfl rfl rfl (fun _ hr => hr) ?_
              refine DL_takeSkip 10 rfl (by kernel_rfl) rfl rfl rfl (fun _ hr => hr) ?_
              refine DL_takeSkip 11 rfl (by kernel_rfl) rfl rfl rfl (fun _ hr => hr) ?_
              refine DL_takeSkip 12 rfl (by kernel_rfl) rfl rfl rfl (fun _ hr => hr) ?_
              refine DL_takeSkip 13 rfl (by kernel_rfl) rfl rfl rfl (fun _ hr => hr) ?_
              refine DL_takeSkip 14 rfl (by kernel_rfl) rfl rfl rfl (fun _ hr => hr) ?_
              refine DL_takeSkip 15 rfl (by kernel_rfl) rfl rfl rfl (fun _ hr => hr) ?_
              refine DL_takeSkip 16 rfl (by kernel_rfl) rfl rfl rfl (fun _ hr => hr) ?_
              refine DL_takeSkip 17 rfl (by kernel_rfl) rfl rfl rfl (fun _ hr => hr) ?_
              refine DL_takeSkip 18 rfl (by kernel_rfl) rfl rfl rfl (fun _ hr => hr) ?_
              refine DL_takeSkip 19 rfl (by kernel_rfl) rfl rfl rfl (fun _ hr => hr) ?_
              refine DL_take 20 rfl (by kernel_rfl) rfl rfl rfl (Sil.pick1 rfl rfl rfl) (fun _ hr => hr) ?_
              refine DL_take 21 rfl (by kernel_rfl) rfl rfl rfl (Sil.assign rfl rfl) (fun _ hr => hr) ?_
              refine DL_done (by kernel_rfl) ?_
              (refine Cont.then_intro (And.intro (by (repeat' (first | exact Ext.refl | refine Ext.cons rfl ?_))) (And.intro ?_ rfl)); first | exact slotV rfl (congrArg Value.bool (decide_eq_true (by omega)).symm) | exact slotV rfl (congrArg Value.bool (decide_eq_false (by omega)).symm) | exact slotV rfl (congrArg Value.bool (decide_eq_decide.2 (by omega))) | exact slotV rfl (congrArg Value.bool (decide_not.symm.trans (decide_eq_decide.2 (by omega)))))
            · have ht23 := of_decide_eq_false ht23
              refine DL_take 2 rfl (by kernel_rfl) rfl rfl rfl (Sil.fieldLoc 2 rfl rfl Try.underlying43 rfl rfl) (fun _ hr => hr) ?_
              refine DL_take 3 rfl (by kernel_rfl) rfl rfl rfl (by exact Sil.ownV rfl rfl (by first | exact at0 | exact at1 | exact at2 | exact at3 | exact at4 | exact at5 | exact at6 | exact at7 | exact at8 | exact at9 | exact at10 | exact at11 | exact at12 | exact at13 | exact at14 | exact at15) Try.underlying41 rfl (by rfl)) (fun _ hr => hr) ?_
              refine DL_take 4 rfl (by kernel_rfl) rfl rfl rfl (Sil.move rfl rfl) (fun _ hr => hr) ?_
              refine DL_take 5 rfl (by kernel_rfl) rfl rfl rfl (Sil.indexSl j rfl rfl rfl Try.underlying41 rfl rfl (by omega)) (fun _ hr => hr) ?_
              refine DL_take 6 rfl (by kernel_rfl) rfl rfl rfl (Sil.fieldAdd 0 rfl rfl Try.underlying40 rfl rfl) (fun _ hr => hr) ?_
              refine DL_take 7 rfl (by kernel_rfl) rfl rfl rfl (Sil.oldF 0 rfl (by rw [← add_add]; rfl) hcp Try.underlying3 rfl rfl) (fun _ hr => hr) ?_
              refine DL_take 8 rfl (by kernel_rfl) rfl rfl rfl (Sil.eql rfl rfl rfl) (fun _ hr => hr) ?_
              refine DL_take 9 rfl (by kernel_rfl) rfl rfl rfl (Sil.move rfl rfl) (fun _ hr => hr) ?_
              refine DL_dec 31 rfl (fun ht31 => ?_) (fun ht31 => ?_)
              · refine DL_take 10 rfl (by kernel_rfl) rfl rfl rfl (Sil.fieldLoc 2 rfl rfl Try.underlying43 rfl rfl) (fun _ hr => hr) ?_
                refine DL_take 11 rfl (by kernel_rfl) rfl rfl rfl (by exact Sil.ownV rfl rfl (by first | exact at0 | exact at1 | exact at2 | exact at3 | exact at4 | exact at5 | exact at6 | exact at7 | exact at8 | exact at9 | exact at10 | exact at11 | exact at12 | exact at13 | exact at14 | exact at15) Try.underlying41 rfl (by rfl)) (fun _ hr => hr) ?_
                refine DL_take 12 rfl (by kernel_rfl) rfl rfl rfl (Sil.move rfl rfl) (fun _ hr => hr) ?_
                refine DL_take 13 rfl (by kernel_rfl) rfl rfl rfl (Sil.indexSl j rfl rfl rfl Try.underlying41 rfl rfl (by omega)) (fun _ hr => hr) ?_
                refine DL_take 14 rfl (by kernel_rfl) rfl rfl rfl (Sil.fieldAdd 1 rfl rfl Try.underlying40 rfl rfl) (fun _ hr => hr) ?_
                refine DL_take 15 rfl (by kernel_rfl) rfl rfl rfl (Sil.oldF 1 rfl (by rw [← add_add]; rfl) hcp Try.underlying3 rfl rfl) (fun _ hr => hr) ?_
                refine DL_take 16 rfl (by kernel_rfl) rfl rfl rfl (Sil.fieldLoc 1 rfl rfl Try.underlying40 rfl rfl) (fun _ hr => hr) ?_
                refine DL_take 17 rfl (by kernel_rfl) rfl rfl rfl (by exact Sil.ownV rfl rfl (by first | exact at0 | exact at1 | exact at2 | exact at3 | exact at4 | exact at5 | exact at6 | exact at7 | exact at8 | exact at9 | exact at10 | exact at11 | exact at12 | exact at13 | exact at14 | exact at15) Try.underlying3 rfl (by rfl)) (fun _ hr => hr) ?_
                refine DL_take 18 rfl (by kernel_rfl) rfl rfl rfl (Sil.eql rfl rfl rfl) (fun _ hr => hr) ?_
                refine DL_take 19 rfl (by kernel_rfl) rfl rfl rfl (Sil.pick1 rfl rfl rfl) (fun _ hr => hr) ?_
                refine DL_take 20 rfl (by kernel_rfl) rfl rfl rfl (Sil.pick0 rfl rfl rfl) (fun _ hr => hr) ?_
                refine DL_take 21 rfl (by kernel_rfl) rfl rfl rfl (Sil.assign rfl rfl) (fun _ hr => hr) ?_
                refine DL_done (by kernel_rfl) ?_
                (refine Cont.then_intro (And.intro (by (repeat' (first | exact Ext.refl | refine Ext.cons rfl ?_))) (And.intro ?_ rfl)); first | exact slotV rfl (congrArg Value.bool (decide_eq_true (by omega)).symm) | exact slotV rfl (congrArg Value.bool (decide_eq_false (by omega)).symm) | exact slotV rfl (congrArg Value.bool (decide_eq_decide.2 (by omega))) | exact slotV rfl (congrArg Value.bool (decide_not.symm.trans (decide_eq_decide.2 (by omega)))))
              · refine DL_takeSkip 10 rfl (by kernel_rfl) rfl rfl rfl (fun _ hr => hr) ?_
                refine DL_takeSkip 11 rfl (by kernel_rfl) rfl rfl rfl (fun _ hr => hr) ?_
                refine DL_takeSkip 12 rfl (by kernel_rfl) rfl rfl rfl (fun _ hr => hr) ?_
                refine DL_takeSkip 13 rfl (by kernel_rfl) rfl rfl rfl (fun _ hr => hr) ?_
                refine DL_takeSkip 14 rfl (by kernel_rfl) rfl rfl rfl (fun _ hr => hr) ?_
                refine DL_takeSkip 15 rfl (by kernel_rfl) rfl rfl rfl (fun _ hr => hr) ?_
                refine DL_takeSkip 16 rfl (by kernel_rfl) rfl rfl rfl (fun _ hr => hr) ?_
                refine DL_takeSkip 17 rfl (by kernel_rfl) rfl rfl rfl (fun _ hr => hr) ?_
                refine DL_takeSkip 18 rfl (by kernel_rfl) rfl rfl rfl (fun _ hr => hr) ?_
                refine DL_take 19 rfl (by kernel_rfl) rfl rfl rfl (Sil.pick0 rfl rfl rfl) (fun _ hr => hr) ?_
                refine DL_take 20 rfl (by kernel_rfl) rfl rfl rfl (Sil.pick0 rfl rfl rfl) (fun _ hr => hr) ?_
                refine DL_take 21 rfl (by kernel_rfl) rfl rfl rfl (Sil.assign rfl rfl) (fun _ hr => hr) ?_
                refine DL_done (by kernel_rfl) ?_
                (refine Cont.then_intro (And.intro (by (repeat' (first | exact Ext.refl | refine Ext.cons rfl ?_))) (And.intro ?_ rfl)); first | exact slotV rfl (congrArg Value.bool (decide_eq_true (by omega)).symm) | exact slotV rfl (congrArg Value.bool (decide_eq_false (by omega)).symm) | exact slotV rfl (congrArg Value.bool (decide_eq_decide.2 (by omega))) | exact slotV rfl (congrArg Value.bool (decide_not.symm.trans (decide_eq_decide.2 (by omega)))))
          refine TC_region ?_
          refine OL_sil rfl rfl rfl (Sil.move rfl rfl) ?_
          refine OL_sil rfl rfl rfl (Sil.add rfl rfl rfl (by omega) (by omega)) ?_
          refine OL_sil rfl rfl rfl (Sil.assign rfl rfl) ?_
          refine OL_nil ?_
          exact ⟨j + 1, ⟨by omega, ⟨rfl, rfl, rfl, rfl, slotV rfl (congrArg Value.bool (decide_eq_decide.2 (wn_succ hp o.key).symm)), slotI rfl (by push_cast; rfl), rfl, rfl, rfl, trivial⟩, List.Sublist.refl _⟩, by omega⟩
        · obtain rfl : j = i := by omega
          have hwn := wn_iff t.ops j o.key
          refine TC_exit ?_
          refine TC_seq ?_
          refine TC_boolE [43, 44, 45, 46, 47, 48, 49, 50, 51, 52, 53, 54] 54 (t.q = 1 ∧ o.k ≠ 2 ∧ ¬ wn t.ops j o.key = 1) ?_ ?_
          · refine TC_region ?_
            refine OL_sil rfl rfl rfl (Sil.fieldLoc 1 rfl rfl Try.underlying43 rfl rfl) ?_
            refine OL_sil rfl rfl rfl (by exact Sil.ownV rfl rfl (by first | exact at0 | exact at1 | exact at2 | exact at3 | exact at4 | exact at5 | exact at6 | exact at7 | exact at8 | exact at9 | exact at10 | exact at11 | exact at12 | exact at13 | exact at14 | exact at15) Try.underlying3 rfl (by rfl)) ?_
            refine OL_sil rfl rfl rfl (Sil.eql rfl rfl rfl) ?_
            refine OL_sil rfl rfl rfl (Sil.move rfl rfl) ?_
            refine OL_dec 46 rfl (fun ht46 => ?_) (fun ht46 => ?_)
            · refine OL_sil rfl rfl rfl (Sil.fieldLoc 0 rfl rfl Try.underlying40 rfl rfl) ?_
              refine OL_sil rfl rfl rfl (by exact Sil.ownV rfl rfl (by first | exact at0 | exact at1 | exact at2 | exact at3 | exact at4 | exact at5 | exact at6 | exact at7 | exact at8 | exact at9 | exact at10 | exact at11 | exact at12 | exact at13 | exact at14 | exact at15) Try.underlying3 rfl (by rfl)) ?_
              refine OL_sil rfl rfl rfl (Sil.neq rfl rfl rfl) ?_
              refine OL_sil rfl rfl rfl (Sil.pick1 rfl rfl rfl) ?_
              refine OL_sil rfl rfl rfl (Sil.move rfl rfl) ?_
              refine OL_decn 51 rfl (fun ht51 => ?_) (fun ht51 => ?_)
              · refine OL_sil rfl rfl rfl (Sil.move rfl rfl) ?_
                refine OL_sil rfl rfl rfl (Sil.not rfl rfl) ?_
                refine OL_sil rfl rfl rfl (Sil.pick1 rfl rfl rfl) ?_
                refine OL_nil ?_
                (refine Cont.then_intro (And.intro (by (repeat' (first | exact Ext.refl | refine Ext.cons rfl ?_))) (And.intro ?_ rfl)); first | exact slotV rfl (congrArg Value.bool (decide_eq_true (by omega)).symm) | exact slotV rfl (congrArg Value.bool (decide_eq_false (by omega)).symm) | exact slotV rfl (congrArg Value.bool (decide_eq_decide.2 (by omega))) | exact slotV rfl (congrArg Value.bool (decide_not.symm.trans (decide_eq_decide.2 (by omega)))))
              · refine OL_skip rfl rfl rfl ?_
                refine OL_skip rfl rfl rfl ?_
                refine OL_sil rfl rfl rfl (Sil.pick0 rfl rfl rfl) ?_
                refine OL_nil ?_
                (refine Cont.then_intro (And.intro (by (repeat' (first | exact Ext.refl | refine Ext.cons rfl ?_))) (And.intro ?_ rfl)); first | exact slotV rfl (congrArg Value.bool (decide_eq_true (by omega)).symm) | exact slotV rfl (congrArg Value.bool (decide_eq_false (by omega)).symm) | exact slotV rfl (congrArg Value.bool (decide_eq_decide.2 (by omega))) | exact slotV rfl (congrArg Value.bool (decide_not.symm.trans (decide_eq_decide.2 (by omega)))))
            · refine OL_skip rfl rfl rfl ?_
              refine OL_skip rfl rfl rfl ?_
              refine OL_skip rfl rfl rfl ?_
              refine OL_sil rfl rfl rfl (Sil.pick0 rfl rfl rfl) ?_
              refine OL_sil rfl rfl rfl (Sil.move rfl rfl) ?_
              refine OL_skip rfl rfl rfl ?_
              refine OL_skip rfl rfl rfl ?_
              refine OL_sil rfl rfl rfl (Sil.pick0 rfl rfl rfl) ?_
              refine OL_nil ?_
              (refine Cont.then_intro (And.intro (by (repeat' (first | exact Ext.refl | refine Ext.cons rfl ?_))) (And.intro ?_ rfl)); first | exact slotV rfl (congrArg Value.bool (decide_eq_true (by omega)).symm) | exact slotV rfl (congrArg Value.bool (decide_eq_false (by omega)).symm) | exact slotV rfl (congrArg Value.bool (decide_eq_decide.2 (by omega))) | exact slotV rfl (congrArg Value.bool (decide_not.symm.trans (decide_eq_decide.2 (by omega)))))
          refine TC_if rfl (fun ht54 => ?_) (fun ht54 => ?_)
          · refine TC_region ?_
            refine OL_sil rfl rfl rfl (Sil.move rfl rfl) ?_
            refine OL_sil rfl rfl rfl (by first | exact Sil.ownV rfl rfl (by first | exact at0 | exact at1 | exact at2 | exact at3 | exact at4 | exact at5 | exact at6 | exact at7 | exact at8 | exact at9 | exact at10 | exact at11 | exact at12 | exact at13 | exact at14 | exact at15) Try.underlying40 rfl (by rfl) | exact Sil.wholeV rfl rfl (by first | exact at0 | exact at1 | exact at2 | exact at3 | exact at4 | exact at5 | exact at6 | exact at7 | exact at8 | exact at9 | exact at10 | exact at11 | exact at12 | exact at13 | exact at14 | exact at15) ⟨Try.underlying40, rfl⟩ rfl (by rfl)) ?_
            refine OL_loud rfl rfl rfl (LO.buildSlice1 rfl rfl Try.underlying41 rfl rfl rfl) ?_
            rintro _ _ ⟨tb, rfl, rfl⟩
            refine OL_loud rfl rfl rfl (LO.append 1 (iv o.is) rfl rfl rfl rfl elOp rfl (fun w hw => hw.cells (i := 3) rfl) (by simp [iv, OpD.is, oneC]) (by unfold maxLen; omega) (by omega)) ?_
            rintro _ _ ⟨ao1, cap1, rfl, rfl⟩
            refine OL_sil rfl rfl rfl (Sil.assign rfl rfl) ?_
            refine OL_nil ?_
            refine TC_region ?_
            refine OL_sil rfl rfl rfl (Sil.add rfl rfl rfl (by omega) (by omega)) ?_
            refine OL_sil rfl rfl rfl (Sil.move rfl rfl) ?_
            refine OL_nil ?_
            have hput := rdN_put ho ⟨ht54.2.1, by rw [← Bool.not_eq_true, ← hwn]; exact ht54.2.2⟩
            refine ⟨(j + 1, out ++ [o], ao1, cap1), ⟨⟨by show j + 1 ≤ t.ops.length; omega, by show out ++ [o] = _; rw [hout, if_pos ht54.1, if_pos ht54.1]; exact hput.symm⟩, ⟨rfl, slotV rfl (by show _ = Value.slice _ (out ++ [o]).length _; rw [List.length_append]; rfl), rfl, rfl, slotI rfl (by push_cast; rfl), trivial⟩, ?_⟩, by show t.ops.length - (j + 1) < t.ops.length - j; omega⟩
            show List.Sublist [_, sq ao1 (out ++ [o]).length cap1 _ 3 (opsC (out ++ [o]))] _
            rw [← opsC_snoc, List.length_append]
            exact List.Sublist.cons_cons _ (List.Sublist.cons_cons _ (List.nil_sublist _))
          · refine TC_skip ?_
            refine TC_region ?_
            refine OL_sil rfl rfl rfl (Sil.add rfl rfl rfl (by omega) (by omega)) ?_
            refine OL_sil rfl rfl rfl (Sil.move rfl rfl) ?_
            refine OL_nil ?_
            have hno : out = if t.q = 1 then rdN t.ops (j + 1) else [] := by
              rw [hout]
              by_cases hq : t.q = 1
              · rw [if_pos hq, if_pos hq, rdN_stay ho (fun hh => ht54 ⟨hq, hh.1, by rw [hwn, hh.2]; simp⟩)]
              · rw [if_neg hq, if_neg hq]
            exact ⟨(j + 1, out, ao, cap), ⟨⟨by show j + 1 ≤ t.ops.length; omega, hno⟩, ⟨rfl, rfl, rfl, rfl, slotI rfl (by push_cast; rfl), trivial⟩, List.Sublist.cons_cons _ (List.Sublist.cons_cons _ (List.nil_sublist _))⟩, by show t.ops.length - (j + 1) < t.ops.length - j; omega⟩
    · obtain rfl : i = t.ops.length := by omega
      refine TC_exit ?_
      refine TC_seq ?_
      refine TC_region ?_
      refine OL_sil rfl rfl rfl (Sil.move rfl rfl) ?_
      refine OL_sil rfl rfl rfl (Sil.assign rfl rfl) ?_
      refine OL_nil ?_
      refine TC_ret ?_
      exact ret1h rfl rfl (List.Sublist.cons _ (List.Sublist.refl _)) ⟨ao, cap, by rw [show rdF t = out from hout.symm], by rw [show rdF t = out from hout.symm]⟩
end Go.Proofs.Ytjnopbmanhialaa
