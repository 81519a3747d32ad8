/-
  Walk: flaws.Sure.
-/
import Derived.Test.YtjnopbmanhialaaHfV
namespace Go.Proofs.Ytjnopbmanhialaa
open Go.Cru

theorem elBo : El Try.prog 35 4 (.bool false) 1 1 := ⟨Try.underlying35, rfl, rfl, by decide⟩
def arrB (n : Nat) (g : Nat → Bool) : Array Value := arr n fun t => .bool (g t)
def updB (g : Nat → Bool) (j : Nat) (b : Bool) : Nat → Bool := fun t => if t = j then b else g t
theorem arrB_put (n : Nat) (g : Nat → Bool) (j : Nat) (b : Bool) : putCells (arrB n g) j [.bool b] = arrB n (updB g j b) := by
  unfold arrB
  rw [arr_put]
  congr 1
  funext t
  unfold updV updB
  split <;> rfl
theorem arrB_at (n : Nat) (g : Nat → Bool) (i : Nat) (hi : i < n) : (arrB n g)[i]? = some (.bool (g i)) := arr_at n _ i hi
theorem arrB_size (n : Nat) (g : Nat → Bool) : (arrB n g).size = n := arr_size n _
def qOf (ts : List RcD) (j : Nat) : Int := match ts[j]? with
  | some t => t.q
  | none => -1
theorem qOf_at {ts : List RcD} {j : Nat} {t : RcD} (h : ts[j]? = some t) : qOf ts j = t.q := by unfold qOf; rw [h]
/-- Is what transaction j wrote among the first k reads? -/
def hitR (wf : OpD → Int) (rs : List OpD) (k j : Nat) : Bool := (rs.take k).any fun o => decide (o.val ≠ 0 ∧ wf o = (j : Int))
theorem hitR_succ {wf : OpD → Int} {rs : List OpD} {k : Nat} {o : OpD} (ho : rs[k]? = some o) (j : Nat) : hitR wf rs (k + 1) j = (hitR wf rs k j || decide (o.val ≠ 0 ∧ wf o = (j : Int))) := by
  unfold hitR
  rw [List.take_add_one, ho, Option.toList, List.any_append]
  simp
def hitN (wf : OpD → Int) (ts : List RcD) (i j : Nat) : Bool := (ts.take i).any fun t => hitR wf (rdF t) (rdF t).length j
theorem hitN_succ {wf : OpD → Int} {ts : List RcD} {i : Nat} {t : RcD} (ht : ts[i]? = some t) (j : Nat) : hitN wf ts (i + 1) j = (hitN wf ts i j || hitR wf (rdF t) (rdF t).length j) := by
  unfold hitN
  rw [List.take_add_one, ht, Option.toList, List.any_append]
  simp
def gN (wf : OpD → Int) (ts : List RcD) (i : Nat) : Nat → Bool := fun j => decide (j < i ∧ qOf ts j = 1) || (hitN wf ts i j && decide (qOf ts j = 0))
def gJ (wf : OpD → Int) (ts : List RcD) (i : Nat) (t : RcD) (k : Nat) : Nat → Bool := fun j => decide (j < i + 1 ∧ qOf ts j = 1) || ((hitN wf ts i j || hitR wf (rdF t) k j) && decide (qOf ts j = 0))
theorem gN_zero (wf : OpD → Int) (ts : List RcD) : gN wf ts 0 = fun _ => false := by
  funext j
  simp [gN, hitN]
theorem gJ_end {wf : OpD → Int} {ts : List RcD} {i : Nat} {t : RcD} (ht : ts[i]? = some t) : gJ wf ts i t (rdF t).length = gN wf ts (i + 1) := by
  funext j
  unfold gJ gN
  rw [hitN_succ ht]
theorem gJ_start {wf : OpD → Int} {ts : List RcD} {i : Nat} {t : RcD} (ht : ts[i]? = some t) (n : Nat) {b : Bool} (hb : b = (gN wf ts i i || decide (t.q = 1))) : putCells (arrB n (gN wf ts i)) i [.bool b] = arrB n (gJ wf ts i t 0) := by
  rw [arrB_put]
  congr 1
  funext j
  unfold updB
  have h0 : hitR wf (rdF t) 0 j = false := rfl
  by_cases e : j = i
  · subst e
    rw [if_pos rfl, hb]
    unfold gN gJ
    rw [h0, qOf_at ht]
    simp [Bool.or_comm]
  · rw [if_neg e]
    unfold gN gJ
    rw [h0, Bool.or_false, show decide (j < i ∧ qOf ts j = 1) = decide (j < i + 1 ∧ qOf ts j = 1) from decide_eq_decide.2 (by omega)]
theorem gJ_hit {wf : OpD → Int} {ts : List RcD} {i : Nat} {t : RcD} {k w : Nat} {o : OpD} (ho : (rdF t)[k]? = some o) (h0 : o.val ≠ 0) (hw : wf o = w) (hq : qOf ts w = 0) (n : Nat) : putCells (arrB n (gJ wf ts i t k)) w [.bool true] = arrB n (gJ wf ts i t (k + 1)) := by
  rw [arrB_put]
  congr 1
  funext j
  unfold updB gJ
  rw [hitR_succ ho]
  by_cases e : j = w
  · subst e
    rw [if_pos rfl, decide_eq_true (show o.val ≠ 0 ∧ wf o = (j : Int) from ⟨h0, hw⟩), decide_eq_true hq]
    simp
  · rw [if_neg e, decide_eq_false (show ¬ (o.val ≠ 0 ∧ wf o = (j : Int)) from fun h => e (by omega)), Bool.or_false]
theorem gJ_miss {wf : OpD → Int} {ts : List RcD} {i : Nat} {t : RcD} {k : Nat} {o : OpD} (ho : (rdF t)[k]? = some o) (h : ¬ (0 ≤ wf o ∧ o.val ≠ 0 ∧ qOf ts (wf o).toNat = 0)) : gJ wf ts i t (k + 1) = gJ wf ts i t k := by
  funext j
  unfold gJ
  rw [hitR_succ ho]
  by_cases e : o.val ≠ 0 ∧ wf o = (j : Int)
  · have hj : (wf o).toNat = j := by omega
    have hq : ¬ qOf ts j = 0 := fun hh => h ⟨by omega, e.1, by rw [hj]; exact hh⟩
    rw [decide_eq_false hq, Bool.and_false, Bool.and_false]
  · rw [decide_eq_false e, Bool.or_false]
def wfA (ts : List RcD) (o : OpD) : Int := byI ts (o.key, o.val)
theorem Sure_gives (ts : List RcD) (a : Option Addr) (cap : Nat) (w0 : World) (hx : RcsAt w0 a ts) (hn : ts.length ≤ 1000) (hb : ∀ t ∈ ts, t.ops.length ≤ 1000) :
    Gives Try.prog 20 [.slice a ts.length cap] w0 [] fun v h => ∃ b, v = .slice (some ⟨b, 0, none⟩) ts.length ts.length ∧ h = [blk b (.cells (arrB ts.length (gN (wfA ts) ts ts.length)) 4 (0, 0))] := by
  refine gives_of Try.func20 rfl rfl rfl (Own.start w0) ?_
  refine TC_seq ?_
  refine TC_region ?_
  refine OL_sil rfl rfl rfl (Sil.assign rfl rfl) ?_
  refine OL_nil ?_
  refine TC_seq ?_
  refine TC_region ?_
  refine OL_sil rfl rfl rfl (Sil.move rfl rfl) ?_
  refine OL_loud rfl rfl rfl (LO.calls rfl ent40 rfl (fun w hw => writers_gives ts a cap w (hx.keep hw.keep) hn hb)) ?_
  rintro _ _ ⟨_, ⟨mb, ml, rfl, rfl⟩, rfl⟩
  refine OL_sil rfl rfl rfl (Sil.move rfl rfl) ?_
  refine OL_sil rfl rfl rfl (Sil.extract rfl rfl rfl) ?_
  refine OL_sil rfl rfl rfl (Sil.extract rfl rfl rfl) ?_
  refine OL_sil rfl rfl rfl (Sil.assign rfl rfl) ?_
  refine OL_sil rfl rfl rfl (Sil.assign rfl rfl) ?_
  refine OL_nil ?_
  refine TC_seq ?_
  refine TC_region ?_
  refine OL_sil rfl rfl rfl (Sil.move rfl rfl) ?_
  refine OL_sil rfl rfl rfl (Sil.lenSl rfl rfl Try.underlying25) ?_
  refine OL_loud rfl rfl rfl (LO.make1 (m := ts.length) rfl rfl rfl rfl rfl elBo rfl (by unfold maxLen; omega) (by omega)) ?_
  rintro _ _ ⟨ob, rfl, rfl⟩
  refine OL_sil rfl rfl rfl (Sil.assign rfl rfl) ?_
  refine OL_nil ?_
  refine TC_seq ?_
  refine TC_seq ?_
  refine TC_region ?_
  refine OL_sil rfl rfl rfl (Sil.move rfl rfl) ?_
  refine OL_sil rfl rfl rfl (Sil.lenSl rfl rfl Try.underlying25) ?_
  refine OL_sil rfl rfl rfl (Sil.move rfl rfl) ?_
  refine OL_nil ?_
  refine TC_block ?_
  refine TC_loop (fun i : Nat => [(0, .slice a ts.length cap), (3, .map (some mb)), (5, .slice (some ⟨ob, 0, none⟩) ts.length ts.length), (20, .slice a ts.length cap), (21, .int .i64 ts.length), (22, .int .i64 i)]) (fun i => [mpR pairK mb (byM ts ts.length), blk ob (.cells (arrB ts.length (gN (wfA ts) ts i)) 4 (0, 0))]) (fun i => i ≤ ts.length) (fun i => ts.length - i) 0 ?_ ?_
  · exact ⟨Nat.zero_le _, ⟨rfl, rfl, rfl, rfl, rfl, rfl, trivial⟩, by rw [gN_zero]; exact List.Sublist.cons_cons _ (List.Sublist.cons _ (List.Sublist.refl _))⟩
  · intro i hi
    refine TC_seq ?_
    refine TC_region ?_
    refine OL_sil rfl rfl rfl (Sil.lss rfl rfl rfl) ?_
    refine OL_nil ?_
    refine TC_seq ?_
    refine TC_if rfl (fun ht23 => ?_) (fun ht23 => ?_)
    · obtain ⟨t, ht⟩ := nthSome ht23
      have hbt := hb t (List.mem_of_getElem? ht)
      obtain ⟨x, u, rfl, hct, au, cu, rfl, hu⟩ := hx.2 i t ht
      have hrl := rdF_len t
      refine TC_skip ?_
      refine TC_seq ?_
      refine TC_block ?_
      refine TC_seq ?_
      refine TC_region ?_
      refine OL_sil rfl rfl rfl (Sil.move rfl rfl) ?_
      refine OL_sil rfl rfl rfl (Sil.indexSl i rfl rfl rfl Try.underlying25 rfl rfl (by omega)) ?_
      refine OL_sil rfl rfl rfl (Sil.oldS rfl rfl hct Try.underlying43 rfl rfl rfl) ?_
      refine OL_loud rfl rfl rfl (LO.alloc rfl rfl) ?_
      rintro _ _ ⟨b7, _, rfl, rfl⟩
      refine OL_sil rfl rfl rfl (Sil.assign rfl rfl) ?_
      refine OL_loud0 rfl rfl (by first | exact LO.storeAllV rfl rfl rfl (by first | exact at0 | exact at1 | exact at2 | exact at3 | exact at4 | exact at5 | exact at6 | exact at7 | exact at8 | exact at9 | exact at10 | exact at11 | exact at12 | exact at13 | exact at14 | exact at15) (by rfl) (by rfl) (by rfl) (by rfl) | exact LO.store1V rfl rfl rfl (by first | exact at0 | exact at1 | exact at2 | exact at3 | exact at4 | exact at5 | exact at6 | exact at7 | exact at8 | exact at9 | exact at10 | exact at11 | exact at12 | exact at13 | exact at14 | exact at15) (by rfl) (by rfl) (by rfl)) ?_
      rintro _ _ ⟨rfl, rfl⟩
      refine OL_nil ?_
      refine TC_seq ?_
      refine TC_region ?_
      refine OL_sil rfl rfl rfl (Sil.move rfl rfl) ?_
      refine OL_sil rfl rfl rfl (Sil.move rfl rfl) ?_
      refine OL_sil rfl rfl rfl (Sil.move rfl rfl) ?_
      refine OL_sil rfl rfl rfl (Sil.move rfl rfl) ?_
      refine OL_sil rfl rfl rfl (Sil.indexOwn1 i rfl rfl rfl Try.underlying35 rfl rfl (by omega)) ?_
      refine OL_sil rfl rfl rfl (Sil.own 1 rfl rfl rfl Try.underlying4 rfl (arrB_at _ _ i (by omega))) ?_
      refine OL_sil rfl rfl rfl (Sil.move rfl rfl) ?_
      refine OL_cases 33 rfl (fun ht33 => ?_) (fun ht33 => ?_)
      · refine OL_skip rfl rfl rfl ?_
        refine OL_skip rfl rfl rfl ?_
        refine OL_skip rfl rfl rfl ?_
        refine OL_sil rfl rfl rfl (Sil.pick1 rfl rfl rfl) ?_
        refine OL_sil rfl rfl rfl (Sil.indexOwn1 i rfl rfl rfl Try.underlying35 rfl rfl (by omega)) ?_
        refine OL_loud0 rfl rfl (LO.storeAs 1 (arrB ts.length (gJ (wfA ts) ts i t 0)) rfl rfl rfl rfl rfl rfl (by simp [Value.cells, oneC]) (by rw [arrB_size]; show i + 1 ≤ ts.length; omega) (gJ_start ht _ (by rw [ht33]; rfl))) ?_
        rintro _ _ ⟨rfl, rfl⟩
        refine OL_nil ?_
        refine TC_seq ?_
        refine TC_region ?_
        refine OL_sil rfl rfl rfl (by first | exact Sil.ownV rfl rfl (by first | exact at0 | exact at1 | exact at2 | exact at3 | exact at4 | exact at5 | exact at6 | exact at7 | exact at8 | exact at9 | exact at10 | exact at11 | exact at12 | exact at13 | exact at14 | exact at15) Try.underlying43 rfl (by rfl) | exact Sil.wholeV rfl rfl (by first | exact at0 | exact at1 | exact at2 | exact at3 | exact at4 | exact at5 | exact at6 | exact at7 | exact at8 | exact at9 | exact at10 | exact at11 | exact at12 | exact at13 | exact at14 | exact at15) ⟨Try.underlying43, rfl⟩ rfl (by rfl)) ?_
        refine OL_loud rfl rfl rfl (LO.calls rfl ent31 rfl (fun w hw => Reads_gives t (.slice au t.ops.length cu) w ⟨au, cu, rfl, hu.keep hw.keep⟩ (by omega))) ?_
        rintro _ _ ⟨_, ⟨ar, cr, rfl, rfl⟩, rfl⟩
        refine OL_sil rfl rfl rfl (Sil.lenSl rfl rfl Try.underlying41) ?_
        refine OL_sil rfl rfl rfl (Sil.move rfl rfl) ?_
        refine OL_nil ?_
        refine TC_block ?_
        refine TC_loop (fun k : Nat => [(0, .slice (some x) ts.length cap), (3, .map (some mb)), (5, .slice (some ⟨ob, 0, none⟩) ts.length ts.length), (20, .slice (some x) ts.length cap), (21, .int .i64 ts.length), (22, .int .i64 i), (40, .slice ar (rdF t).length cr), (41, .int .i64 (rdF t).length), (42, .int .i64 k)]) (fun k => [mpR pairK mb (byM ts ts.length), blk ob (.cells (arrB ts.length (gJ (wfA ts) ts i t k)) 4 (0, 0)), sq ar (rdF t).length cr 40 3 (opsC (rdF t))]) (fun k => k ≤ (rdF t).length) (fun k => (rdF t).length - k) 0 ?_ ?_
        · exact ⟨Nat.zero_le _, ⟨rfl, rfl, rfl, rfl, rfl, rfl, rfl, rfl, rfl, trivial⟩, List.Sublist.cons_cons _ (List.Sublist.cons_cons _ (List.Sublist.cons _ (List.Sublist.refl _)))⟩
        · intro k hk
          refine TC_seq ?_
          refine TC_region ?_
          refine OL_sil rfl rfl rfl (Sil.lss rfl rfl rfl) ?_
          refine OL_nil ?_
          refine TC_seq ?_
          refine TC_if rfl (fun ht43 => ?_) (fun ht43 => ?_)
          · obtain ⟨o, hr⟩ : ∃ o, (rdF t)[k]? = some o := ⟨_, List.getElem?_eq_getElem (by omega)⟩
            obtain ⟨hw1, hw2⟩ := byI_lt ts (o.key, o.val)
            refine TC_know (fun w hw => hw.sqSome (i := 2) rfl (by omega)) (fun hsome => ?_)
            obtain ⟨g6, rfl⟩ := hsome
            refine TC_skip ?_
            refine TC_seq ?_
            refine TC_block ?_
            refine TC_seq ?_
            refine TC_region ?_
            refine OL_sil rfl rfl rfl (Sil.indexOwn k rfl rfl rfl Try.underlying41 rfl rfl (by omega)) ?_
            refine OL_sil rfl rfl rfl (Sil.sqLoadN 2 rfl rfl rfl Try.underlying40 rfl rfl rfl (opsC_at hr)) ?_
            refine OL_loud rfl rfl rfl (LO.alloc rfl rfl) ?_
            rintro _ _ ⟨b9, _, rfl, rfl⟩
            refine OL_loud0 rfl rfl (by first | exact LO.storeAllV rfl rfl rfl (by first | exact at0 | exact at1 | exact at2 | exact at3 | exact at4 | exact at5 | exact at6 | exact at7 | exact at8 | exact at9 | exact at10 | exact at11 | exact at12 | exact at13 | exact at14 | exact at15) (by rfl) (by rfl) (by rfl) (by rfl) | exact LO.store1V rfl rfl rfl (by first | exact at0 | exact at1 | exact at2 | exact at3 | exact at4 | exact at5 | exact at6 | exact at7 | exact at8 | exact at9 | exact at10 | exact at11 | exact at12 | exact at13 | exact at14 | exact at15) (by rfl) (by rfl) (by rfl)) ?_
            rintro _ _ ⟨rfl, rfl⟩
            refine OL_nil ?_
            refine TC_seq ?_
            refine TC_region ?_
            refine OL_sil rfl rfl rfl (Sil.move rfl rfl) ?_
            refine OL_sil rfl rfl rfl (Sil.fieldLoc 1 rfl rfl Try.underlying40 rfl rfl) ?_
            refine OL_sil rfl rfl rfl (by exact Sil.ownV rfl rfl (by first | exact at0 | exact at1 | exact at2 | exact at3 | exact at4 | exact at5 | exact at6 | exact at7 | exact at8 | exact at9 | exact at10 | exact at11 | exact at12 | exact at13 | exact at14 | exact at15) Try.underlying3 rfl (by rfl)) ?_
            refine OL_sil rfl rfl rfl (Sil.fieldLoc 2 rfl rfl Try.underlying40 rfl rfl) ?_
            refine OL_sil rfl rfl rfl (by exact Sil.ownV rfl rfl (by first | exact at0 | exact at1 | exact at2 | exact at3 | exact at4 | exact at5 | exact at6 | exact at7 | exact at8 | exact at9 | exact at10 | exact at11 | exact at12 | exact at13 | exact at14 | exact at15) Try.underlying3 rfl (by rfl)) ?_
            refine OL_sil rfl rfl rfl (Sil.buildS (vs := [(0, .int .i64 o.key), (1, .int .i64 o.val)]) (cs := (iv [o.key, o.val]).toArray) (ss := [1, 1]) rfl rfl Try.underlying73 rfl rfl rfl) ?_
            refine OL_sil rfl rfl rfl (Sil.lookup2 0 (o.key, o.val) (pair_row srPl) rfl rfl rfl rfl Try.underlying68 rfl) ?_
            refine OL_slot 53 (v := .tuple #[.int .i64 (max (byI ts (o.key, o.val)) 0), .bool (decide (0 ≤ byI ts (o.key, o.val)))]) rfl (by_get ts (o.key, o.val)) ?_
            refine OL_sil rfl rfl rfl (Sil.move rfl rfl) ?_
            refine OL_sil rfl rfl rfl (Sil.extract rfl rfl rfl) ?_
            refine OL_sil rfl rfl rfl (Sil.extract rfl rfl rfl) ?_
            refine OL_sil rfl rfl rfl (Sil.assign rfl rfl) ?_
            refine OL_sil rfl rfl rfl (Sil.assign rfl rfl) ?_
            refine OL_nil ?_
            refine TC_seq ?_
            refine TC_boolE [56, 57, 58, 59, 60, 61, 62, 63, 64, 65, 66, 67, 68, 69] 69 (0 ≤ byI ts (o.key, o.val) ∧ o.val ≠ 0 ∧ qOf ts (byI ts (o.key, o.val)).toNat = 0) ?_ ?_
            · refine TC_region ?_
              refine OL_sil rfl rfl rfl (Sil.move rfl rfl) ?_
              refine OL_sil rfl rfl rfl (Sil.move rfl rfl) ?_
              refine OL_dec 57 rfl (fun ht57 => ?_) (fun ht57 => ?_)
              · refine OL_sil rfl rfl rfl (Sil.fieldLoc 2 rfl rfl Try.underlying40 rfl rfl) ?_
                refine OL_sil rfl rfl rfl (by exact Sil.ownV rfl rfl (by first | exact at0 | exact at1 | exact at2 | exact at3 | exact at4 | exact at5 | exact at6 | exact at7 | exact at8 | exact at9 | exact at10 | exact at11 | exact at12 | exact at13 | exact at14 | exact at15) Try.underlying3 rfl (by rfl)) ?_
                refine OL_sil rfl rfl rfl (Sil.neq rfl rfl rfl) ?_
                refine OL_sil rfl rfl rfl (Sil.pick1 rfl rfl rfl) ?_
                refine OL_sil rfl rfl rfl (Sil.move rfl rfl) ?_
                refine OL_decn 62 rfl (fun ht62 => ?_) (fun ht62 => ?_)
                · obtain ⟨tw, htw⟩ : ∃ tw, ts[(byI ts (o.key, o.val)).toNat]? = some tw := ⟨_, List.getElem?_eq_getElem (by omega)⟩
                  obtain ⟨xw, uw, hxw, hcw, _⟩ := hx.2 _ tw htw
                  cases hxw
                  have hqw := qOf_at htw
                  refine OL_sil rfl rfl rfl (Sil.move rfl rfl) ?_
                  refine OL_sil rfl rfl rfl (Sil.move rfl rfl) ?_
                  refine OL_sil rfl rfl rfl (Sil.indexSl (byI ts (o.key, o.val)).toNat rfl rfl rfl Try.underlying25 rfl (by omega) (by omega)) ?_
                  refine OL_sil rfl rfl rfl (Sil.fieldAdd 1 rfl rfl Try.underlying43 rfl rfl) ?_
                  refine OL_sil rfl rfl rfl (Sil.oldF 1 rfl (by rw [← add_add]; rfl) hcw Try.underlying3 rfl rfl) ?_
                  refine OL_sil rfl rfl rfl (Sil.eql rfl rfl rfl) ?_
                  refine OL_sil rfl rfl rfl (Sil.pick1 rfl rfl rfl) ?_
                  refine OL_nil ?_
                  (refine Cont.then_intro (And.intro (by (repeat' (first | exact Ext.refl | refine Ext.cons rfl ?_))) (And.intro ?_ rfl)); first | exact slotV rfl (congrArg Value.bool (decide_eq_true (by omega)).symm) | exact slotV rfl (congrArg Value.bool (decide_eq_false (by omega)).symm) | exact slotV rfl (congrArg Value.bool (decide_eq_decide.2 (by omega))) | exact slotV rfl (congrArg Value.bool (decide_not.symm.trans (decide_eq_decide.2 (by omega)))))
                · refine OL_skip rfl rfl rfl ?_
                  refine OL_skip rfl rfl rfl ?_
                  refine OL_skip rfl rfl rfl ?_
                  refine OL_skip rfl rfl rfl ?_
                  refine OL_skip rfl rfl rfl ?_
                  refine OL_skip rfl rfl rfl ?_
                  refine OL_sil rfl rfl rfl (Sil.pick0 rfl rfl rfl) ?_
                  refine OL_nil ?_
                  (refine Cont.then_intro (And.intro (by (repeat' (first | exact Ext.refl | refine Ext.cons rfl ?_))) (And.intro ?_ rfl)); first | exact slotV rfl (congrArg Value.bool (decide_eq_true (by omega)).symm) | exact slotV rfl (congrArg Value.bool (decide_eq_false (by omega)).symm) | exact slotV rfl (congrArg Value.bool (decide_eq_decide.2 (by omega))) | exact slotV rfl (congrArg Value.bool (decide_not.symm.trans (decide_eq_decide.2 (by omega)))))
              · refine OL_skip rfl rfl rfl ?_
                refine OL_skip rfl rfl rfl ?_
                refine OL_skip rfl rfl rfl ?_
                refine OL_sil rfl rfl rfl (Sil.pick0 rfl rfl rfl) ?_
                refine OL_sil rfl rfl rfl (Sil.move rfl rfl) ?_
                refine OL_skip rfl rfl rfl ?_
                refine OL_skip rfl rfl rfl ?_
                refine OL_skip rfl rfl rfl ?_
                refine OL_skip rfl rfl rfl ?_
                refine OL_skip rfl rfl rfl ?_
                refine OL_skip rfl rfl rfl ?_
                refine OL_sil rfl rfl rfl (Sil.pick0 rfl rfl rfl) ?_
                refine OL_nil ?_
                (refine Cont.then_intro (And.intro (by (repeat' (first | exact Ext.refl | refine Ext.cons rfl ?_))) (And.intro ?_ rfl)); first | exact slotV rfl (congrArg Value.bool (decide_eq_true (by omega)).symm) | exact slotV rfl (congrArg Value.bool (decide_eq_false (by omega)).symm) | exact slotV rfl (congrArg Value.bool (decide_eq_decide.2 (by omega))) | exact slotV rfl (congrArg Value.bool (decide_not.symm.trans (decide_eq_decide.2 (by omega)))))
            refine TC_if rfl (fun ht69 => ?_) (fun ht69 => ?_)
            · refine TC_region ?_
              refine OL_sil rfl rfl rfl (Sil.move rfl rfl) ?_
              refine OL_sil rfl rfl rfl (Sil.move rfl rfl) ?_
              refine OL_sil rfl rfl rfl (Sil.indexOwn1 (byI ts (o.key, o.val)).toNat rfl rfl rfl Try.underlying35 rfl (by omega) (by omega)) ?_
              refine OL_loud0 rfl rfl (LO.storeAs 1 (arrB ts.length (gJ (wfA ts) ts i t (k + 1))) rfl rfl rfl rfl rfl rfl (by simp [Value.cells, oneC]) (by rw [arrB_size]; show (byI ts (o.key, o.val)).toNat + 1 ≤ ts.length; omega) (gJ_hit hr ht69.2.1 (by show byI ts (o.key, o.val) = _; omega) ht69.2.2 _)) ?_
              rintro _ _ ⟨rfl, rfl⟩
              refine OL_nil ?_
              refine TC_region ?_
              refine OL_sil rfl rfl rfl (Sil.add rfl rfl rfl (by omega) (by omega)) ?_
              refine OL_sil rfl rfl rfl (Sil.move rfl rfl) ?_
              refine OL_nil ?_
              exact ⟨k + 1, ⟨by omega, ⟨rfl, rfl, rfl, rfl, rfl, rfl, rfl, rfl, slotI rfl (by push_cast; rfl), trivial⟩, List.Sublist.cons_cons _ (List.Sublist.cons_cons _ (List.Sublist.cons_cons _ (List.nil_sublist _)))⟩, by omega⟩
            · have hmiss := gJ_miss (wf := wfA ts) (ts := ts) (i := i) hr ht69
              refine TC_own (h' := [mpR pairK mb (byM ts ts.length), blk ob (.cells (arrB ts.length (gJ (wfA ts) ts i t (k + 1))) 4 (0, 0)), sq (some ⟨g6, 0, none⟩) (rdF t).length cr 40 3 (opsC (rdF t))]) (fun w hw => by rw [hmiss]; exact hw.drop (List.Sublist.cons_cons _ (List.Sublist.cons_cons _ (List.Sublist.cons_cons _ (List.nil_sublist _))))) ?_
              refine TC_skip ?_
              refine TC_region ?_
              refine OL_sil rfl rfl rfl (Sil.add rfl rfl rfl (by omega) (by omega)) ?_
              refine OL_sil rfl rfl rfl (Sil.move rfl rfl) ?_
              refine OL_nil ?_
              exact ⟨k + 1, ⟨by omega, ⟨rfl, rfl, rfl, rfl, rfl, rfl, rfl, rfl, slotI rfl (by push_cast; rfl), trivial⟩, List.Sublist.cons_cons _ (List.Sublist.cons_cons _ (List.Sublist.cons_cons _ (List.nil_sublist _)))⟩, by omega⟩
          · obtain rfl : k = (rdF t).length := by omega
            refine TC_exit ?_
            refine TC_region ?_
            refine OL_sil rfl rfl rfl (Sil.add rfl rfl rfl (by omega) (by omega)) ?_
            refine OL_sil rfl rfl rfl (Sil.move rfl rfl) ?_
            refine OL_nil ?_
            exact ⟨i + 1, ⟨by omega, ⟨rfl, rfl, rfl, rfl, rfl, slotI rfl (by push_cast; rfl), trivial⟩, by rw [← gJ_end ht]; exact List.Sublist.cons_cons _ (List.Sublist.cons_cons _ (List.nil_sublist _))⟩, by omega⟩
      · refine OL_sil rfl rfl rfl (Sil.fieldLoc 1 rfl rfl Try.underlying43 rfl rfl) ?_
        refine OL_sil rfl rfl rfl (by exact Sil.ownV rfl rfl (by first | exact at0 | exact at1 | exact at2 | exact at3 | exact at4 | exact at5 | exact at6 | exact at7 | exact at8 | exact at9 | exact at10 | exact at11 | exact at12 | exact at13 | exact at14 | exact at15) Try.underlying3 rfl (by rfl)) ?_
        refine OL_sil rfl rfl rfl (Sil.eql rfl rfl rfl) ?_
        refine OL_sil rfl rfl rfl (Sil.pick0 rfl rfl rfl) ?_
        refine OL_sil rfl rfl rfl (Sil.indexOwn1 i rfl rfl rfl Try.underlying35 rfl rfl (by omega)) ?_
        refine OL_loud0 rfl rfl (LO.storeAs 1 (arrB ts.length (gJ (wfA ts) ts i t 0)) rfl rfl rfl rfl rfl rfl (by simp [Value.cells, oneC]) (by rw [arrB_size]; show i + 1 ≤ ts.length; omega) (gJ_start ht _ (by rw [ht33]; rfl))) ?_
        rintro _ _ ⟨rfl, rfl⟩
        refine OL_nil ?_
        refine TC_seq ?_
        refine TC_region ?_
        refine OL_sil rfl rfl rfl (by first | exact Sil.ownV rfl rfl (by first | exact at0 | exact at1 | exact at2 | exact at3 | exact at4 | exact at5 | exact at6 | exact at7 | exact at8 | exact at9 | exact at10 | exact at11 | exact at12 | exact at13 | exact at14 | exact at15) Try.underlying43 rfl (by rfl) | exact Sil.wholeV rfl rfl (by first | exact at0 | exact at1 | exact at2 | exact at3 | exact at4 | exact at5 | exact at6 | exact at7 | exact at8 | exact at9 | exact at10 | exact at11 | exact at12 | exact at13 | exact at14 | exact at15) ⟨Try.underlying43, rfl⟩ rfl (by rfl)) ?_
        refine OL_loud rfl rfl rfl (LO.calls rfl ent31 rfl (fun w hw => Reads_gives t (.slice au t.ops.length cu) w ⟨au, cu, rfl, hu.keep hw.keep⟩ (by omega))) ?_
        rintro _ _ ⟨_, ⟨ar, cr, rfl, rfl⟩, rfl⟩
        refine OL_sil rfl rfl rfl (Sil.lenSl rfl rfl Try.underlying41) ?_
        refine OL_sil rfl rfl rfl (Sil.move rfl rfl) ?_
        refine OL_nil ?_
        refine TC_block ?_
        refine TC_loop (fun k : Nat => [(0, .slice (some x) ts.length cap), (3, .map (some mb)), (5, .slice (some ⟨ob, 0, none⟩) ts.length ts.length), (20, .slice (some x) ts.length cap), (21, .int .i64 ts.length), (22, .int .i64 i), (40, .slice ar (rdF t).length cr), (41, .int .i64 (rdF t).length), (42, .int .i64 k)]) (fun k => [mpR pairK mb (byM ts ts.length), blk ob (.cells (arrB ts.length (gJ (wfA ts) ts i t k)) 4 (0, 0)), sq ar (rdF t).length cr 40 3 (opsC (rdF t))]) (fun k => k ≤ (rdF t).length) (fun k => (rdF t).length - k) 0 ?_ ?_
        · exact ⟨Nat.zero_le _, ⟨rfl, rfl, rfl, rfl, rfl, rfl, rfl, rfl, rfl, trivial⟩, List.Sublist.cons_cons _ (List.Sublist.cons_cons _ (List.Sublist.cons _ (List.Sublist.refl _)))⟩
        · intro k hk
          refine TC_seq ?_
          refine TC_region ?_
          refine OL_sil rfl rfl rfl (Sil.lss rfl rfl rfl) ?_
          refine OL_nil ?_
          refine TC_seq ?_
          refine TC_if rfl (fun ht43 => ?_) (fun ht43 => ?_)
          · obtain ⟨o, hr⟩ : ∃ o, (rdF t)[k]? = some o := ⟨_, List.getElem?_eq_getElem (by omega)⟩
            obtain ⟨hw1, hw2⟩ := byI_lt ts (o.key, o.val)
            refine TC_know (fun w hw => hw.sqSome (i := 2) rfl (by omega)) (fun hsome => ?_)
            obtain ⟨g6, rfl⟩ := hsome
            refine TC_skip ?_
            refine TC_seq ?_
            refine TC_block ?_
            refine TC_seq ?_
            refine TC_region ?_
            refine OL_sil rfl rfl rfl (Sil.indexOwn k rfl rfl rfl Try.underlying41 rfl rfl (by omega)) ?_
            refine OL_sil rfl rfl rfl (Sil.sqLoadN 2 rfl rfl rfl Try.underlying40 rfl rfl rfl (opsC_at hr)) ?_
            refine OL_loud rfl rfl rfl (LO.alloc rfl rfl) ?_
            rintro _ _ ⟨b9, _, rfl, rfl⟩
            refine OL_loud0 rfl rfl (by first | exact LO.storeAllV rfl rfl rfl (by first | exact at0 | exact at1 | exact at2 | exact at3 | exact at4 | exact at5 | exact at6 | exact at7 | exact at8 | exact at9 | exact at10 | exact at11 | exact at12 | exact at13 | exact at14 | exact at15) (by rfl) (by rfl) (by rfl) (by rfl) | exact LO.store1V rfl rfl rfl (by first | exact at0 | exact at1 | exact at2 | exact at3 | exact at4 | exact at5 | exact at6 | exact at7 | exact at8 | exact at9 | exact at10 | exact at11 | exact at12 | exact at13 | exact at14 | exact at15) (by rfl) (by rfl) (by rfl)) ?_
            rintro _ _ ⟨rfl, rfl⟩
            refine OL_nil ?_
            refine TC_seq ?_
            refine TC_region ?_
            refine OL_sil rfl rfl rfl (Sil.move rfl rfl) ?_
            refine OL_sil rfl rfl rfl (Sil.fieldLoc 1 rfl rfl Try.underlying40 rfl rfl) ?_
            refine OL_sil rfl rfl rfl (by exact Sil.ownV rfl rfl (by first | exact at0 | exact at1 | exact at2 | exact at3 | exact at4 | exact at5 | exact at6 | exact at7 | exact at8 | exact at9 | exact at10 | exact at11 | exact at12 | exact at13 | exact at14 | exact at15) Try.underlying3 rfl (by rfl)) ?_
            refine OL_sil rfl rfl rfl (Sil.fieldLoc 2 rfl rfl Try.underlying40 rfl rfl) ?_
            refine OL_sil rfl rfl rfl (by exact Sil.ownV rfl rfl (by first | exact at0 | exact at1 | exact at2 | exact at3 | exact at4 | exact at5 | exact at6 | exact at7 | exact at8 | exact at9 | exact at10 | exact at11 | exact at12 | exact at13 | exact at14 | exact at15) Try.underlying3 rfl (by rfl)) ?_
            refine OL_sil rfl rfl rfl (Sil.buildS (vs := [(0, .int .i64 o.key), (1, .int .i64 o.val)]) (cs := (iv [o.key, o.val]).toArray) (ss := [1, 1]) rfl rfl Try.underlying73 rfl rfl rfl) ?_
            refine OL_sil rfl rfl rfl (Sil.lookup2 0 (o.key, o.val) (pair_row srPl) rfl rfl rfl rfl Try.underlying68 rfl) ?_
            refine OL_slot 53 (v := .tuple #[.int .i64 (max (byI ts (o.key, o.val)) 0), .bool (decide (0 ≤ byI ts (o.key, o.val)))]) rfl (by_get ts (o.key, o.val)) ?_
            refine OL_sil rfl rfl rfl (Sil.move rfl rfl) ?_
            refine OL_sil rfl rfl rfl (Sil.extract rfl rfl rfl) ?_
            refine OL_sil rfl rfl rfl (Sil.extract rfl rfl rfl) ?_
            refine OL_sil rfl rfl rfl (Sil.assign rfl rfl) ?_
            refine OL_sil rfl rfl rfl (Sil.assign rfl rfl) ?_
            refine OL_nil ?_
            refine TC_seq ?_
            refine TC_boolE [56, 57, 58, 59, 60, 61, 62, 63, 64, 65, 66, 67, 68, 69] 69 (0 ≤ byI ts (o.key, o.val) ∧ o.val ≠ 0 ∧ qOf ts (byI ts (o.key, o.val)).toNat = 0) ?_ ?_
            · refine TC_region ?_
              refine OL_sil rfl rfl rfl (Sil.move rfl rfl) ?_
              refine OL_sil rfl rfl rfl (Sil.move rfl rfl) ?_
              refine OL_dec 57 rfl (fun ht57 => ?_) (fun ht57 => ?_)
              · refine OL_sil rfl rfl rfl (Sil.fieldLoc 2 rfl rfl Try.underlying40 rfl rfl) ?_
                refine OL_sil rfl rfl rfl (by exact Sil.ownV rfl rfl (by first | exact at0 | exact at1 | exact at2 | exact at3 | exact at4 | exact at5 | exact at6 | exact at7 | exact at8 | exact at9 | exact at10 | exact at11 | exact at12 | exact at13 | exact at14 | exact at15) Try.underlying3 rfl (by rfl)) ?_
                refine OL_sil rfl rfl rfl (Sil.neq rfl rfl rfl) ?_
                refine OL_sil rfl rfl rfl (Sil.pick1 rfl rfl rfl) ?_
                refine OL_sil rfl rfl rfl (Sil.move rfl rfl) ?_
                refine OL_decn 62 rfl (fun ht62 => ?_) (fun ht62 => ?_)
                · obtain ⟨tw, htw⟩ : ∃ tw, ts[(byI ts (o.key, o.val)).toNat]? = some tw := ⟨_, List.getElem?_eq_getElem (by omega)⟩
                  obtain ⟨xw, uw, hxw, hcw, _⟩ := hx.2 _ tw htw
                  cases hxw
                  have hqw := qOf_at htw
                  refine OL_sil rfl rfl rfl (Sil.move rfl rfl) ?_
                  refine OL_sil rfl rfl rfl (Sil.move rfl rfl) ?_
                  refine OL_sil rfl rfl rfl (Sil.indexSl (byI ts (o.key, o.val)).toNat rfl rfl rfl Try.underlying25 rfl (by omega) (by omega)) ?_
                  refine OL_sil rfl rfl rfl (Sil.fieldAdd 1 rfl rfl Try.underlying43 rfl rfl) ?_
                  refine OL_sil rfl rfl rfl (Sil.oldF 1 rfl (by rw [← add_add]; rfl) hcw Try.underlying3 rfl rfl) ?_
                  refine OL_sil rfl rfl rfl (Sil.eql rfl rfl rfl) ?_
                  refine OL_sil rfl rfl rfl (Sil.pick1 rfl rfl rfl) ?_
                  refine OL_nil ?_
                  (refine Cont.then_intro (And.intro (by (repeat' (first | exact Ext.refl | refine Ext.cons rfl ?_))) (And.intro ?_ rfl)); first | exact slotV rfl (congrArg Value.bool (decide_eq_true (by omega)).symm) | exact slotV rfl (congrArg Value.bool (decide_eq_false (by omega)).symm) | exact slotV rfl (congrArg Value.bool (decide_eq_decide.2 (by omega))) | exact slotV rfl (congrArg Value.bool (decide_not.symm.trans (decide_eq_decide.2 (by omega)))))
                · refine OL_skip rfl rfl rfl ?_
                  refine OL_skip rfl rfl rfl ?_
                  refine OL_skip rfl rfl rfl ?_
                  refine OL_skip rfl rfl rfl ?_
                  refine OL_skip rfl rfl rfl ?_
                  refine OL_skip rfl rfl rfl ?_
                  refine OL_sil rfl rfl rfl (Sil.pick0 rfl rfl rfl) ?_
                  refine OL_nil ?_
                  (refine Cont.then_intro (And.intro (by (repeat' (first | exact Ext.refl | refine Ext.cons rfl ?_))) (And.intro ?_ rfl)); first | exact slotV rfl (congrArg Value.bool (decide_eq_true (by omega)).symm) | exact slotV rfl (congrArg Value.bool (decide_eq_false (by omega)).symm) | exact slotV rfl (congrArg Value.bool (decide_eq_decide.2 (by omega))) | exact slotV rfl (congrArg Value.bool (decide_not.symm.trans (decide_eq_decide.2 (by omega)))))
              · refine OL_skip rfl rfl rfl ?_
                refine OL_skip rfl rfl rfl ?_
                refine OL_skip rfl rfl rfl ?_
                refine OL_sil rfl rfl rfl (Sil.pick0 rfl rfl rfl) ?_
                refine OL_sil rfl rfl rfl (Sil.move rfl rfl) ?_
                refine OL_skip rfl rfl rfl ?_
                refine OL_skip rfl rfl rfl ?_
                refine OL_skip rfl rfl rfl ?_
                refine OL_skip rfl rfl rfl ?_
                refine OL_skip rfl rfl rfl ?_
                refine OL_skip rfl rfl rfl ?_
                refine OL_sil rfl rfl rfl (Sil.pick0 rfl rfl rfl) ?_
                refine OL_nil ?_
                (refine Cont.then_intro (And.intro (by (repeat' (first | exact Ext.refl | refine Ext.cons rfl ?_))) (And.intro ?_ rfl)); first | exact slotV rfl (congrArg Value.bool (decide_eq_true (by omega)).symm) | exact slotV rfl (congrArg Value.bool (decide_eq_false (by omega)).symm) | exact slotV rfl (congrArg Value.bool (decide_eq_decide.2 (by omega))) | exact slotV rfl (congrArg Value.bool (decide_not.symm.trans (decide_eq_decide.2 (by omega)))))
            refine TC_if rfl (fun ht69 => ?_) (fun ht69 => ?_)
            · refine TC_region ?_
              refine OL_sil rfl rfl rfl (Sil.move rfl rfl) ?_
              refine OL_sil rfl rfl rfl (Sil.move rfl rfl) ?_
              refine OL_sil rfl rfl rfl (Sil.indexOwn1 (byI ts (o.key, o.val)).toNat rfl rfl rfl Try.underlying35 rfl (by omega) (by omega)) ?_
              refine OL_loud0 rfl rfl (LO.storeAs 1 (arrB ts.length (gJ (wfA ts) ts i t (k + 1))) rfl rfl rfl rfl rfl rfl (by simp [Value.cells, oneC]) (by rw [arrB_size]; show (byI ts (o.key, o.val)).toNat + 1 ≤ ts.length; omega) (gJ_hit hr ht69.2.1 (by show byI ts (o.key, o.val) = _; omega) ht69.2.2 _)) ?_
              rintro _ _ ⟨rfl, rfl⟩
              refine OL_nil ?_
              refine TC_region ?_
              refine OL_sil rfl rfl rfl (Sil.add rfl rfl rfl (by omega) (by omega)) ?_
              refine OL_sil rfl rfl rfl (Sil.move rfl rfl) ?_
              refine OL_nil ?_
              exact ⟨k + 1, ⟨by omega, ⟨rfl, rfl, rfl, rfl, rfl, rfl, rfl, rfl, slotI rfl (by push_cast; rfl), trivial⟩, List.Sublist.cons_cons _ (List.Sublist.cons_cons _ (List.Sublist.cons_cons _ (List.nil_sublist _)))⟩, by omega⟩
            · have hmiss := gJ_miss (wf := wfA ts) (ts := ts) (i := i) hr ht69
              refine TC_own (h' := [mpR pairK mb (byM ts ts.length), blk ob (.cells (arrB ts.length (gJ (wfA ts) ts i t (k + 1))) 4 (0, 0)), sq (some ⟨g6, 0, none⟩) (rdF t).length cr 40 3 (opsC (rdF t))]) (fun w hw => by rw [hmiss]; exact hw.drop (List.Sublist.cons_cons _ (List.Sublist.cons_cons _ (List.Sublist.cons_cons _ (List.nil_sublist _))))) ?_
              refine TC_skip ?_
              refine TC_region ?_
              refine OL_sil rfl rfl rfl (Sil.add rfl rfl rfl (by omega) (by omega)) ?_
              refine OL_sil rfl rfl rfl (Sil.move rfl rfl) ?_
              refine OL_nil ?_
              exact ⟨k + 1, ⟨by omega, ⟨rfl, rfl, rfl, rfl, rfl, rfl, rfl, rfl, slotI rfl (by push_cast; rfl), trivial⟩, List.Sublist.cons_cons _ (List.Sublist.cons_cons _ (List.Sublist.cons_cons _ (List.nil_sublist _)))⟩, by omega⟩
          · obtain rfl : k = (rdF t).length := by omega
            refine TC_exit ?_
            refine TC_region ?_
            refine OL_sil rfl rfl rfl (Sil.add rfl rfl rfl (by omega) (by omega)) ?_
            refine OL_sil rfl rfl rfl (Sil.move rfl rfl) ?_
            refine OL_nil ?_
            exact ⟨i + 1, ⟨by omega, ⟨rfl, rfl, rfl, rfl, rfl, slotI rfl (by push_cast; rfl), trivial⟩, by rw [← gJ_end ht]; exact List.Sublist.cons_cons _ (List.Sublist.cons_cons _ (List.nil_sublist _))⟩, by omega⟩
    · obtain rfl : i = ts.length := by omega
      refine TC_exit ?_
      refine TC_seq ?_
      refine TC_region ?_
      refine OL_sil rfl rfl rfl (Sil.move rfl rfl) ?_
      refine OL_sil rfl rfl rfl (Sil.assign rfl rfl) ?_
      refine OL_nil ?_
      refine TC_ret ?_
      exact ret1h rfl rfl (List.Sublist.cons _ (List.Sublist.refl _)) ⟨ob, rfl, rfl⟩
end Go.Proofs.Ytjnopbmanhialaa
