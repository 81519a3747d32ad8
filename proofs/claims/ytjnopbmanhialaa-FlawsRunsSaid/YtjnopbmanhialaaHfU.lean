/-
  Walk: flaws.writers.
-/
import Derived.Test.YtjnopbmanhialaaHfR
namespace Go.Proofs.Ytjnopbmanhialaa
open Go.Cru

theorem srPl : SR Try.prog 73 2 := ⟨by unfold Program.fieldsOf; rw [Try.underlying73], by kernel_rfl, by kernel_rfl, by kernel_rfl⟩
/-- Is p (key, value) written among the first j operations? -/
def wrHas (ops : List OpD) (j : Nat) (p : Int × Int) : Bool := (ops.take j).any fun o => decide (o.k = 2 ∧ (o.key, o.val) = p)
theorem wrHas_succ {ops : List OpD} {j : Nat} {o : OpD} (ho : ops[j]? = some o) (p : Int × Int) : wrHas ops (j + 1) p = (wrHas ops j p || decide (o.k = 2 ∧ (o.key, o.val) = p)) := by
  unfold wrHas
  rw [List.take_add_one, ho, Option.toList, List.any_append]
  simp
/-- Who of the first i wrote p, the last one that did. -/
def byN (ts : List RcD) : Nat → Int × Int → Option Nat
  | 0, _ => none
  | i + 1, p => match ts[i]? with
    | some t => if wrHas t.ops t.ops.length p = true then some i else byN ts i p
    | none => byN ts i p
def byJ (ts : List RcD) (i : Nat) (t : RcD) (j : Nat) (p : Int × Int) : Option Nat := if wrHas t.ops j p = true then some i else byN ts i p
def byV (o : Option Nat) : Option Value := o.map fun n : Nat => .int .i64 (n : Int)
def byM (ts : List RcD) (i : Nat) : Int × Int → Option Value := fun p => byV (byN ts i p)
def byMJ (ts : List RcD) (i : Nat) (t : RcD) (j : Nat) : Int × Int → Option Value := fun p => byV (byJ ts i t j p)
theorem byMJ_zero (ts : List RcD) (i : Nat) (t : RcD) : byMJ ts i t 0 = byM ts i := by
  funext p
  unfold byMJ byJ byM
  rw [if_neg (by simp [wrHas])]
theorem byMJ_put {ts : List RcD} {i : Nat} {t : RcD} {j : Nat} {o : OpD} (ho : t.ops[j]? = some o) (h : o.k = 2) : updK (byMJ ts i t j) (o.key, o.val) (some (.int .i64 i)) = byMJ ts i t (j + 1) := by
  funext p
  unfold updK byMJ byJ
  rw [wrHas_succ ho]
  by_cases hp : p = (o.key, o.val)
  · rw [if_pos hp, if_pos (by simp [h, hp])]; rfl
  · rw [if_neg hp]
    have : decide (o.k = 2 ∧ (o.key, o.val) = p) = false := decide_eq_false (fun hh => hp hh.2.symm)
    rw [this, Bool.or_false]
theorem byMJ_stay {ts : List RcD} {i : Nat} {t : RcD} {j : Nat} {o : OpD} (ho : t.ops[j]? = some o) (h : ¬ o.k = 2) : byMJ ts i t (j + 1) = byMJ ts i t j := by
  funext p
  unfold byMJ byJ
  rw [wrHas_succ ho]
  have : decide (o.k = 2 ∧ (o.key, o.val) = p) = false := decide_eq_false (fun hh => h hh.1)
  rw [this, Bool.or_false]
theorem byMJ_end {ts : List RcD} {i : Nat} {t : RcD} (ht : ts[i]? = some t) : byMJ ts i t t.ops.length = byM ts (i + 1) := by
  funext p
  unfold byMJ byJ byM
  rw [byN, ht]
/-- Is p a last write of one of these? -/
def laHas (ws : List OpD) (j : Nat) (p : Int × Int) : Bool := (ws.take j).any fun o => decide ((o.key, o.val) = p)
theorem laHas_succ {ws : List OpD} {j : Nat} {o : OpD} (ho : ws[j]? = some o) (p : Int × Int) : laHas ws (j + 1) p = (laHas ws j p || decide ((o.key, o.val) = p)) := by
  unfold laHas
  rw [List.take_add_one, ho, Option.toList, List.any_append]
  simp
def laN (ts : List RcD) (i : Nat) (p : Int × Int) : Bool := (ts.take i).any fun t => laHas (wrN t.ops 16) (wrN t.ops 16).length p
def laB (b : Bool) : Option Value := if b = true then some (.bool true) else none
def laM (ts : List RcD) (i : Nat) : Int × Int → Option Value := fun p => laB (laN ts i p)
def laMJ (ts : List RcD) (i : Nat) (t : RcD) (j : Nat) : Int × Int → Option Value := fun p => laB (laN ts i p || laHas (wrN t.ops 16) j p)
theorem laMJ_zero (ts : List RcD) (i : Nat) (t : RcD) : laMJ ts i t 0 = laM ts i := by
  funext p
  unfold laMJ laM
  rw [show laHas (wrN t.ops 16) 0 p = false from rfl, Bool.or_false]
theorem laMJ_put {ts : List RcD} {i : Nat} {t : RcD} {j : Nat} {o : OpD} (ho : (wrN t.ops 16)[j]? = some o) : updK (laMJ ts i t j) (o.key, o.val) (some (.bool true)) = laMJ ts i t (j + 1) := by
  funext p
  unfold updK laMJ
  rw [laHas_succ ho]
  by_cases hp : p = (o.key, o.val)
  · rw [if_pos hp]
    have : decide ((o.key, o.val) = p) = true := decide_eq_true hp.symm
    rw [this, Bool.or_true, Bool.or_true]; rfl
  · rw [if_neg hp]
    have : decide ((o.key, o.val) = p) = false := decide_eq_false (fun hh => hp hh.symm)
    rw [this, Bool.or_false]
theorem laMJ_end {ts : List RcD} {i : Nat} {t : RcD} (ht : ts[i]? = some t) : laMJ ts i t (wrN t.ops 16).length = laM ts (i + 1) := by
  funext p
  unfold laMJ laM laN
  rw [List.take_add_one, ht, Option.toList, List.any_append]
  simp
theorem laM_get (ts : List RcD) (i : Nat) (p : Int × Int) : (laM ts i p).getD (.bool false) = .bool (laN ts i p) := by
  unfold laM laB
  cases laN ts i p <;> rfl

theorem writers_gives (ts : List RcD) (a : Option Addr) (cap : Nat) (w0 : World) (hx : RcsAt w0 a ts) (hn : ts.length ≤ 1000) (hb : ∀ t ∈ ts, t.ops.length ≤ 1000) :
    Gives Try.prog 40 [.slice a ts.length cap] w0 [] fun v h => ∃ mb ml, v = .tuple #[.map (some mb), .map (some ml)] ∧ h = [mpR pairK mb (byM ts ts.length), mpR pairK ml (laM ts ts.length)] := by
  refine gives_of Try.func40 rfl rfl rfl (Own.start w0) ?_
  refine TC_seq ?_
  refine TC_region ?_
  refine OL_sil rfl rfl rfl (Sil.assign rfl rfl) ?_
  refine OL_sil rfl rfl rfl (Sil.assign rfl rfl) ?_
  refine OL_nil ?_
  refine TC_seq ?_
  refine TC_region ?_
  refine OL_loud rfl rfl rfl (LO.makeMap pairK rfl) ?_
  rintro _ _ ⟨mb, rfl, rfl⟩
  refine OL_loud rfl rfl rfl (LO.makeMap pairK rfl) ?_
  rintro _ _ ⟨ml, rfl, rfl⟩
  refine OL_sil rfl rfl rfl (Sil.assign rfl rfl) ?_
  refine OL_sil rfl rfl rfl (Sil.assign rfl rfl) ?_
  refine OL_nil ?_
  refine TC_seq ?_
  refine TC_seq ?_
  refine TC_region ?_
  refine OL_sil rfl rfl rfl (Sil.move rfl rfl) ?_
  refine OL_sil rfl rfl rfl (Sil.lenSl rfl rfl Try.underlying25) ?_
  refine OL_sil rfl rfl rfl (Sil.move rfl rfl) ?_
  refine OL_nil ?_
  refine TC_block ?_
  refine TC_loop (fun i : Nat => [(4, .map (some mb)), (5, .map (some ml)), (14, .slice a ts.length cap), (15, .int .i64 ts.length), (16, .int .i64 i)]) (fun i => [mpR pairK mb (byM ts i), mpR pairK ml (laM ts i)]) (fun i => i ≤ ts.length) (fun i => ts.length - i) 0 ?_ ?_
  · exact ⟨Nat.zero_le _, ⟨rfl, rfl, rfl, rfl, rfl, trivial⟩, List.Sublist.refl _⟩
  · intro i hi
    refine TC_seq ?_
    refine TC_region ?_
    refine OL_sil rfl rfl rfl (Sil.lss rfl rfl rfl) ?_
    refine OL_nil ?_
    refine TC_seq ?_
    refine TC_if rfl (fun ht17 => ?_) (fun ht17 => ?_)
    · obtain ⟨t, ht⟩ := nthSome ht17
      have hbt := hb t (List.mem_of_getElem? ht)
      obtain ⟨x, u, rfl, hct, au, cu, rfl, hu⟩ := hx.2 i t ht
      have hwl := wrN_len t.ops 16
      refine TC_skip ?_
      refine TC_seq ?_
      refine TC_block ?_
      refine TC_seq ?_
      refine TC_region ?_
      refine OL_sil rfl rfl rfl (Sil.move rfl rfl) ?_
      refine OL_sil rfl rfl rfl (Sil.indexSl i rfl rfl rfl Try.underlying25 rfl rfl (by omega)) ?_
      refine OL_sil rfl rfl rfl (Sil.oldS rfl rfl hct Try.underlying43 rfl rfl rfl) ?_
      refine OL_loud rfl rfl rfl (LO.alloc rfl rfl) ?_
      rintro _ _ ⟨b7, _, rfl, rfl⟩
      refine OL_sil rfl rfl rfl (Sil.assign rfl rfl) ?_
      refine OL_loud0 rfl rfl (by first | exact LO.storeAllV rfl rfl rfl (by first | exact at0 | exact at1 | exact at2 | exact at3 | exact at4 | exact at5 | exact at6 | exact at7 | exact at8 | exact at9 | exact at10 | exact at11 | exact at12 | exact at13 | exact at14 | exact at15) (by rfl) (by rfl) (by rfl) (by rfl) | exact LO.store1V rfl rfl rfl (by first | exact at0 | exact at1 | exact at2 | exact at3 | exact at4 | exact at5 | exact at6 | exact at7 | exact at8 | exact at9 | exact at10 | exact at11 | exact at12 | exact at13 | exact at14 | exact at15) (by rfl) (by rfl) (by rfl)) ?_
      rintro _ _ ⟨rfl, rfl⟩
      refine OL_nil ?_
      refine TC_seq ?_
      refine TC_seq ?_
      refine TC_region ?_
      refine OL_sil rfl rfl rfl (Sil.fieldLoc 2 rfl rfl Try.underlying43 rfl rfl) ?_
      refine OL_sil rfl rfl rfl (by exact Sil.ownV rfl rfl (by first | exact at0 | exact at1 | exact at2 | exact at3 | exact at4 | exact at5 | exact at6 | exact at7 | exact at8 | exact at9 | exact at10 | exact at11 | exact at12 | exact at13 | exact at14 | exact at15) Try.underlying41 rfl (by rfl)) ?_
      refine OL_sil rfl rfl rfl (Sil.lenSl rfl rfl Try.underlying41) ?_
      refine OL_sil rfl rfl rfl (Sil.move rfl rfl) ?_
      refine OL_nil ?_
      refine TC_block ?_
      refine TC_loop (fun j : Nat => [(4, .map (some mb)), (5, .map (some ml)), (6, .int .i64 i), (7, .pointer (some ⟨b7, 0, none⟩)), (14, .slice (some x) ts.length cap), (15, .int .i64 ts.length), (16, .int .i64 i), (22, .slice au t.ops.length cu), (23, .int .i64 t.ops.length), (24, .int .i64 j)]) (fun j => [mpR pairK mb (byMJ ts i t j), mpR pairK ml (laM ts i), blk b7 (.cells (rcC t (.slice au t.ops.length cu)).toArray 43 (0, 0))]) (fun j => j ≤ t.ops.length) (fun j => t.ops.length - j) 0 ?_ ?_
      · exact ⟨Nat.zero_le _, ⟨rfl, rfl, rfl, rfl, rfl, rfl, rfl, rfl, rfl, rfl, trivial⟩, by rw [byMJ_zero]; exact List.Sublist.refl _⟩
      · intro j hj
        refine TC_seq ?_
        refine TC_region ?_
        refine OL_sil rfl rfl rfl (Sil.lss rfl rfl rfl) ?_
        refine OL_nil ?_
        refine TC_seq ?_
        refine TC_if rfl (fun ht25 => ?_) (fun ht25 => ?_)
        · obtain ⟨o, ho⟩ := nthSome ht25
          obtain ⟨y, rfl, hcy⟩ := hu.2 j o ho
          refine TC_skip ?_
          refine TC_seq ?_
          refine TC_block ?_
          refine TC_seq ?_
          refine TC_region ?_
          refine OL_sil rfl rfl rfl (Sil.indexSl j rfl rfl rfl Try.underlying41 rfl rfl (by omega)) ?_
          refine OL_sil rfl rfl rfl (Sil.oldS rfl rfl hcy Try.underlying40 rfl rfl rfl) ?_
          refine OL_loud rfl rfl rfl (LO.alloc rfl rfl) ?_
          rintro _ _ ⟨b9, _, rfl, rfl⟩
          refine OL_loud0 rfl rfl (by first | exact LO.storeAllV rfl rfl rfl (by first | exact at0 | exact at1 | exact at2 | exact at3 | exact at4 | exact at5 | exact at6 | exact at7 | exact at8 | exact at9 | exact at10 | exact at11 | exact at12 | exact at13 | exact at14 | exact at15) (by rfl) (by rfl) (by rfl) (by rfl) | exact LO.store1V rfl rfl rfl (by first | exact at0 | exact at1 | exact at2 | exact at3 | exact at4 | exact at5 | exact at6 | exact at7 | exact at8 | exact at9 | exact at10 | exact at11 | exact at12 | exact at13 | exact at14 | exact at15) (by rfl) (by rfl) (by rfl)) ?_
          rintro _ _ ⟨rfl, rfl⟩
          refine OL_nil ?_
          refine TC_seq ?_
          refine TC_region ?_
          refine OL_sil rfl rfl rfl (Sil.fieldLoc 0 rfl rfl Try.underlying40 rfl rfl) ?_
          refine OL_sil rfl rfl rfl (by exact Sil.ownV rfl rfl (by first | exact at0 | exact at1 | exact at2 | exact at3 | exact at4 | exact at5 | exact at6 | exact at7 | exact at8 | exact at9 | exact at10 | exact at11 | exact at12 | exact at13 | exact at14 | exact at15) Try.underlying3 rfl (by rfl)) ?_
          refine OL_sil rfl rfl rfl (Sil.eql rfl rfl rfl) ?_
          refine OL_nil ?_
          refine TC_if rfl (fun ht30 => ?_) (fun ht30 => ?_)
          · refine TC_region ?_
            refine OL_sil rfl rfl rfl (Sil.move rfl rfl) ?_
            refine OL_sil rfl rfl rfl (Sil.fieldLoc 1 rfl rfl Try.underlying40 rfl rfl) ?_
            refine OL_sil rfl rfl rfl (by exact Sil.ownV rfl rfl (by first | exact at0 | exact at1 | exact at2 | exact at3 | exact at4 | exact at5 | exact at6 | exact at7 | exact at8 | exact at9 | exact at10 | exact at11 | exact at12 | exact at13 | exact at14 | exact at15) Try.underlying3 rfl (by rfl)) ?_
            refine OL_sil rfl rfl rfl (Sil.fieldLoc 2 rfl rfl Try.underlying40 rfl rfl) ?_
            refine OL_sil rfl rfl rfl (by exact Sil.ownV rfl rfl (by first | exact at0 | exact at1 | exact at2 | exact at3 | exact at4 | exact at5 | exact at6 | exact at7 | exact at8 | exact at9 | exact at10 | exact at11 | exact at12 | exact at13 | exact at14 | exact at15) Try.underlying3 rfl (by rfl)) ?_
            refine OL_sil rfl rfl rfl (Sil.buildS (vs := [(0, .int .i64 o.key), (1, .int .i64 o.val)]) (cs := (iv [o.key, o.val]).toArray) (ss := [1, 1]) rfl rfl Try.underlying73 rfl rfl rfl) ?_
            refine OL_sil rfl rfl rfl (Sil.move rfl rfl) ?_
            refine OL_loud0 rfl rfl (LO.mapUpdate 0 (o.key, o.val) (pair_row srPl) rfl rfl rfl rfl rfl Try.underlying68) ?_
            rintro _ _ ⟨rfl, rfl⟩
            refine OL_nil ?_
            refine TC_region ?_
            refine OL_sil rfl rfl rfl (Sil.add rfl rfl rfl (by omega) (by omega)) ?_
            refine OL_sil rfl rfl rfl (Sil.move rfl rfl) ?_
            refine OL_nil ?_
            refine ⟨j + 1, ⟨by omega, ⟨rfl, rfl, rfl, rfl, rfl, rfl, rfl, rfl, rfl, slotI rfl (by push_cast; rfl), trivial⟩, ?_⟩, by omega⟩
            rw [← byMJ_put ho ht30]
            exact List.Sublist.cons_cons _ (List.Sublist.cons_cons _ (List.Sublist.cons_cons _ (List.nil_sublist _)))
          · refine TC_skip ?_
            refine TC_region ?_
            refine OL_sil rfl rfl rfl (Sil.add rfl rfl rfl (by omega) (by omega)) ?_
            refine OL_sil rfl rfl rfl (Sil.move rfl rfl) ?_
            refine OL_nil ?_
            refine ⟨j + 1, ⟨by omega, ⟨rfl, rfl, rfl, rfl, rfl, rfl, rfl, rfl, rfl, slotI rfl (by push_cast; rfl), trivial⟩, ?_⟩, by omega⟩
            rw [byMJ_stay ho ht30]
            exact List.Sublist.cons_cons _ (List.Sublist.cons_cons _ (List.Sublist.cons_cons _ (List.nil_sublist _)))
        · obtain rfl : j = t.ops.length := by omega
          refine TC_exit ?_
          refine TC_seq ?_
          refine TC_region ?_
          refine OL_sil rfl rfl rfl (by first | exact Sil.ownV rfl rfl (by first | exact at0 | exact at1 | exact at2 | exact at3 | exact at4 | exact at5 | exact at6 | exact at7 | exact at8 | exact at9 | exact at10 | exact at11 | exact at12 | exact at13 | exact at14 | exact at15) Try.underlying43 rfl (by rfl) | exact Sil.wholeV rfl rfl (by first | exact at0 | exact at1 | exact at2 | exact at3 | exact at4 | exact at5 | exact at6 | exact at7 | exact at8 | exact at9 | exact at10 | exact at11 | exact at12 | exact at13 | exact at14 | exact at15) ⟨Try.underlying43, rfl⟩ rfl (by rfl)) ?_
          refine OL_loud rfl rfl rfl (LO.calls rfl ent33 rfl (fun w hw => Writes_gives t (.slice au t.ops.length cu) w ⟨au, cu, rfl, hu.keep hw.keep⟩ (by omega))) ?_
          rintro _ _ ⟨_, ⟨aw, cw, rfl, rfl⟩, rfl⟩
          refine OL_sil rfl rfl rfl (Sil.lenSl rfl rfl Try.underlying41) ?_
          refine OL_sil rfl rfl rfl (Sil.move rfl rfl) ?_
          refine OL_nil ?_
          refine TC_block ?_
          refine TC_loop (fun j : Nat => [(4, .map (some mb)), (5, .map (some ml)), (14, .slice (some x) ts.length cap), (15, .int .i64 ts.length), (16, .int .i64 i), (40, .slice aw (wrN t.ops 16).length cw), (41, .int .i64 (wrN t.ops 16).length), (42, .int .i64 j)]) (fun j => [mpR pairK mb (byM ts (i + 1)), mpR pairK ml (laMJ ts i t j), sq aw (wrN t.ops 16).length cw 40 3 (opsC (wrN t.ops 16))]) (fun j => j ≤ (wrN t.ops 16).length) (fun j => (wrN t.ops 16).length - j) 0 ?_ ?_
          · exact ⟨Nat.zero_le _, ⟨rfl, rfl, rfl, rfl, rfl, rfl, rfl, rfl, trivial⟩, by rw [laMJ_zero, byMJ_end ht]; exact List.Sublist.cons_cons _ (List.Sublist.cons_cons _ (List.Sublist.cons _ (List.Sublist.refl _)))⟩
          · intro j hj
            refine TC_seq ?_
            refine TC_region ?_
            refine OL_sil rfl rfl rfl (Sil.lss rfl rfl rfl) ?_
            refine OL_nil ?_
            refine TC_seq ?_
            refine TC_if rfl (fun ht43 => ?_) (fun ht43 => ?_)
            · obtain ⟨q, hq⟩ : ∃ q, (wrN t.ops 16)[j]? = some q := ⟨_, List.getElem?_eq_getElem (by omega)⟩
              refine TC_know (fun w hw => hw.sqSome (i := 2) rfl (by omega)) (fun hsome => ?_)
              obtain ⟨g6, rfl⟩ := hsome
              refine TC_skip ?_
              refine TC_seq ?_
              refine TC_block ?_
              refine TC_seq ?_
              refine TC_region ?_
              refine OL_sil rfl rfl rfl (Sil.indexOwn j rfl rfl rfl Try.underlying41 rfl rfl (by omega)) ?_
              refine OL_sil rfl rfl rfl (Sil.sqLoadN 2 rfl rfl rfl Try.underlying40 rfl rfl rfl (opsC_at hq)) ?_
              refine OL_loud rfl rfl rfl (LO.alloc rfl rfl) ?_
              rintro _ _ ⟨b11, _, rfl, rfl⟩
              refine OL_loud0 rfl rfl (by first | exact LO.storeAllV rfl rfl rfl (by first | exact at0 | exact at1 | exact at2 | exact at3 | exact at4 | exact at5 | exact at6 | exact at7 | exact at8 | exact at9 | exact at10 | exact at11 | exact at12 | exact at13 | exact at14 | exact at15) (by rfl) (by rfl) (by rfl) (by rfl) | exact LO.store1V rfl rfl rfl (by first | exact at0 | exact at1 | exact at2 | exact at3 | exact at4 | exact at5 | exact at6 | exact at7 | exact at8 | exact at9 | exact at10 | exact at11 | exact at12 | exact at13 | exact at14 | exact at15) (by rfl) (by rfl) (by rfl)) ?_
              rintro _ _ ⟨rfl, rfl⟩
              refine OL_nil ?_
              refine TC_region ?_
              refine OL_sil rfl rfl rfl (Sil.move rfl rfl) ?_
              refine OL_sil rfl rfl rfl (Sil.fieldLoc 1 rfl rfl Try.underlying40 rfl rfl) ?_
              refine OL_sil rfl rfl rfl (by exact Sil.ownV rfl rfl (by first | exact at0 | exact at1 | exact at2 | exact at3 | exact at4 | exact at5 | exact at6 | exact at7 | exact at8 | exact at9 | exact at10 | exact at11 | exact at12 | exact at13 | exact at14 | exact at15) Try.underlying3 rfl (by rfl)) ?_
              refine OL_sil rfl rfl rfl (Sil.fieldLoc 2 rfl rfl Try.underlying40 rfl rfl) ?_
              refine OL_sil rfl rfl rfl (by exact Sil.ownV rfl rfl (by first | exact at0 | exact at1 | exact at2 | exact at3 | exact at4 | exact at5 | exact at6 | exact at7 | exact at8 | exact at9 | exact at10 | exact at11 | exact at12 | exact at13 | exact at14 | exact at15) Try.underlying3 rfl (by rfl)) ?_
              refine OL_sil rfl rfl rfl (Sil.buildS (vs := [(0, .int .i64 q.key), (1, .int .i64 q.val)]) (cs := (iv [q.key, q.val]).toArray) (ss := [1, 1]) rfl rfl Try.underlying73 rfl rfl rfl) ?_
              refine OL_loud0 rfl rfl (LO.mapUpdate 1 (q.key, q.val) (pair_row srPl) rfl rfl rfl rfl rfl Try.underlying69) ?_
              rintro _ _ ⟨rfl, rfl⟩
              refine OL_nil ?_
              refine TC_region ?_
              refine OL_sil rfl rfl rfl (Sil.add rfl rfl rfl (by omega) (by omega)) ?_
              refine OL_sil rfl rfl rfl (Sil.move rfl rfl) ?_
              refine OL_nil ?_
              refine ⟨j + 1, ⟨by omega, ⟨rfl, rfl, rfl, rfl, rfl, rfl, rfl, slotI rfl (by push_cast; rfl), trivial⟩, ?_⟩, by omega⟩
              rw [← laMJ_put hq]
              exact List.Sublist.cons_cons _ (List.Sublist.cons_cons _ (List.Sublist.cons_cons _ (List.nil_sublist _)))
            · obtain rfl : j = (wrN t.ops 16).length := by omega
              refine TC_exit ?_
              refine TC_region ?_
              refine OL_sil rfl rfl rfl (Sil.add rfl rfl rfl (by omega) (by omega)) ?_
              refine OL_sil rfl rfl rfl (Sil.move rfl rfl) ?_
              refine OL_nil ?_
              refine ⟨i + 1, ⟨by omega, ⟨rfl, rfl, rfl, rfl, slotI rfl (by push_cast; rfl), trivial⟩, ?_⟩, by omega⟩
              rw [← laMJ_end ht]
              exact List.Sublist.cons_cons _ (List.Sublist.cons_cons _ (List.nil_sublist _))
    · obtain rfl : i = ts.length := by omega
      refine TC_exit ?_
      refine TC_seq ?_
      refine TC_region ?_
      refine OL_sil rfl rfl rfl (Sil.move rfl rfl) ?_
      refine OL_sil rfl rfl rfl (Sil.move rfl rfl) ?_
      refine OL_sil rfl rfl rfl (Sil.assign rfl rfl) ?_
      refine OL_sil rfl rfl rfl (Sil.assign rfl rfl) ?_
      refine OL_nil ?_
      refine TC_ret ?_
      exact ret2h rfl rfl rfl (List.Sublist.refl _) ⟨mb, ml, rfl, rfl⟩
end Go.Proofs.Ytjnopbmanhialaa
