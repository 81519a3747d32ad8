/-
  Walks: who wrote what; is it a last write; is the history too long.
-/
import Derived.Test.YtjnopbmanhialaaHfW
namespace Go.Proofs.Ytjnopbmanhialaa
open Go.Cru

theorem big8_gives (es : List RcD) (a : Option Addr) (cap : Nat) (w0 : World) (hx : RcsAt w0 a es) :
    Gives Try.prog 16 [.slice a es.length cap] w0 [] fun v h => ∃ b : Bool, v = .bool b ∧ (b = false → es.length ≤ 120 ∧ ∀ e ∈ es, e.ops.length ≤ 12) ∧ h = [] := by
  refine gives_of Try.func16 rfl rfl rfl (Own.start w0) ?_
  refine TC_seq ?_
  refine TC_region ?_
  refine OL_sil rfl rfl rfl (Sil.assign rfl rfl) ?_
  refine OL_nil ?_
  refine TC_seq ?_
  refine TC_seq ?_
  refine TC_region ?_
  refine OL_sil rfl rfl rfl (Sil.move rfl rfl) ?_
  refine OL_sil rfl rfl rfl (Sil.lenSl rfl rfl Try.underlying22) ?_
  refine OL_sil rfl rfl rfl (Sil.gtr rfl rfl rfl) ?_
  refine OL_nil ?_
  refine TC_if rfl (fun ht7 => ?_) (fun ht7 => ?_)
  · refine TC_seq ?_
    refine TC_region ?_
    refine OL_sil rfl rfl rfl (Sil.assign rfl rfl) ?_
    refine OL_nil ?_
    refine TC_ret ?_
    exact ret1 rfl rfl ⟨true, rfl, (fun h => by cases h), rfl⟩
  · refine TC_skip ?_
    refine TC_seq ?_
    refine TC_seq ?_
    refine TC_region ?_
    refine OL_sil rfl rfl rfl (Sil.move rfl rfl) ?_
    refine OL_sil rfl rfl rfl (Sil.lenSl rfl rfl Try.underlying22) ?_
    refine OL_sil rfl rfl rfl (Sil.move rfl rfl) ?_
    refine OL_nil ?_
    refine TC_block ?_
    refine TC_loop (fun i : Nat => [(8, .slice a es.length cap), (9, .int .i64 es.length), (10, .int .i64 i)]) (fun _ => []) (fun i => i ≤ es.length ∧ ∀ j e, j < i → es[j]? = some e → e.ops.length ≤ 12) (fun i => es.length - i) 0 ?_ ?_
    · exact ⟨⟨Nat.zero_le _, fun j e h => absurd h (by omega)⟩, ⟨rfl, rfl, rfl, trivial⟩, List.Sublist.refl _⟩
    · intro i hi
      refine TC_seq ?_
      refine TC_region ?_
      refine OL_sil rfl rfl rfl (Sil.lss rfl rfl rfl) ?_
      refine OL_nil ?_
      refine TC_seq ?_
      refine TC_if rfl (fun ht11 => ?_) (fun ht11 => ?_)
      · obtain ⟨e, he⟩ := nthSome ht11
        obtain ⟨x, u, rfl, hcx, a1, c1, rfl, hu⟩ := hx.2 i e he
        refine TC_skip ?_
        refine TC_seq ?_
        refine TC_block ?_
        refine TC_seq ?_
        refine TC_region ?_
        refine OL_sil rfl rfl rfl (Sil.indexSl i rfl rfl rfl Try.underlying22 rfl rfl (by omega)) ?_
        refine OL_sil rfl rfl rfl (Sil.oldS rfl rfl hcx Try.underlying58 rfl rfl rfl) ?_
        refine OL_loud rfl rfl rfl (LO.alloc rfl rfl) ?_
        rintro _ _ ⟨b4, _, rfl, rfl⟩
        refine OL_loud0 rfl rfl (by first | exact LO.storeAllV rfl rfl rfl (by first | exact at0 | exact at1 | exact at2 | exact at3 | exact at4 | exact at5 | exact at6 | exact at7 | exact at8 | exact at9 | exact at10 | exact at11 | exact at12 | exact at13 | exact at14 | exact at15) (by rfl) (by rfl) (by rfl) (by rfl) | exact LO.store1V rfl rfl rfl (by first | exact at0 | exact at1 | exact at2 | exact at3 | exact at4 | exact at5 | exact at6 | exact at7 | exact at8 | exact at9 | exact at10 | exact at11 | exact at12 | exact at13 | exact at14 | exact at15) (by rfl) (by rfl) (by rfl)) ?_
        rintro _ _ ⟨rfl, rfl⟩
        refine OL_nil ?_
        refine TC_seq ?_
        refine TC_region ?_
        refine OL_sil rfl rfl rfl (Sil.fieldLoc 2 rfl rfl Try.underlying58 rfl rfl) ?_
        refine OL_sil rfl rfl rfl (by exact Sil.ownV rfl rfl (by first | exact at0 | exact at1 | exact at2 | exact at3 | exact at4 | exact at5 | exact at6 | exact at7 | exact at8 | exact at9 | exact at10 | exact at11 | exact at12 | exact at13 | exact at14 | exact at15) Try.underlying41 rfl (by rfl)) ?_
        refine OL_sil rfl rfl rfl (Sil.lenSl rfl rfl Try.underlying41) ?_
        refine OL_sil rfl rfl rfl (Sil.gtr rfl rfl rfl) ?_
        refine OL_nil ?_
        refine TC_if rfl (fun ht17 => ?_) (fun ht17 => ?_)
        · refine TC_seq ?_
          refine TC_region ?_
          refine OL_sil rfl rfl rfl (Sil.assign rfl rfl) ?_
          refine OL_nil ?_
          refine TC_ret ?_
          exact ret1 rfl rfl ⟨true, rfl, (fun h => by cases h), rfl⟩
        · refine TC_skip ?_
          refine TC_region ?_
          refine OL_sil rfl rfl rfl (Sil.add rfl rfl rfl (by omega) (by omega)) ?_
          refine OL_sil rfl rfl rfl (Sil.move rfl rfl) ?_
          refine OL_nil ?_
          exact ⟨i + 1, ⟨⟨by omega, fun j e' hj he' => by
            by_cases e2 : j = i
            · subst e2; rw [he] at he'; cases he'; omega
            · exact hi.2 j e' (by omega) he'⟩, ⟨rfl, rfl, rfl, trivial⟩, List.nil_sublist _⟩, by omega⟩
      · have hall : ∀ e ∈ es, e.ops.length ≤ 12 := fun e he => by obtain ⟨j, hj⟩ := List.mem_iff_getElem?.1 he; exact hi.2 j e (by have := ltOf hj; omega) hj
        refine TC_exit ?_
        refine TC_seq ?_
        refine TC_region ?_
        refine OL_sil rfl rfl rfl (Sil.assign rfl rfl) ?_
        refine OL_nil ?_
        refine TC_ret ?_
        exact ret1 rfl rfl ⟨false, rfl, (fun _ => ⟨by omega, hall⟩), rfl⟩

theorem Source_gives (ts : List RcD) (a : Option Addr) (cap : Nat) (key val : Int) (w0 : World) (hx : RcsAt w0 a ts) (hn : ts.length ≤ 1000) (hb : ∀ t ∈ ts, t.ops.length ≤ 1000) :
    Gives Try.prog 22 [.slice a ts.length cap, .int .i64 key, .int .i64 val] w0 [] fun v h => v = (if val = 0 then .tuple #[.int .i64 (-1), .bool true] else .tuple #[.int .i64 (max (byI ts (key, val)) 0), .bool (decide (0 ≤ byI ts (key, val)))]) ∧ h = [] := by
  refine gives_of Try.func22 rfl rfl rfl (Own.start w0) ?_
  refine TC_seq ?_
  refine TC_region ?_
  refine OL_sil rfl rfl rfl (Sil.assign rfl rfl) ?_
  refine OL_sil rfl rfl rfl (Sil.assign rfl rfl) ?_
  refine OL_nil ?_
  refine TC_seq ?_
  refine TC_seq ?_
  refine TC_region ?_
  refine OL_sil rfl rfl rfl (Sil.move rfl rfl) ?_
  refine OL_sil rfl rfl rfl (Sil.eql rfl rfl rfl) ?_
  refine OL_nil ?_
  refine TC_if rfl (fun ht13 => ?_) (fun ht13 => ?_)
  · refine TC_seq ?_
    refine TC_region ?_
    refine OL_sil rfl rfl rfl (Sil.assign rfl rfl) ?_
    refine OL_sil rfl rfl rfl (Sil.assign rfl rfl) ?_
    refine OL_nil ?_
    refine TC_ret ?_
    exact ret2 rfl rfl rfl ⟨(if_pos ht13).symm, rfl⟩
  · refine TC_skip ?_
    refine TC_seq ?_
    refine TC_region ?_
    refine OL_sil rfl rfl rfl (Sil.move rfl rfl) ?_
    refine OL_loud rfl rfl rfl (LO.calls rfl ent40 rfl (fun w hw => writers_gives ts a cap w (hx.keep hw.keep) hn hb)) ?_
    rintro _ _ ⟨_, ⟨mb, ml, rfl, rfl⟩, rfl⟩
    refine OL_sil rfl rfl rfl (Sil.move rfl rfl) ?_
    refine OL_sil rfl rfl rfl (Sil.extract rfl rfl rfl) ?_
    refine OL_sil rfl rfl rfl (Sil.extract rfl rfl rfl) ?_
    refine OL_sil rfl rfl rfl (Sil.assign rfl rfl) ?_
    refine OL_sil rfl rfl rfl (Sil.assign rfl rfl) ?_
    refine OL_nil ?_
    refine TC_seq ?_
    refine TC_region ?_
    refine OL_sil rfl rfl rfl (Sil.move rfl rfl) ?_
    refine OL_sil rfl rfl rfl (Sil.move rfl rfl) ?_
    refine OL_sil rfl rfl rfl (Sil.move rfl rfl) ?_
    refine OL_sil rfl rfl rfl (Sil.buildS (vs := [(0, .int .i64 key), (1, .int .i64 val)]) (cs := (iv [key, val]).toArray) (ss := [1, 1]) rfl rfl Try.underlying73 rfl rfl rfl) ?_
    refine OL_sil rfl rfl rfl (Sil.lookup2 0 (key, val) (pair_row srPl) rfl rfl rfl rfl Try.underlying68 rfl) ?_
    refine OL_slot 24 (v := .tuple #[.int .i64 (max (byI ts (key, val)) 0), .bool (decide (0 ≤ byI ts (key, val)))]) rfl (by_get ts (key, val)) ?_
    refine OL_sil rfl rfl rfl (Sil.move rfl rfl) ?_
    refine OL_sil rfl rfl rfl (Sil.extract rfl rfl rfl) ?_
    refine OL_sil rfl rfl rfl (Sil.extract rfl rfl rfl) ?_
    refine OL_sil rfl rfl rfl (Sil.assign rfl rfl) ?_
    refine OL_sil rfl rfl rfl (Sil.assign rfl rfl) ?_
    refine OL_nil ?_
    refine TC_seq ?_
    refine TC_region ?_
    refine OL_sil rfl rfl rfl (Sil.move rfl rfl) ?_
    refine OL_sil rfl rfl rfl (Sil.move rfl rfl) ?_
    refine OL_sil rfl rfl rfl (Sil.assign rfl rfl) ?_
    refine OL_sil rfl rfl rfl (Sil.assign rfl rfl) ?_
    refine OL_nil ?_
    refine TC_ret ?_
    exact ret2 rfl rfl rfl ⟨(if_neg ht13).symm, rfl⟩

/-- Who of the first i wrote p, the first one that did. -/
def wr1 (ts : List RcD) (p : Int × Int) : Nat → Int
  | 0 => -1
  | i + 1 => if 0 ≤ wr1 ts p i then wr1 ts p i else match ts[i]? with
    | some t => if wrHas t.ops t.ops.length p = true then (i : Int) else -1
    | none => -1
theorem wr1_stick {ts : List RcD} {p : Int × Int} {i : Nat} (h : 0 ≤ wr1 ts p i) : ∀ m, i ≤ m → wr1 ts p m = wr1 ts p i
  | 0, hm => by obtain rfl : i = 0 := by omega
                rfl
  | m + 1, hm => by
    by_cases e : i = m + 1
    · rw [e]
    · have ih := wr1_stick h m (by omega)
      rw [wr1, if_pos (by rw [ih]; exact h), ih]
theorem wr1_hit {ts : List RcD} {p : Int × Int} {i : Nat} {t : RcD} (h : wr1 ts p i = -1) (ht : ts[i]? = some t) (hw : wrHas t.ops t.ops.length p = true) : wr1 ts p (i + 1) = i := by
  rw [wr1, h, ht, if_neg (by omega)]
  exact if_pos hw
theorem wr1_miss {ts : List RcD} {p : Int × Int} {i : Nat} {t : RcD} (h : wr1 ts p i = -1) (ht : ts[i]? = some t) (hw : wrHas t.ops t.ops.length p = false) : wr1 ts p (i + 1) = -1 := by
  rw [wr1, h, ht, if_neg (by omega)]
  exact if_neg (by rw [hw]; simp)
theorem wrHas_of {ops : List OpD} {j : Nat} {o : OpD} {p : Int × Int} (ho : ops[j]? = some o) (hk : o.k = 2) (hp : (o.key, o.val) = p) : wrHas ops ops.length p = true := by
  unfold wrHas
  rw [List.take_length, List.any_eq_true]
  exact ⟨o, List.mem_of_getElem? ho, decide_eq_true ⟨hk, hp⟩⟩
theorem laHas_of {ws : List OpD} {j : Nat} {o : OpD} {p : Int × Int} (ho : ws[j]? = some o) (hp : (o.key, o.val) = p) : laHas ws ws.length p = true := by
  unfold laHas
  rw [List.take_length, List.any_eq_true]
  exact ⟨o, List.mem_of_getElem? ho, decide_eq_true hp⟩

theorem Writer_gives (ts : List RcD) (a : Option Addr) (cap : Nat) (key val : Int) (w0 : World) (hx : RcsAt w0 a ts) (hn : ts.length ≤ 1000) (hb : ∀ t ∈ ts, t.ops.length ≤ 1000) :
    Gives Try.prog 23 [.slice a ts.length cap, .int .i64 key, .int .i64 val] w0 [] fun v h => v = .int .i64 (wr1 ts (key, val) ts.length) ∧ h = [] := by
  refine gives_of Try.func23 rfl rfl rfl (Own.start w0) ?_
  refine TC_seq ?_
  refine TC_region ?_
  refine OL_sil rfl rfl rfl (Sil.assign rfl rfl) ?_
  refine OL_nil ?_
  refine TC_seq ?_
  refine TC_seq ?_
  refine TC_region ?_
  refine OL_sil rfl rfl rfl (Sil.move rfl rfl) ?_
  refine OL_sil rfl rfl rfl (Sil.lenSl rfl rfl Try.underlying25) ?_
  refine OL_sil rfl rfl rfl (Sil.move rfl rfl) ?_
  refine OL_nil ?_
  refine TC_block ?_
  refine TC_loop (fun i : Nat => [(0, .slice a ts.length cap), (1, .int .i64 key), (2, .int .i64 val), (10, .slice a ts.length cap), (11, .int .i64 ts.length), (12, .int .i64 i)]) (fun _ => []) (fun i => i ≤ ts.length ∧ wr1 ts (key, val) i = -1) (fun i => ts.length - i) 0 ?_ ?_
  · exact ⟨⟨Nat.zero_le _, rfl⟩, ⟨rfl, rfl, rfl, rfl, rfl, rfl, trivial⟩, List.nil_sublist _⟩
  · intro i hi
    refine TC_seq ?_
    refine TC_region ?_
    refine OL_sil rfl rfl rfl (Sil.lss rfl rfl rfl) ?_
    refine OL_nil ?_
    refine TC_seq ?_
    refine TC_if rfl (fun ht13 => ?_) (fun ht13 => ?_)
    · obtain ⟨t, ht⟩ := nthSome ht13
      have hbt := hb t (List.mem_of_getElem? ht)
      obtain ⟨x, u, rfl, hct, au, cu, rfl, hu⟩ := hx.2 i t ht
      refine TC_skip ?_
      refine TC_seq ?_
      refine TC_block ?_
      refine TC_seq ?_
      refine TC_region ?_
      refine OL_sil rfl rfl rfl (Sil.move rfl rfl) ?_
      refine OL_sil rfl rfl rfl (Sil.assign rfl rfl) ?_
      refine OL_nil ?_
      refine TC_seq ?_
      refine TC_region ?_
      refine OL_sil rfl rfl rfl (Sil.move rfl rfl) ?_
      refine OL_sil rfl rfl rfl (Sil.move rfl rfl) ?_
      refine OL_sil rfl rfl rfl (Sil.indexSl i rfl rfl rfl Try.underlying25 rfl rfl (by omega)) ?_
      refine OL_sil rfl rfl rfl (Sil.fieldAdd 2 rfl rfl Try.underlying43 rfl rfl) ?_
      refine OL_sil rfl rfl rfl (Sil.oldF 2 rfl (by rw [← add_add]; rfl) hct Try.underlying41 rfl rfl) ?_
      refine OL_sil rfl rfl rfl (Sil.lenSl rfl rfl Try.underlying41) ?_
      refine OL_sil rfl rfl rfl (Sil.move rfl rfl) ?_
      refine OL_nil ?_
      refine TC_block ?_
      refine TC_loop (fun j : Nat => [(0, .slice (some x) ts.length cap), (1, .int .i64 key), (2, .int .i64 val), (7, .int .i64 i), (10, .slice (some x) ts.length cap), (11, .int .i64 ts.length), (12, .int .i64 i), (19, .slice au t.ops.length cu), (20, .int .i64 t.ops.length), (21, .int .i64 j)]) (fun _ => []) (fun j => j ≤ t.ops.length ∧ wrHas t.ops j (key, val) = false) (fun j => t.ops.length - j) 0 ?_ ?_
      · exact ⟨⟨Nat.zero_le _, rfl⟩, ⟨rfl, rfl, rfl, rfl, rfl, rfl, rfl, rfl, rfl, rfl, trivial⟩, List.nil_sublist _⟩
      · intro j hj
        refine TC_seq ?_
        refine TC_region ?_
        refine OL_sil rfl rfl rfl (Sil.lss rfl rfl rfl) ?_
        refine OL_nil ?_
        refine TC_seq ?_
        refine TC_if rfl (fun ht22 => ?_) (fun ht22 => ?_)
        · obtain ⟨o, ho⟩ := nthSome ht22
          obtain ⟨y, rfl, hcy⟩ := hu.2 j o ho
          refine TC_skip ?_
          refine TC_seq ?_
          refine TC_block ?_
          refine TC_seq ?_
          refine TC_region ?_
          refine OL_sil rfl rfl rfl (Sil.indexSl j rfl rfl rfl Try.underlying41 rfl rfl (by omega)) ?_
          refine OL_sil rfl rfl rfl (Sil.oldS rfl rfl hcy Try.underlying40 rfl rfl rfl) ?_
          refine OL_loud rfl rfl rfl (LO.alloc rfl rfl) ?_
          rintro _ _ ⟨b9, _, rfl, rfl⟩
          refine OL_loud0 rfl rfl (by first | exact LO.storeAllV rfl rfl rfl (by first | exact at0 | exact at1 | exact at2 | exact at3 | exact at4 | exact at5 | exact at6 | exact at7 | exact at8 | exact at9 | exact at10 | exact at11 | exact at12 | exact at13 | exact at14 | exact at15) (by rfl) (by rfl) (by rfl) (by rfl) | exact LO.store1V rfl rfl rfl (by first | exact at0 | exact at1 | exact at2 | exact at3 | exact at4 | exact at5 | exact at6 | exact at7 | exact at8 | exact at9 | exact at10 | exact at11 | exact at12 | exact at13 | exact at14 | exact at15) (by rfl) (by rfl) (by rfl)) ?_
          rintro _ _ ⟨rfl, rfl⟩
          refine OL_nil ?_
          refine TC_seq ?_
          refine TC_bool 39 (o.k = 2 ∧ o.key = key ∧ o.val = val) ?_ ?_
          · refine TC_region ?_
            refine OL_sil rfl rfl rfl (Sil.fieldLoc 0 rfl rfl Try.underlying40 rfl rfl) ?_
            refine OL_sil rfl rfl rfl (by exact Sil.ownV rfl rfl (by first | exact at0 | exact at1 | exact at2 | exact at3 | exact at4 | exact at5 | exact at6 | exact at7 | exact at8 | exact at9 | exact at10 | exact at11 | exact at12 | exact at13 | exact at14 | exact at15) Try.underlying3 rfl (by rfl)) ?_
            refine OL_sil rfl rfl rfl (Sil.eql rfl rfl rfl) ?_
            refine OL_sil rfl rfl rfl (Sil.move rfl rfl) ?_
            refine OL_dec 28 rfl (fun ht28 => ?_) (fun ht28 => ?_)
            · refine OL_sil rfl rfl rfl (Sil.fieldLoc 1 rfl rfl Try.underlying40 rfl rfl) ?_
              refine OL_sil rfl rfl rfl (by exact Sil.ownV rfl rfl (by first | exact at0 | exact at1 | exact at2 | exact at3 | exact at4 | exact at5 | exact at6 | exact at7 | exact at8 | exact at9 | exact at10 | exact at11 | exact at12 | exact at13 | exact at14 | exact at15) Try.underlying3 rfl (by rfl)) ?_
              refine OL_sil rfl rfl rfl (Sil.move rfl rfl) ?_
              refine OL_sil rfl rfl rfl (Sil.eql rfl rfl rfl) ?_
              refine OL_sil rfl rfl rfl (Sil.pick1 rfl rfl rfl) ?_
              refine OL_sil rfl rfl rfl (Sil.move rfl rfl) ?_
              refine OL_dec 34 rfl (fun ht34 => ?_) (fun ht34 => ?_)
              · refine OL_sil rfl rfl rfl (Sil.fieldLoc 2 rfl rfl Try.underlying40 rfl rfl) ?_
                refine OL_sil rfl rfl rfl (by exact Sil.ownV rfl rfl (by first | exact at0 | exact at1 | exact at2 | exact at3 | exact at4 | exact at5 | exact at6 | exact at7 | exact at8 | exact at9 | exact at10 | exact at11 | exact at12 | exact at13 | exact at14 | exact at15) Try.underlying3 rfl (by rfl)) ?_
                refine OL_sil rfl rfl rfl (Sil.move rfl rfl) ?_
                refine OL_sil rfl rfl rfl (Sil.eql rfl rfl rfl) ?_
                refine OL_sil rfl rfl rfl (Sil.pick1 rfl rfl rfl) ?_
                refine OL_nil ?_
                (refine Cont.then_intro (And.intro (by (repeat' (first | exact trivial | refine ⟨rfl, ?_⟩))) (And.intro ?_ rfl)); first | exact slotV rfl (congrArg Value.bool (decide_eq_true (by omega)).symm) | exact slotV rfl (congrArg Value.bool (decide_eq_false (by omega)).symm) | exact slotV rfl (congrArg Value.bool (decide_eq_decide.2 (by omega))) | exact slotV rfl (congrArg Value.bool (decide_not.symm.trans (decide_eq_decide.2 (by omega)))))
              · refine OL_skip rfl rfl rfl ?_
                refine OL_skip rfl rfl rfl ?_
                refine OL_skip rfl rfl rfl ?_
                refine OL_skip rfl rfl rfl ?_
                refine OL_sil rfl rfl rfl (Sil.pick0 rfl rfl rfl) ?_
                refine OL_nil ?_
                (refine Cont.then_intro (And.intro (by (repeat' (first | exact trivial | refine ⟨rfl, ?_⟩))) (And.intro ?_ rfl)); first | exact slotV rfl (congrArg Value.bool (decide_eq_true (by omega)).symm) | exact slotV rfl (congrArg Value.bool (decide_eq_false (by omega)).symm) | exact slotV rfl (congrArg Value.bool (decide_eq_decide.2 (by omega))) | exact slotV rfl (congrArg Value.bool (decide_not.symm.trans (decide_eq_decide.2 (by omega)))))
            · refine OL_skip rfl rfl rfl ?_
              refine OL_skip rfl rfl rfl ?_
              refine OL_skip rfl rfl rfl ?_
              refine OL_skip rfl rfl rfl ?_
              refine OL_sil rfl rfl rfl (Sil.pick0 rfl rfl rfl) ?_
              refine OL_sil rfl rfl rfl (Sil.move rfl rfl) ?_
              refine OL_skip rfl rfl rfl ?_
              refine OL_skip rfl rfl rfl ?_
              refine OL_skip rfl rfl rfl ?_
              refine OL_skip rfl rfl rfl ?_
              refine OL_sil rfl rfl rfl (Sil.pick0 rfl rfl rfl) ?_
              refine OL_nil ?_
              (refine Cont.then_intro (And.intro (by (repeat' (first | exact trivial | refine ⟨rfl, ?_⟩))) (And.intro ?_ rfl)); first | exact slotV rfl (congrArg Value.bool (decide_eq_true (by omega)).symm) | exact slotV rfl (congrArg Value.bool (decide_eq_false (by omega)).symm) | exact slotV rfl (congrArg Value.bool (decide_eq_decide.2 (by omega))) | exact slotV rfl (congrArg Value.bool (decide_not.symm.trans (decide_eq_decide.2 (by omega)))))
          refine TC_if rfl (fun ht39 => ?_) (fun ht39 => ?_)
          · refine TC_seq ?_
            refine TC_region ?_
            refine OL_sil rfl rfl rfl (Sil.move rfl rfl) ?_
            refine OL_sil rfl rfl rfl (Sil.assign rfl rfl) ?_
            refine OL_nil ?_
            refine TC_ret ?_
            exact ret1 rfl rfl ⟨congrArg _ (by have h1 := wr1_hit hi.2 ht (wrHas_of ho ht39.1 (by rw [ht39.2.1, ht39.2.2])); rw [wr1_stick (i := i + 1) (by rw [h1]; omega) ts.length (by omega), h1]), rfl⟩
          · refine TC_skip ?_
            refine TC_region ?_
            refine OL_sil rfl rfl rfl (Sil.add rfl rfl rfl (by omega) (by omega)) ?_
            refine OL_sil rfl rfl rfl (Sil.move rfl rfl) ?_
            refine OL_nil ?_
            exact ⟨j + 1, ⟨⟨by omega, by rw [wrHas_succ ho, hj.2, Bool.false_or]; exact decide_eq_false (fun hh => ht39 ⟨hh.1, (Prod.mk.inj hh.2).1, (Prod.mk.inj hh.2).2⟩)⟩, ⟨rfl, rfl, rfl, rfl, rfl, rfl, rfl, rfl, rfl, slotI rfl (by push_cast; rfl), trivial⟩, List.nil_sublist _⟩, by omega⟩
        · obtain rfl : j = t.ops.length := by omega
          refine TC_exit ?_
          refine TC_region ?_
          refine OL_sil rfl rfl rfl (Sil.add rfl rfl rfl (by omega) (by omega)) ?_
          refine OL_sil rfl rfl rfl (Sil.move rfl rfl) ?_
          refine OL_nil ?_
          exact ⟨i + 1, ⟨⟨by omega, wr1_miss hi.2 ht hj.2⟩, ⟨rfl, rfl, rfl, rfl, rfl, slotI rfl (by push_cast; rfl), trivial⟩, List.nil_sublist _⟩, by omega⟩
    · obtain rfl : i = ts.length := by omega
      refine TC_exit ?_
      refine TC_seq ?_
      refine TC_region ?_
      refine OL_sil rfl rfl rfl (Sil.assign rfl rfl) ?_
      refine OL_nil ?_
      refine TC_ret ?_
      exact ret1 rfl rfl ⟨congrArg _ hi.2.symm, rfl⟩

theorem final_gives (t : RcD) (u : Value) (key val : Int) (w0 : World) (hu : OpsV w0 u t.ops) (hl : t.ops.length ≤ 1000) :
    Gives Try.prog 41 [.agg (rcC t u).toArray, .int .i64 key, .int .i64 val] w0 [] fun v h => v = .bool (laHas (wrN t.ops 16) (wrN t.ops 16).length (key, val)) ∧ h = [] := by
  have hwl := wrN_len t.ops 16
  refine gives_of Try.func41 rfl rfl rfl (Own.start w0) ?_
  refine TC_seq ?_
  refine TC_region ?_
  refine OL_loud rfl rfl rfl (LO.box rfl rfl) ?_
  rintro _ _ ⟨b3, _, rfl, rfl⟩
  refine OL_sil rfl rfl rfl (Sil.assign rfl rfl) ?_
  refine OL_nil ?_
  refine TC_seq ?_
  refine TC_seq ?_
  refine TC_region ?_
  refine OL_sil rfl rfl rfl (by first | exact Sil.ownV rfl rfl (by first | exact at0 | exact at1 | exact at2 | exact at3 | exact at4 | exact at5 | exact at6 | exact at7 | exact at8 | exact at9 | exact at10 | exact at11 | exact at12 | exact at13 | exact at14 | exact at15) Try.underlying43 rfl (by rfl) | exact Sil.wholeV rfl rfl (by first | exact at0 | exact at1 | exact at2 | exact at3 | exact at4 | exact at5 | exact at6 | exact at7 | exact at8 | exact at9 | exact at10 | exact at11 | exact at12 | exact at13 | exact at14 | exact at15) ⟨Try.underlying43, rfl⟩ rfl (by rfl)) ?_
  refine OL_loud rfl rfl rfl (LO.calls rfl ent34 rfl (fun w hw => refWrites_gives t u w (hu.keep hw.keep) hl)) ?_
  rintro _ _ ⟨_, ⟨aw, cw, rfl, rfl⟩, rfl⟩
  refine OL_sil rfl rfl rfl (Sil.lenSl rfl rfl Try.underlying41) ?_
  refine OL_sil rfl rfl rfl (Sil.move rfl rfl) ?_
  refine OL_nil ?_
  refine TC_block ?_
  refine TC_loop (fun j : Nat => [(1, .int .i64 key), (2, .int .i64 val), (10, .slice aw (wrN t.ops 16).length cw), (11, .int .i64 (wrN t.ops 16).length), (12, .int .i64 j)]) (fun _ => [sq aw (wrN t.ops 16).length cw 40 3 (opsC (wrN t.ops 16))]) (fun j => j ≤ (wrN t.ops 16).length ∧ laHas (wrN t.ops 16) j (key, val) = false) (fun j => (wrN t.ops 16).length - j) 0 ?_ ?_
  · exact ⟨⟨Nat.zero_le _, rfl⟩, ⟨rfl, rfl, rfl, rfl, rfl, trivial⟩, List.Sublist.cons _ (List.Sublist.refl _)⟩
  · intro j hj
    refine TC_seq ?_
    refine TC_region ?_
    refine OL_sil rfl rfl rfl (Sil.lss rfl rfl rfl) ?_
    refine OL_nil ?_
    refine TC_seq ?_
    refine TC_if rfl (fun ht13 => ?_) (fun ht13 => ?_)
    · obtain ⟨o, ho⟩ : ∃ o, (wrN t.ops 16)[j]? = some o := ⟨_, List.getElem?_eq_getElem (by omega)⟩
      refine TC_know (fun w hw => hw.sqSome (i := 0) rfl (by omega)) (fun hsome => ?_)
      obtain ⟨g6, rfl⟩ := hsome
      refine TC_skip ?_
      refine TC_seq ?_
      refine TC_block ?_
      refine TC_seq ?_
      refine TC_region ?_
      refine OL_sil rfl rfl rfl (Sil.indexOwn j rfl rfl rfl Try.underlying41 rfl rfl (by omega)) ?_
      refine OL_sil rfl rfl rfl (Sil.sqLoadN 0 rfl rfl rfl Try.underlying40 rfl rfl rfl (opsC_at ho)) ?_
      refine OL_loud rfl rfl rfl (LO.alloc rfl rfl) ?_
      rintro _ _ ⟨b8, _, rfl, rfl⟩
      refine OL_loud0 rfl rfl (by first | exact LO.storeAllV rfl rfl rfl (by first | exact at0 | exact at1 | exact at2 | exact at3 | exact at4 | exact at5 | exact at6 | exact at7 | exact at8 | exact at9 | exact at10 | exact at11 | exact at12 | exact at13 | exact at14 | exact at15) (by rfl) (by rfl) (by rfl) (by rfl) | exact LO.store1V rfl rfl rfl (by first | exact at0 | exact at1 | exact at2 | exact at3 | exact at4 | exact at5 | exact at6 | exact at7 | exact at8 | exact at9 | exact at10 | exact at11 | exact at12 | exact at13 | exact at14 | exact at15) (by rfl) (by rfl) (by rfl)) ?_
      rintro _ _ ⟨rfl, rfl⟩
      refine OL_nil ?_
      refine TC_seq ?_
      refine TC_bool 25 (o.key = key ∧ o.val = val) ?_ ?_
      · refine TC_region ?_
        refine OL_sil rfl rfl rfl (Sil.fieldLoc 1 rfl rfl Try.underlying40 rfl rfl) ?_
        refine OL_sil rfl rfl rfl (by exact Sil.ownV rfl rfl (by first | exact at0 | exact at1 | exact at2 | exact at3 | exact at4 | exact at5 | exact at6 | exact at7 | exact at8 | exact at9 | exact at10 | exact at11 | exact at12 | exact at13 | exact at14 | exact at15) Try.underlying3 rfl (by rfl)) ?_
        refine OL_sil rfl rfl rfl (Sil.move rfl rfl) ?_
        refine OL_sil rfl rfl rfl (Sil.eql rfl rfl rfl) ?_
        refine OL_sil rfl rfl rfl (Sil.move rfl rfl) ?_
        refine OL_dec 20 rfl (fun ht20 => ?_) (fun ht20 => ?_)
        · refine OL_sil rfl rfl rfl (Sil.fieldLoc 2 rfl rfl Try.underlying40 rfl rfl) ?_
          refine OL_sil rfl rfl rfl (by exact Sil.ownV rfl rfl (by first | exact at0 | exact at1 | exact at2 | exact at3 | exact at4 | exact at5 | exact at6 | exact at7 | exact at8 | exact at9 | exact at10 | exact at11 | exact at12 | exact at13 | exact at14 | exact at15) Try.underlying3 rfl (by rfl)) ?_
          refine OL_sil rfl rfl rfl (Sil.move rfl rfl) ?_
          refine OL_sil rfl rfl rfl (Sil.eql rfl rfl rfl) ?_
          refine OL_sil rfl rfl rfl (Sil.pick1 rfl rfl rfl) ?_
          refine OL_nil ?_
          (refine Cont.then_intro (And.intro (by (repeat' (first | exact trivial | refine ⟨rfl, ?_⟩))) (And.intro ?_ rfl)); first | exact slotV rfl (congrArg Value.bool (decide_eq_true (by omega)).symm) | exact slotV rfl (congrArg Value.bool (decide_eq_false (by omega)).symm) | exact slotV rfl (congrArg Value.bool (decide_eq_decide.2 (by omega))) | exact slotV rfl (congrArg Value.bool (decide_not.symm.trans (decide_eq_decide.2 (by omega)))))
        · refine OL_skip rfl rfl rfl ?_
          refine OL_skip rfl rfl rfl ?_
          refine OL_skip rfl rfl rfl ?_
          refine OL_skip rfl rfl rfl ?_
          refine OL_sil rfl rfl rfl (Sil.pick0 rfl rfl rfl) ?_
          refine OL_nil ?_
          (refine Cont.then_intro (And.intro (by (repeat' (first | exact trivial | refine ⟨rfl, ?_⟩))) (And.intro ?_ rfl)); first | exact slotV rfl (congrArg Value.bool (decide_eq_true (by omega)).symm) | exact slotV rfl (congrArg Value.bool (decide_eq_false (by omega)).symm) | exact slotV rfl (congrArg Value.bool (decide_eq_decide.2 (by omega))) | exact slotV rfl (congrArg Value.bool (decide_not.symm.trans (decide_eq_decide.2 (by omega)))))
      refine TC_if rfl (fun ht25 => ?_) (fun ht25 => ?_)
      · refine TC_seq ?_
        refine TC_region ?_
        refine OL_sil rfl rfl rfl (Sil.assign rfl rfl) ?_
        refine OL_nil ?_
        refine TC_ret ?_
        exact ret1 rfl rfl ⟨congrArg Value.bool (laHas_of ho (by rw [ht25.1, ht25.2])).symm, rfl⟩
      · refine TC_skip ?_
        refine TC_region ?_
        refine OL_sil rfl rfl rfl (Sil.add rfl rfl rfl (by omega) (by omega)) ?_
        refine OL_sil rfl rfl rfl (Sil.move rfl rfl) ?_
        refine OL_nil ?_
        exact ⟨j + 1, ⟨⟨by omega, by rw [laHas_succ ho, hj.2, Bool.false_or]; exact decide_eq_false (fun hh => ht25 ⟨(Prod.mk.inj hh).1, (Prod.mk.inj hh).2⟩)⟩, ⟨rfl, rfl, rfl, rfl, slotI rfl (by push_cast; rfl), trivial⟩, List.Sublist.cons_cons _ (List.nil_sublist _)⟩, by omega⟩
    · obtain rfl : j = (wrN t.ops 16).length := by omega
      refine TC_exit ?_
      refine TC_seq ?_
      refine TC_region ?_
      refine OL_sil rfl rfl rfl (Sil.assign rfl rfl) ?_
      refine OL_nil ?_
      refine TC_ret ?_
      exact ret1 rfl rfl ⟨congrArg Value.bool hj.2.symm, rfl⟩
end Go.Proofs.Ytjnopbmanhialaa
