/-
  Walk: flaws.All.
-/
import Derived.Test.YtjnopbmanhialaaHfU
namespace Go.Proofs.Ytjnopbmanhialaa
open Go.Cru

theorem elFl : El Try.prog 28 33 (.agg #[.int .i64 0, .int .i64 0, .int .i64 0]) 3 24 := ⟨Try.underlying28, rfl, rfl, by decide⟩
def byI (ts : List RcD) (p : Int × Int) : Int := match byN ts ts.length p with
  | some w => (w : Int)
  | none => -1
theorem byN_lt (ts : List RcD) (p : Int × Int) : ∀ (i w : Nat), byN ts i p = some w → w < i ∧ ∃ t, ts[w]? = some t ∧ wrHas t.ops t.ops.length p = true
  | 0, w, h => by cases h
  | i + 1, w, h => by
    cases ht : ts[i]? with
    | none => rw [byN, ht] at h; obtain ⟨h1, h2⟩ := byN_lt ts p i w h; exact ⟨by omega, h2⟩
    | some t =>
      rw [byN, ht] at h
      simp only at h
      split at h
      · rename_i hh; cases h; exact ⟨by omega, t, ht, hh⟩
      · obtain ⟨h1, h2⟩ := byN_lt ts p i w h; exact ⟨by omega, h2⟩
theorem byI_lt (ts : List RcD) (p : Int × Int) : -1 ≤ byI ts p ∧ byI ts p < ts.length := by
  unfold byI
  cases h : byN ts ts.length p with
  | none => simp only; omega
  | some w => have := (byN_lt ts p _ w h).1; simp only; omega
theorem by_get (ts : List RcD) (p : Int × Int) : Value.tuple #[(byM ts ts.length p).getD (.int .i64 0), .bool (byM ts ts.length p).isSome] = .tuple #[.int .i64 (max (byI ts p) 0), .bool (decide (0 ≤ byI ts p))] := by
  unfold byM byI
  cases byN ts ts.length p with
  | none => rfl
  | some w =>
    have h1 : max (w : Int) 0 = w := by omega
    have h2 : decide (0 ≤ (w : Int)) = true := decide_eq_true (by omega)
    simp only [h1, h2]
    rfl
/-- What is wrong with the read o of transaction i, when wi wrote what it read, and la says whether that was a last write. -/
def kindG (ts : List RcD) (i : Nat) (o : OpD) (wi : Int) (la : Bool) : Int :=
  if o.val = 0 then 0 else if wi < 0 ∨ wi = i then 1 else if (ts[wi.toNat]?).map RcD.q = some 2 then 2 else if la = true then 0 else 3
theorem kindG_0 {ts : List RcD} {i : Nat} {o : OpD} {wi : Int} {la : Bool} (h : o.val = 0) : kindG ts i o wi la = 0 := if_pos h
theorem kindG_1 {ts : List RcD} {i : Nat} {o : OpD} {wi : Int} {la : Bool} (h : ¬ o.val = 0) (h1 : wi < 0 ∨ wi = i) : kindG ts i o wi la = 1 := by rw [kindG, if_neg h, if_pos h1]
theorem kindG_2 {ts : List RcD} {i : Nat} {o : OpD} {wi : Int} {la : Bool} {t : RcD} (h : ¬ o.val = 0) (h1 : ¬ (wi < 0 ∨ wi = i)) (ht : ts[wi.toNat]? = some t) (h2 : t.q = 2) : kindG ts i o wi la = 2 := by rw [kindG, if_neg h, if_neg h1, ht, if_pos (by simp [h2])]
theorem kindG_3 {ts : List RcD} {i : Nat} {o : OpD} {wi : Int} {la : Bool} {t : RcD} (h : ¬ o.val = 0) (h1 : ¬ (wi < 0 ∨ wi = i)) (ht : ts[wi.toNat]? = some t) (h2 : ¬ t.q = 2) : kindG ts i o wi la = if la = true then 0 else 3 := by rw [kindG, if_neg h, if_neg h1, ht, if_neg (by simp [h2])]
/-- The flaws among the first k reads of transaction i: each (transaction, read, kind). -/
def flR (f : OpD → Int) (i : Nat) (rs : List OpD) : Nat → List OpD
  | 0 => []
  | k + 1 => match rs[k]? with
    | some o => if f o = 0 then flR f i rs k else flR f i rs k ++ [⟨i, k, f o⟩]
    | none => flR f i rs k
theorem flR_put {f : OpD → Int} {i : Nat} {rs : List OpD} {k : Nat} {o : OpD} {c : Int} (ho : rs[k]? = some o) (h : f o = c) (hc : c ≠ 0) : flR f i rs (k + 1) = flR f i rs k ++ [⟨i, k, c⟩] := by
  rw [flR, ho]
  simp only [h]
  rw [if_neg hc]
theorem flR_stay {f : OpD → Int} {i : Nat} {rs : List OpD} {k : Nat} {o : OpD} (ho : rs[k]? = some o) (h : f o = 0) : flR f i rs (k + 1) = flR f i rs k := by
  rw [flR, ho]
  exact if_pos h
theorem flR_len (f : OpD → Int) (i : Nat) (rs : List OpD) : ∀ k, (flR f i rs k).length ≤ k
  | 0 => Nat.le_refl _
  | k + 1 => by
    have := flR_len f i rs k
    rw [flR]
    split
    · split
      · omega
      · rw [List.length_append]; simp; omega
    · omega
def flN (kf : Nat → OpD → Int) (ts : List RcD) : Nat → List OpD
  | 0 => []
  | i + 1 => match ts[i]? with
    | some t => flN kf ts i ++ flR (kf i) i (rdF t) (rdF t).length
    | none => flN kf ts i
theorem flN_succ {kf : Nat → OpD → Int} {ts : List RcD} {i : Nat} {t : RcD} (ht : ts[i]? = some t) : flN kf ts (i + 1) = flN kf ts i ++ flR (kf i) i (rdF t) (rdF t).length := by rw [flN, ht]
theorem rdF_len (t : RcD) : (rdF t).length ≤ t.ops.length := by
  unfold rdF
  split
  · exact rdN_len _ _
  · exact Nat.zero_le _
theorem flN_len {kf : Nat → OpD → Int} {ts : List RcD} (hb : ∀ t ∈ ts, t.ops.length ≤ 1000) : ∀ i, (flN kf ts i).length ≤ i * 1000
  | 0 => Nat.zero_le _
  | i + 1 => by
    have := flN_len (kf := kf) hb i
    cases ht : ts[i]? with
    | none => rw [flN, ht]; exact Nat.le_trans this (Nat.mul_le_mul_right 1000 (Nat.le_succ i))
    | some t =>
      rw [flN_succ ht, List.length_append]
      have h1 := flR_len (kf i) i (rdF t) (rdF t).length
      have h2 := rdF_len t
      have h3 := hb t (List.mem_of_getElem? ht)
      omega
def kindA (ts : List RcD) (i : Nat) (o : OpD) : Int := kindG ts i o (byI ts (o.key, o.val)) (laN ts ts.length (o.key, o.val))

theorem All_gives (ts : List RcD) (a : Option Addr) (cap : Nat) (w0 : World) (hx : RcsAt w0 a ts) (hn : ts.length ≤ 1000) (hb : ∀ t ∈ ts, t.ops.length ≤ 1000) :
    Gives Try.prog 18 [.slice a ts.length cap] w0 [] fun v h => ∃ ao cp, v = .slice ao (flN (kindA ts) ts ts.length).length cp ∧ h = [sq ao (flN (kindA ts) ts ts.length).length cp 33 3 (opsC (flN (kindA ts) ts ts.length))] := by
  refine gives_of Try.func18 rfl rfl rfl (Own.start w0) ?_
  refine TC_seq ?_
  refine TC_region ?_
  refine OL_sil rfl rfl rfl (Sil.assign rfl rfl) ?_
  refine OL_nil ?_
  refine TC_seq ?_
  refine TC_region ?_
  refine OL_sil rfl rfl rfl (Sil.move rfl rfl) ?_
  refine OL_loud rfl rfl rfl (LO.calls rfl ent40 rfl (fun w hw => writers_gives ts a cap w (hx.keep hw.keep) hn hb)) ?_
  rintro _ _ ⟨_, ⟨mb, ml, rfl, rfl⟩, rfl⟩
  refine OL_sil rfl rfl rfl (Sil.move rfl rfl) ?_
  refine OL_sil rfl rfl rfl (Sil.extract rfl rfl rfl) ?_
  refine OL_sil rfl rfl rfl (Sil.extract rfl rfl rfl) ?_
  refine OL_sil rfl rfl rfl (Sil.assign rfl rfl) ?_
  refine OL_sil rfl rfl rfl (Sil.assign rfl rfl) ?_
  refine OL_nil ?_
  refine TC_seq ?_
  refine TC_region ?_
  refine OL_sil rfl rfl rfl (Sil.assign rfl rfl) ?_
  refine OL_nil ?_
  refine TC_own (fun w hw => hw.nil 33 3) ?_
  refine TC_seq ?_
  refine TC_seq ?_
  refine TC_region ?_
  refine OL_sil rfl rfl rfl (Sil.move rfl rfl) ?_
  refine OL_sil rfl rfl rfl (Sil.lenSl rfl rfl Try.underlying25) ?_
  refine OL_sil rfl rfl rfl (Sil.move rfl rfl) ?_
  refine OL_nil ?_
  refine TC_block ?_
  refine TC_loop (fun (x : Nat × List OpD × Option Addr × Nat) => [(0, .slice a ts.length cap), (3, .map (some mb)), (4, .map (some ml)), (5, .slice x.2.2.1 x.2.1.length x.2.2.2), (18, .slice a ts.length cap), (19, .int .i64 ts.length), (20, .int .i64 x.1)]) (fun x => [mpR pairK mb (byM ts ts.length), mpR pairK ml (laM ts ts.length), sq x.2.2.1 x.2.1.length x.2.2.2 33 3 (opsC x.2.1)]) (fun x => x.1 ≤ ts.length ∧ x.2.1 = flN (kindA ts) ts x.1) (fun x => ts.length - x.1) (0, [], none, 0) ?_ ?_
  · exact ⟨⟨Nat.zero_le _, rfl⟩, ⟨rfl, rfl, rfl, rfl, rfl, rfl, rfl, trivial⟩, List.Sublist.refl _⟩
  · rintro ⟨i, out0, ao0, cap0⟩ ⟨hi, hout0⟩
    replace hi : i ≤ ts.length := hi
    replace hout0 : out0 = flN (kindA ts) ts i := hout0
    refine TC_seq ?_
    refine TC_region ?_
    refine OL_sil rfl rfl rfl (Sil.lss rfl rfl rfl) ?_
    refine OL_nil ?_
    refine TC_seq ?_
    refine TC_if rfl (fun ht21 => ?_) (fun ht21 => ?_)
    · obtain ⟨t, ht⟩ := nthSome ht21
      have hbt := hb t (List.mem_of_getElem? ht)
      obtain ⟨x, u, rfl, hct, au, cu, rfl, hu⟩ := hx.2 i t ht
      have hrl := rdF_len t
      have hfl := flN_len (kf := kindA ts) hb i
      refine TC_skip ?_
      refine TC_seq ?_
      refine TC_block ?_
      refine TC_seq ?_
      refine TC_region ?_
      refine OL_sil rfl rfl rfl (Sil.move rfl rfl) ?_
      refine OL_sil rfl rfl rfl (Sil.indexSl i rfl rfl rfl Try.underlying25 rfl rfl (by omega)) ?_
      refine OL_sil rfl rfl rfl (Sil.oldS rfl rfl hct Try.underlying43 rfl rfl rfl) ?_
      refine OL_loud rfl rfl rfl (LO.alloc rfl rfl) ?_
      rintro _ _ ⟨b7, _, rfl, rfl⟩
      refine OL_sil rfl rfl rfl (Sil.assign rfl rfl) ?_
      refine OL_loud0 rfl rfl (by first | exact LO.storeAllV rfl rfl rfl (by first | exact at0 | exact at1 | exact at2 | exact at3 | exact at4 | exact at5 | exact at6 | exact at7 | exact at8 | exact at9 | exact at10 | exact at11 | exact at12 | exact at13 | exact at14 | exact at15) (by rfl) (by rfl) (by rfl) (by rfl) | exact LO.store1V rfl rfl rfl (by first | exact at0 | exact at1 | exact at2 | exact at3 | exact at4 | exact at5 | exact at6 | exact at7 | exact at8 | exact at9 | exact at10 | exact at11 | exact at12 | exact at13 | exact at14 | exact at15) (by rfl) (by rfl) (by rfl)) ?_
      rintro _ _ ⟨rfl, rfl⟩
      refine OL_nil ?_
      refine TC_seq ?_
      refine TC_region ?_
      refine OL_sil rfl rfl rfl (by first | exact Sil.ownV rfl rfl (by first | exact at0 | exact at1 | exact at2 | exact at3 | exact at4 | exact at5 | exact at6 | exact at7 | exact at8 | exact at9 | exact at10 | exact at11 | exact at12 | exact at13 | exact at14 | exact at15) Try.underlying43 rfl (by rfl) | exact Sil.wholeV rfl rfl (by first | exact at0 | exact at1 | exact at2 | exact at3 | exact at4 | exact at5 | exact at6 | exact at7 | exact at8 | exact at9 | exact at10 | exact at11 | exact at12 | exact at13 | exact at14 | exact at15) ⟨Try.underlying43, rfl⟩ rfl (by rfl)) ?_
      refine OL_loud rfl rfl rfl (LO.calls rfl ent31 rfl (fun w hw => Reads_gives t (.slice au t.ops.length cu) w ⟨au, cu, rfl, hu.keep hw.keep⟩ (by omega))) ?_
      rintro _ _ ⟨_, ⟨ar, cr, rfl, rfl⟩, rfl⟩
      refine OL_sil rfl rfl rfl (Sil.lenSl rfl rfl Try.underlying41) ?_
      refine OL_sil rfl rfl rfl (Sil.move rfl rfl) ?_
      refine OL_nil ?_
      refine TC_block ?_
      refine TC_loop (fun (x' : Nat × List OpD × Option Addr × Nat) => [(0, .slice (some x) ts.length cap), (3, .map (some mb)), (4, .map (some ml)), (5, .slice x'.2.2.1 x'.2.1.length x'.2.2.2), (6, .int .i64 i), (18, .slice (some x) ts.length cap), (19, .int .i64 ts.length), (20, .int .i64 i), (26, .slice ar (rdF t).length cr), (27, .int .i64 (rdF t).length), (28, .int .i64 x'.1)]) (fun x' => [mpR pairK mb (byM ts ts.length), mpR pairK ml (laM ts ts.length), sq x'.2.2.1 x'.2.1.length x'.2.2.2 33 3 (opsC x'.2.1), sq ar (rdF t).length cr 40 3 (opsC (rdF t))]) (fun x' => x'.1 ≤ (rdF t).length ∧ x'.2.1 = flN (kindA ts) ts i ++ flR (kindA ts i) i (rdF t) x'.1) (fun x' => (rdF t).length - x'.1) (0, out0, ao0, cap0) ?_ ?_
      · exact ⟨⟨Nat.zero_le _, by show out0 = _; rw [hout0, flR, List.append_nil]⟩, ⟨rfl, rfl, rfl, rfl, rfl, rfl, rfl, rfl, rfl, rfl, rfl, trivial⟩, List.Sublist.cons_cons _ (List.Sublist.cons_cons _ (List.Sublist.cons_cons _ (List.Sublist.cons _ (List.Sublist.refl _))))⟩
      · rintro ⟨k, out, ao, cap1⟩ ⟨hk, hout⟩
        replace hk : k ≤ (rdF t).length := hk
        replace hout : out = flN (kindA ts) ts i ++ flR (kindA ts i) i (rdF t) k := hout
        have hol : ((k, out, ao, cap1) : Nat × List OpD × Option Addr × Nat).2.1.length ≤ i * 1000 + k := by
          show out.length ≤ _
          rw [hout, List.length_append]
          have := flR_len (kindA ts i) i (rdF t) k
          omega
        refine TC_seq ?_
        refine TC_region ?_
        refine OL_sil rfl rfl rfl (Sil.lss rfl rfl rfl) ?_
        refine OL_nil ?_
        refine TC_seq ?_
        refine TC_if rfl (fun ht29 => ?_) (fun ht29 => ?_)
        · obtain ⟨o, hr⟩ : ∃ o, (rdF t)[k]? = some o := ⟨_, List.getElem?_eq_getElem (by omega)⟩
          obtain ⟨hw1, hw2⟩ := byI_lt ts (o.key, o.val)
          refine TC_know (fun w hw => hw.sqSome (i := 3) rfl (by omega)) (fun hsome => ?_)
          obtain ⟨g6, rfl⟩ := hsome
          refine TC_skip ?_
          refine TC_seq ?_
          refine TC_block ?_
          refine TC_seq ?_
          refine TC_region ?_
          refine OL_sil rfl rfl rfl (Sil.move rfl rfl) ?_
          refine OL_sil rfl rfl rfl (Sil.indexOwn k rfl rfl rfl Try.underlying41 rfl rfl (by omega)) ?_
          refine OL_sil rfl rfl rfl (Sil.sqLoadN 3 rfl rfl rfl Try.underlying40 rfl rfl rfl (opsC_at hr)) ?_
          refine OL_loud rfl rfl rfl (LO.alloc rfl rfl) ?_
          rintro _ _ ⟨b9, _, rfl, rfl⟩
          refine OL_sil rfl rfl rfl (Sil.assign rfl rfl) ?_
          refine OL_loud0 rfl rfl (by first | exact LO.storeAllV rfl rfl rfl (by first | exact at0 | exact at1 | exact at2 | exact at3 | exact at4 | exact at5 | exact at6 | exact at7 | exact at8 | exact at9 | exact at10 | exact at11 | exact at12 | exact at13 | exact at14 | exact at15) (by rfl) (by rfl) (by rfl) (by rfl) | exact LO.store1V rfl rfl rfl (by first | exact at0 | exact at1 | exact at2 | exact at3 | exact at4 | exact at5 | exact at6 | exact at7 | exact at8 | exact at9 | exact at10 | exact at11 | exact at12 | exact at13 | exact at14 | exact at15) (by rfl) (by rfl) (by rfl)) ?_
          rintro _ _ ⟨rfl, rfl⟩
          refine OL_nil ?_
          refine TC_seq ?_
          refine TC_seq ?_
          refine TC_region ?_
          refine OL_sil rfl rfl rfl (Sil.fieldLoc 2 rfl rfl Try.underlying40 rfl rfl) ?_
          refine OL_sil rfl rfl rfl (by exact Sil.ownV rfl rfl (by first | exact at0 | exact at1 | exact at2 | exact at3 | exact at4 | exact at5 | exact at6 | exact at7 | exact at8 | exact at9 | exact at10 | exact at11 | exact at12 | exact at13 | exact at14 | exact at15) Try.underlying3 rfl (by rfl)) ?_
          refine OL_sil rfl rfl rfl (Sil.eql rfl rfl rfl) ?_
          refine OL_nil ?_
          refine TC_if rfl (fun ht35 => ?_) (fun ht35 => ?_)
          · refine TC_exit ?_
            refine TC_region ?_
            refine OL_sil rfl rfl rfl (Sil.add rfl rfl rfl (by omega) (by omega)) ?_
            refine OL_sil rfl rfl rfl (Sil.move rfl rfl) ?_
            refine OL_nil ?_
            have hk : kindA ts i o = 0 := kindG_0 ht35
            have hno := flR_stay (f := kindA ts i) (i := i) hr hk
            exact ⟨(k + 1, out, ao, cap1), ⟨⟨by show k + 1 ≤ (rdF t).length; omega, by show out = _; rw [hno]; exact hout⟩, ⟨rfl, rfl, rfl, rfl, rfl, rfl, rfl, rfl, rfl, rfl, slotI rfl (by push_cast; rfl), trivial⟩, List.Sublist.cons_cons _ (List.Sublist.cons_cons _ (List.Sublist.cons_cons _ (List.Sublist.cons_cons _ (List.nil_sublist _))))⟩, by show (rdF t).length - (k + 1) < (rdF t).length - k; omega⟩
          · refine TC_skip ?_
            refine TC_seq ?_
            refine TC_region ?_
            refine OL_sil rfl rfl rfl (Sil.fieldLoc 1 rfl rfl Try.underlying40 rfl rfl) ?_
            refine OL_sil rfl rfl rfl (by exact Sil.ownV rfl rfl (by first | exact at0 | exact at1 | exact at2 | exact at3 | exact at4 | exact at5 | exact at6 | exact at7 | exact at8 | exact at9 | exact at10 | exact at11 | exact at12 | exact at13 | exact at14 | exact at15) Try.underlying3 rfl (by rfl)) ?_
            refine OL_sil rfl rfl rfl (Sil.fieldLoc 2 rfl rfl Try.underlying40 rfl rfl) ?_
            refine OL_sil rfl rfl rfl (by exact Sil.ownV rfl rfl (by first | exact at0 | exact at1 | exact at2 | exact at3 | exact at4 | exact at5 | exact at6 | exact at7 | exact at8 | exact at9 | exact at10 | exact at11 | exact at12 | exact at13 | exact at14 | exact at15) Try.underlying3 rfl (by rfl)) ?_
            refine OL_sil rfl rfl rfl (Sil.buildS (vs := [(0, .int .i64 o.key), (1, .int .i64 o.val)]) (cs := (iv [o.key, o.val]).toArray) (ss := [1, 1]) rfl rfl Try.underlying73 rfl rfl rfl) ?_
            refine OL_loud rfl rfl rfl (LO.alloc rfl rfl) ?_
            rintro _ _ ⟨b10, _, rfl, rfl⟩
            refine OL_loud0 rfl rfl (by first | exact LO.storeAllV rfl rfl rfl (by first | exact at0 | exact at1 | exact at2 | exact at3 | exact at4 | exact at5 | exact at6 | exact at7 | exact at8 | exact at9 | exact at10 | exact at11 | exact at12 | exact at13 | exact at14 | exact at15) (by rfl) (by rfl) (by rfl) (by rfl) | exact LO.store1V rfl rfl rfl (by first | exact at0 | exact at1 | exact at2 | exact at3 | exact at4 | exact at5 | exact at6 | exact at7 | exact at8 | exact at9 | exact at10 | exact at11 | exact at12 | exact at13 | exact at14 | exact at15) (by rfl) (by rfl) (by rfl)) ?_
            rintro _ _ ⟨rfl, rfl⟩
            refine OL_nil ?_
            refine TC_seq ?_
            refine TC_region ?_
            refine OL_sil rfl rfl rfl (Sil.move rfl rfl) ?_
            refine OL_sil rfl rfl rfl (by first | exact Sil.ownV rfl rfl (by first | exact at0 | exact at1 | exact at2 | exact at3 | exact at4 | exact at5 | exact at6 | exact at7 | exact at8 | exact at9 | exact at10 | exact at11 | exact at12 | exact at13 | exact at14 | exact at15) Try.underlying73 rfl (by rfl) | exact Sil.wholeV rfl rfl (by first | exact at0 | exact at1 | exact at2 | exact at3 | exact at4 | exact at5 | exact at6 | exact at7 | exact at8 | exact at9 | exact at10 | exact at11 | exact at12 | exact at13 | exact at14 | exact at15) ⟨Try.underlying73, rfl⟩ rfl (by rfl)) ?_
            refine OL_sil rfl rfl rfl (Sil.lookup2 0 (o.key, o.val) (pair_row srPl) rfl rfl rfl rfl Try.underlying68 rfl) ?_
            refine OL_slot 44 (v := .tuple #[.int .i64 (max (byI ts (o.key, o.val)) 0), .bool (decide (0 ≤ byI ts (o.key, o.val)))]) rfl (by_get ts (o.key, o.val)) ?_
            refine OL_sil rfl rfl rfl (Sil.move rfl rfl) ?_
            refine OL_sil rfl rfl rfl (Sil.extract rfl rfl rfl) ?_
            refine OL_sil rfl rfl rfl (Sil.extract rfl rfl rfl) ?_
            refine OL_sil rfl rfl rfl (Sil.assign rfl rfl) ?_
            refine OL_sil rfl rfl rfl (Sil.assign rfl rfl) ?_
            refine OL_nil ?_
            refine TC_block ?_
            refine TC_seq ?_
            refine TC_boolE [48, 49, 50, 51, 52, 53, 54, 47] 47 (byI ts (o.key, o.val) < 0 ∨ byI ts (o.key, o.val) = i) ?_ ?_
            · refine TC_region ?_
              refine OL_sil rfl rfl rfl (Sil.move rfl rfl) ?_
              refine OL_sil rfl rfl rfl (Sil.not rfl rfl) ?_
              refine OL_sil rfl rfl rfl (Sil.move rfl rfl) ?_
              refine OL_decn 50 rfl (fun ht50 => ?_) (fun ht50 => ?_)
              · refine OL_skip rfl rfl rfl ?_
                refine OL_skip rfl rfl rfl ?_
                refine OL_skip rfl rfl rfl ?_
                refine OL_sil rfl rfl rfl (Sil.pick1 rfl rfl rfl) ?_
                refine OL_sil rfl rfl rfl (Sil.assign rfl rfl) ?_
                refine OL_nil ?_
                (refine Cont.then_intro (And.intro (by (repeat' (first | exact Ext.refl | refine Ext.cons rfl ?_))) (And.intro ?_ rfl)); first | exact slotV rfl (congrArg Value.bool (decide_eq_true (by omega)).symm) | exact slotV rfl (congrArg Value.bool (decide_eq_false (by omega)).symm) | exact slotV rfl (congrArg Value.bool (decide_eq_decide.2 (by omega))) | exact slotV rfl (congrArg Value.bool (decide_not.symm.trans (decide_eq_decide.2 (by omega)))))
              · refine OL_sil rfl rfl rfl (Sil.move rfl rfl) ?_
                refine OL_sil rfl rfl rfl (Sil.move rfl rfl) ?_
                refine OL_sil rfl rfl rfl (Sil.eql rfl rfl rfl) ?_
                refine OL_sil rfl rfl rfl (Sil.pick0 rfl rfl rfl) ?_
                refine OL_sil rfl rfl rfl (Sil.assign rfl rfl) ?_
                refine OL_nil ?_
                (refine Cont.then_intro (And.intro (by (repeat' (first | exact Ext.refl | refine Ext.cons rfl ?_))) (And.intro ?_ rfl)); first | exact slotV rfl (congrArg Value.bool (decide_eq_true (by omega)).symm) | exact slotV rfl (congrArg Value.bool (decide_eq_false (by omega)).symm) | exact slotV rfl (congrArg Value.bool (decide_eq_decide.2 (by omega))) | exact slotV rfl (congrArg Value.bool (decide_not.symm.trans (decide_eq_decide.2 (by omega)))))
            refine TC_if rfl (fun ht47 => ?_) (fun ht47 => ?_)
            · refine TC_region ?_
              refine OL_sil rfl rfl rfl (Sil.move rfl rfl) ?_
              refine OL_sil rfl rfl rfl (Sil.move rfl rfl) ?_
              refine OL_sil rfl rfl rfl (Sil.move rfl rfl) ?_
              refine OL_sil rfl rfl rfl (Sil.buildS (vs := [(0, .int .i64 i), (1, .int .i64 k), (2, .int .i64 1)]) (cs := (iv [(i : Int), (k : Int), 1]).toArray) (ss := [1, 1, 1]) rfl rfl Try.underlying33 rfl rfl rfl) ?_
              refine OL_loud rfl rfl rfl (LO.buildSlice1 rfl rfl Try.underlying28 rfl rfl rfl) ?_
              rintro _ _ ⟨tb, rfl, rfl⟩
              refine OL_loud rfl rfl rfl (LO.append 2 (iv [(i : Int), (k : Int), 1]) rfl rfl rfl rfl elFl rfl (fun w hw => hw.cells (i := 6) rfl) (by simp [iv, oneC]) (by unfold maxLen; omega) (by omega)) ?_
              rintro _ _ ⟨ao1, cap1, rfl, rfl⟩
              refine OL_sil rfl rfl rfl (Sil.assign rfl rfl) ?_
              refine OL_nil ?_
              refine TC_region ?_
              refine OL_sil rfl rfl rfl (Sil.add rfl rfl rfl (by omega) (by omega)) ?_
              refine OL_sil rfl rfl rfl (Sil.move rfl rfl) ?_
              refine OL_nil ?_
              have hk : kindA ts i o = 1 := kindG_1 ht35 ht47
              have hput := flR_put (f := kindA ts i) (i := i) hr hk (by decide)
              refine ⟨(k + 1, out ++ [⟨i, k, 1⟩], ao1, cap1), ⟨⟨by show k + 1 ≤ (rdF t).length; omega, by show out ++ [_] = _; rw [hput, hout, List.append_assoc]⟩, ⟨rfl, rfl, rfl, slotV rfl (by show _ = Value.slice _ (out ++ [_]).length _; rw [List.length_append]; rfl), rfl, rfl, rfl, rfl, rfl, rfl, slotI rfl (by push_cast; rfl), trivial⟩, ?_⟩, by show (rdF t).length - (k + 1) < (rdF t).length - k; omega⟩
              show List.Sublist [_, _, sq ao1 (out ++ [_]).length cap1 _ 3 (opsC (out ++ [_])), _] _
              rw [← opsC_snoc, List.length_append]
              exact List.Sublist.cons_cons _ (List.Sublist.cons_cons _ (List.Sublist.cons_cons _ (List.Sublist.cons_cons _ (List.nil_sublist _))))
            · obtain ⟨tw, htw⟩ : ∃ tw, ts[(byI ts (o.key, o.val)).toNat]? = some tw := ⟨_, List.getElem?_eq_getElem (by omega)⟩
              obtain ⟨xw, uw, hxw, hcw, _⟩ := hx.2 _ tw htw
              cases hxw
              refine TC_seq ?_
              refine TC_region ?_
              refine OL_sil rfl rfl rfl (Sil.move rfl rfl) ?_
              refine OL_sil rfl rfl rfl (Sil.move rfl rfl) ?_
              refine OL_sil rfl rfl rfl (Sil.indexSl (byI ts (o.key, o.val)).toNat rfl rfl rfl Try.underlying25 rfl (by omega) (by omega)) ?_
              refine OL_sil rfl rfl rfl (Sil.fieldAdd 1 rfl rfl Try.underlying43 rfl rfl) ?_
              refine OL_sil rfl rfl rfl (Sil.oldF 1 rfl (by rw [← add_add]; rfl) hcw Try.underlying3 rfl rfl) ?_
              refine OL_sil rfl rfl rfl (Sil.eql rfl rfl rfl) ?_
              refine OL_sil rfl rfl rfl (Sil.assign rfl rfl) ?_
              refine OL_nil ?_
              refine TC_if rfl (fun ht61 => ?_) (fun ht61 => ?_)
              · refine TC_region ?_
                refine OL_sil rfl rfl rfl (Sil.move rfl rfl) ?_
                refine OL_sil rfl rfl rfl (Sil.move rfl rfl) ?_
                refine OL_sil rfl rfl rfl (Sil.move rfl rfl) ?_
                refine OL_sil rfl rfl rfl (Sil.buildS (vs := [(0, .int .i64 i), (1, .int .i64 k), (2, .int .i64 2)]) (cs := (iv [(i : Int), (k : Int), 2]).toArray) (ss := [1, 1, 1]) rfl rfl Try.underlying33 rfl rfl rfl) ?_
                refine OL_loud rfl rfl rfl (LO.buildSlice1 rfl rfl Try.underlying28 rfl rfl rfl) ?_
                rintro _ _ ⟨tb, rfl, rfl⟩
                refine OL_loud rfl rfl rfl (LO.append 2 (iv [(i : Int), (k : Int), 2]) rfl rfl rfl rfl elFl rfl (fun w hw => hw.cells (i := 6) rfl) (by simp [iv, oneC]) (by unfold maxLen; omega) (by omega)) ?_
                rintro _ _ ⟨ao1, cap1, rfl, rfl⟩
                refine OL_sil rfl rfl rfl (Sil.assign rfl rfl) ?_
                refine OL_nil ?_
                refine TC_region ?_
                refine OL_sil rfl rfl rfl (Sil.add rfl rfl rfl (by omega) (by omega)) ?_
                refine OL_sil rfl rfl rfl (Sil.move rfl rfl) ?_
                refine OL_nil ?_
                have hk : kindA ts i o = 2 := kindG_2 ht35 ht47 htw ht61
                have hput := flR_put (f := kindA ts i) (i := i) hr hk (by decide)
                refine ⟨(k + 1, out ++ [⟨i, k, 2⟩], ao1, cap1), ⟨⟨by show k + 1 ≤ (rdF t).length; omega, by show out ++ [_] = _; rw [hput, hout, List.append_assoc]⟩, ⟨rfl, rfl, rfl, slotV rfl (by show _ = Value.slice _ (out ++ [_]).length _; rw [List.length_append]; rfl), rfl, rfl, rfl, rfl, rfl, rfl, slotI rfl (by push_cast; rfl), trivial⟩, ?_⟩, by show (rdF t).length - (k + 1) < (rdF t).length - k; omega⟩
                show List.Sublist [_, _, sq ao1 (out ++ [_]).length cap1 _ 3 (opsC (out ++ [_])), _] _
                rw [← opsC_snoc, List.length_append]
                exact List.Sublist.cons_cons _ (List.Sublist.cons_cons _ (List.Sublist.cons_cons _ (List.Sublist.cons_cons _ (List.nil_sublist _))))
              · refine TC_seq ?_
                refine TC_region ?_
                refine OL_sil rfl rfl rfl (Sil.move rfl rfl) ?_
                refine OL_sil rfl rfl rfl (by first | exact Sil.ownV rfl rfl (by first | exact at0 | exact at1 | exact at2 | exact at3 | exact at4 | exact at5 | exact at6 | exact at7 | exact at8 | exact at9 | exact at10 | exact at11 | exact at12 | exact at13 | exact at14 | exact at15) Try.underlying73 rfl (by rfl) | exact Sil.wholeV rfl rfl (by first | exact at0 | exact at1 | exact at2 | exact at3 | exact at4 | exact at5 | exact at6 | exact at7 | exact at8 | exact at9 | exact at10 | exact at11 | exact at12 | exact at13 | exact at14 | exact at15) ⟨Try.underlying73, rfl⟩ rfl (by rfl)) ?_
                refine OL_sil rfl rfl rfl (Sil.lookup1 1 (o.key, o.val) (pair_row srPl) rfl rfl rfl rfl Try.underlying69 rfl) ?_
                refine OL_slot 77 (v := .bool (laN ts ts.length (o.key, o.val))) rfl (laM_get ts ts.length (o.key, o.val)) ?_
                refine OL_sil rfl rfl rfl (Sil.not rfl rfl) ?_
                refine OL_sil rfl rfl rfl (Sil.assign rfl rfl) ?_
                refine OL_nil ?_
                refine TC_cond rfl (fun ht74 => ?_) (fun ht74 => ?_)
                · refine TC_region ?_
                  refine OL_sil rfl rfl rfl (Sil.move rfl rfl) ?_
                  refine OL_sil rfl rfl rfl (Sil.move rfl rfl) ?_
                  refine OL_sil rfl rfl rfl (Sil.move rfl rfl) ?_
                  refine OL_sil rfl rfl rfl (Sil.buildS (vs := [(0, .int .i64 i), (1, .int .i64 k), (2, .int .i64 3)]) (cs := (iv [(i : Int), (k : Int), 3]).toArray) (ss := [1, 1, 1]) rfl rfl Try.underlying33 rfl rfl rfl) ?_
                  refine OL_loud rfl rfl rfl (LO.buildSlice1 rfl rfl Try.underlying28 rfl rfl rfl) ?_
                  rintro _ _ ⟨tb, rfl, rfl⟩
                  refine OL_loud rfl rfl rfl (LO.append 2 (iv [(i : Int), (k : Int), 3]) rfl rfl rfl rfl elFl rfl (fun w hw => hw.cells (i := 6) rfl) (by simp [iv, oneC]) (by unfold maxLen; omega) (by omega)) ?_
                  rintro _ _ ⟨ao1, cap1, rfl, rfl⟩
                  refine OL_sil rfl rfl rfl (Sil.assign rfl rfl) ?_
                  refine OL_nil ?_
                  refine TC_region ?_
                  refine OL_sil rfl rfl rfl (Sil.add rfl rfl rfl (by omega) (by omega)) ?_
                  refine OL_sil rfl rfl rfl (Sil.move rfl rfl) ?_
                  refine OL_nil ?_
                  have hk : kindA ts i o = 3 := (kindG_3 ht35 ht47 htw ht61).trans (if_neg (by simpa using ht74))
                  have hput := flR_put (f := kindA ts i) (i := i) hr hk (by decide)
                  refine ⟨(k + 1, out ++ [⟨i, k, 3⟩], ao1, cap1), ⟨⟨by show k + 1 ≤ (rdF t).length; omega, by show out ++ [_] = _; rw [hput, hout, List.append_assoc]⟩, ⟨rfl, rfl, rfl, slotV rfl (by show _ = Value.slice _ (out ++ [_]).length _; rw [List.length_append]; rfl), rfl, rfl, rfl, rfl, rfl, rfl, slotI rfl (by push_cast; rfl), trivial⟩, ?_⟩, by show (rdF t).length - (k + 1) < (rdF t).length - k; omega⟩
                  show List.Sublist [_, _, sq ao1 (out ++ [_]).length cap1 _ 3 (opsC (out ++ [_])), _] _
                  rw [← opsC_snoc, List.length_append]
                  exact List.Sublist.cons_cons _ (List.Sublist.cons_cons _ (List.Sublist.cons_cons _ (List.Sublist.cons_cons _ (List.nil_sublist _))))
                · refine TC_skip ?_
                  refine TC_region ?_
                  refine OL_sil rfl rfl rfl (Sil.add rfl rfl rfl (by omega) (by omega)) ?_
                  refine OL_sil rfl rfl rfl (Sil.move rfl rfl) ?_
                  refine OL_nil ?_
                  have hk : kindA ts i o = 0 := (kindG_3 ht35 ht47 htw ht61).trans (if_pos (by simpa using ht74))
                  have hno := flR_stay (f := kindA ts i) (i := i) hr hk
                  exact ⟨(k + 1, out, ao, cap1), ⟨⟨by show k + 1 ≤ (rdF t).length; omega, by show out = _; rw [hno]; exact hout⟩, ⟨rfl, rfl, rfl, rfl, rfl, rfl, rfl, rfl, rfl, rfl, slotI rfl (by push_cast; rfl), trivial⟩, List.Sublist.cons_cons _ (List.Sublist.cons_cons _ (List.Sublist.cons_cons _ (List.Sublist.cons_cons _ (List.nil_sublist _))))⟩, by show (rdF t).length - (k + 1) < (rdF t).length - k; omega⟩
        · obtain rfl : k = (rdF t).length := by omega
          refine TC_exit ?_
          refine TC_region ?_
          refine OL_sil rfl rfl rfl (Sil.add rfl rfl rfl (by omega) (by omega)) ?_
          refine OL_sil rfl rfl rfl (Sil.move rfl rfl) ?_
          refine OL_nil ?_
          exact ⟨(i + 1, out, ao, cap1), ⟨⟨by show i + 1 ≤ ts.length; omega, by show out = _; rw [flN_succ ht]; exact hout⟩, ⟨rfl, rfl, rfl, rfl, rfl, rfl, slotI rfl (by push_cast; rfl), trivial⟩, List.Sublist.cons_cons _ (List.Sublist.cons_cons _ (List.Sublist.cons_cons _ (List.nil_sublist _)))⟩, by show ts.length - (i + 1) < ts.length - i; omega⟩
    · obtain rfl : i = ts.length := by omega
      refine TC_exit ?_
      refine TC_seq ?_
      refine TC_region ?_
      refine OL_sil rfl rfl rfl (Sil.move rfl rfl) ?_
      refine OL_sil rfl rfl rfl (Sil.assign rfl rfl) ?_
      refine OL_nil ?_
      refine TC_ret ?_
      exact ret1h rfl rfl (List.Sublist.cons _ (List.Sublist.cons _ (List.Sublist.refl _))) ⟨ao0, cap0, by rw [hout0], by rw [hout0]⟩
end Go.Proofs.Ytjnopbmanhialaa
