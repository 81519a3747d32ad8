/-
  Laws: as many transactions as Invokes; each beginning of a history is one.
-/
import Derived.Test.YtjnopbmanhialaaHfJ
import Derived.Laws.Slices
namespace Go.Cru
open Go
section
variable {P : Program} {n : Nat} {w0 : World} {bor : List Nat} {l : Env} {h hs : Mem} {o : Oper} {v : Value}
/-- s[:i] -/
theorem Sil.sliceH {x y : Operand} {t e : TypeId} {sz : Nat} {a : Option Addr} {len cap : Nat} {k : IntKind} {i : Int} (m : Nat) (ho : o.op = .slice t x none (some y) none) (hx : ev l x = some (.slice a len cap)) (hy : ev l y = some (.int k i)) (hT : P.underlying t = some (.slice e)) (hE : P.elem t = e) (hs' : (P.info? e).map (·.size) = some sz) (hi : i = (m : Int)) (hm : m ≤ cap) :
    Sil P n w0 bor hs l o (.slice a m cap) :=
  Sil.of (s := Instr.sliceAt t (.slice a len cap) none (some (.int k i)) none) (fun a' hf => by unfold execOp; simp only [ho, hf.eval hx, Option.map_some, Option.map_none, hf.eval hy]) fun w _ => by
    subst hi
    have hT' : P.underlying t = some (.slice (P.elem t)) := by rw [hE]; exact hT
    rw [run_sliceAt_slice _ _ _ _ _ _ hT', run_slice_h w t a len cap hT' k m (by omega) (by omega), hE, run_sizeOf hs', Result.andThen_ok, Int.toNat_natCast]
    unfold sliced
    congr 1
    have h0 : (if cap = 0 then a else a.map (·.add (0 * sz))) = a := by
      split
      · rfl
      · rw [Nat.zero_mul]; cases a <;> rfl
    rw [h0]
    rfl
end
theorem RcsAt.take {w : World} {a : Option Addr} {es : List RcD} (h : RcsAt w a es) (m : Nat) : RcsAt w a (es.take m) :=
  ⟨by have := h.1; rw [List.length_take]; omega, fun j e hj => by
    rw [List.getElem?_take] at hj
    split at hj
    · exact h.2 j e hj
    · cases hj⟩
def updI (g : Nat → Int) (j : Nat) (v : Int) : Nat → Int := fun t => if t = j then v else g t
def arrI (n : Nat) (g : Nat → Int) : Array Value := arr n fun t => .int .i64 (g t)
theorem arrI_put (n : Nat) (g : Nat → Int) (j : Nat) (v : Int) : putCells (arrI n g) j [.int .i64 v] = arrI n (updI g j v) := by
  unfold arrI
  rw [arr_put]
  refine arr_congr fun t _ => ?_
  unfold updV updI
  split <;> rfl
theorem arrI_at (n : Nat) (g : Nat → Int) (i : Nat) (hi : i < n) : (arrI n g)[i]? = some (.int .i64 (g i)) := arr_at n _ i hi
theorem arrI_size (n : Nat) (g : Nat → Int) : (arrI n g).size = n := arr_size n _
theorem at_map {xs : List RcV} {T : List RcD} (h : xs.map (·.1) = T) {k : Nat} {r : RcD} (hk : T[k]? = some r) : ∃ u, xs[k]? = some (r, u) := by
  subst h
  rw [List.getElem?_map] at hk
  obtain ⟨x, hx, rfl⟩ := Option.map_eq_some_iff.1 hk
  exact ⟨x.2, hx⟩
end Go.Cru
namespace Go.Proofs.Ytjnopbmanhialaa
open Go.Cru

theorem cntK_le (es : List RcD) (k : Int) : ∀ i, cntK es k i ≤ i
  | 0 => Nat.le_refl _
  | i + 1 => by
    have := cntK_le es k i
    rw [cntK]
    split <;> omega
theorem cntK_mono (es : List RcD) (k : Int) {i : Nat} : ∀ {m : Nat}, i ≤ m → cntK es k i ≤ cntK es k m
  | 0, h => by obtain rfl : i = 0 := by omega
               exact Nat.le_refl _
  | m + 1, h => by
    by_cases e : i = m + 1
    · rw [e]; exact Nat.le_refl _
    · have := cntK_mono es k (i := i) (m := m) (by omega)
      rw [cntK]
      omega
def doneR (r : RcD) : Bool := decide (r.q = 1)
def goneR (r : RcD) : Bool := decide (r.q = 2)
theorem HistCounts_ok (es : List RcD) (a : Option Addr) (cap : Nat) (w0 : World) (hx : RcsAt w0 a es) (h0 : errC es = 0) :
    Gives Try.prog 12 [.slice a es.length cap] w0 [] fun v h => v = .bool true ∧ h = [] := by
  obtain ⟨hel, herr⟩ := errC_zero h0
  obtain ⟨T, hT⟩ : ∃ T, T = (txsM es es.length).map (·.1) := ⟨_, rfl⟩
  have hcs := counts es es.length (Nat.le_refl _) herr
  have hc1 : T.length = cntK es 1 es.length := by rw [hT, List.length_map]; exact hcs.1
  have hc2 : T.countP doneR = cntK es 2 es.length := by rw [hT, List.countP_map]; exact hcs.2.1
  have hc3 : T.countP goneR = cntK es 3 es.length := by rw [hT, List.countP_map]; exact hcs.2.2
  have hl1 := cntK_le es 1 es.length
  have hl2 := cntK_le es 2 es.length
  have hl3 := cntK_le es 3 es.length
  refine gives_of Try.func12 rfl rfl rfl (Own.start w0) ?_
  refine TC_seq ?_
  refine TC_region ?_
  refine OL_sil rfl rfl rfl (Sil.assign rfl rfl) ?_
  refine OL_nil ?_
  refine TC_seq ?_
  refine TC_seq ?_
  refine TC_region ?_
  refine OL_pure rfl rfl rfl (LO.pure rfl ent24 rfl (fun w _ => head5_gives w)) ?_
  refine OL_sil rfl rfl rfl (Sil.not rfl rfl) ?_
  refine OL_nil ?_
  refine TC_no rfl ?_
  refine TC_skip ?_
  refine TC_seq ?_
  refine TC_seq ?_
  refine TC_region ?_
  refine OL_sil rfl rfl rfl (Sil.move rfl rfl) ?_
  refine OL_loud rfl rfl rfl (LO.calls rfl ent25 rfl (fun w hw => big5_gives es a cap w (hx.keep hw.keep))) ?_
  rintro _ _ ⟨_, ⟨bb, rfl, hbig, rfl⟩, rfl⟩
  refine OL_nil ?_
  refine TC_cond rfl (fun ht14 => ?_) (fun ht14 => ?_)
  · refine TC_seq ?_
    refine TC_region ?_
    refine OL_sil rfl rfl rfl (Sil.assign rfl rfl) ?_
    refine OL_nil ?_
    refine TC_ret ?_
    exact ret1 rfl rfl ⟨rfl, rfl⟩
  · refine TC_skip ?_
    refine TC_seq ?_
    refine TC_region ?_
    refine OL_sil rfl rfl rfl (Sil.move rfl rfl) ?_
    refine OL_loud rfl rfl rfl (LO.calls rfl ent27 rfl (fun w hw => (histOf_gives es a cap w (hx.keep hw.keep)).mono (fun v h hR => hR.ok h0))) ?_
    rintro _ _ ⟨_, ⟨ao, cp, xs, rs, rfl, hxs, rfl, hli⟩, rfl⟩
    refine OL_sil rfl rfl rfl (Sil.move rfl rfl) ?_
    refine OL_sil rfl rfl rfl (Sil.extract rfl rfl rfl) ?_
    refine OL_sil rfl rfl rfl (Sil.extract rfl rfl rfl) ?_
    refine OL_sil rfl rfl rfl (Sil.extract rfl rfl rfl) ?_
    refine OL_sil rfl rfl rfl (Sil.assign rfl rfl) ?_
    refine OL_sil rfl rfl rfl (Sil.assign rfl rfl) ?_
    refine OL_sil rfl rfl rfl (Sil.assign rfl rfl) ?_
    refine OL_nil ?_
    rw [← hT] at hxs
    have hxl : xs.length = T.length := by rw [← hxs]; simp
    refine TC_seq ?_
    refine TC_seq ?_
    refine TC_region ?_
    refine OL_sil rfl rfl rfl (Sil.move rfl rfl) ?_
    refine OL_sil rfl rfl rfl (Sil.neq rfl rfl rfl) ?_
    refine OL_nil ?_
    refine TC_ifn rfl (fun ht22 => ?_) (fun ht22 => ?_)
    · exact absurd rfl ht22
    · refine TC_skip ?_
      refine TC_seq ?_
      refine TC_region ?_
      refine OL_sil rfl rfl rfl (Sil.build (vs := []) (cs := arrI 5 (fun _ => 0)) rfl rfl (fun _ => rfl)) ?_
      refine OL_loud rfl rfl rfl (LO.alloc rfl rfl) ?_
      rintro _ _ ⟨b6, _, rfl, rfl⟩
      refine OL_loud0 rfl rfl (by first | exact LO.storeAllV rfl rfl rfl (by first | exact at0 | exact at1 | exact at2 | exact at3 | exact at4 | exact at5 | exact at6 | exact at7 | exact at8 | exact at9 | exact at10 | exact at11 | exact at12 | exact at13 | exact at14 | exact at15) (by rfl) (by rfl) (by rfl) (by rfl) | exact LO.store1V rfl rfl rfl (by first | exact at0 | exact at1 | exact at2 | exact at3 | exact at4 | exact at5 | exact at6 | exact at7 | exact at8 | exact at9 | exact at10 | exact at11 | exact at12 | exact at13 | exact at14 | exact at15) (by rfl) (by rfl) (by rfl)) ?_
      rintro _ _ ⟨rfl, rfl⟩
      refine OL_nil ?_
      refine TC_seq ?_
      refine TC_seq ?_
      refine TC_region ?_
      refine OL_sil rfl rfl rfl (Sil.move rfl rfl) ?_
      refine OL_sil rfl rfl rfl (Sil.lenSl rfl rfl Try.underlying22) ?_
      refine OL_sil rfl rfl rfl (Sil.move rfl rfl) ?_
      refine OL_nil ?_
      refine TC_block ?_
      refine TC_loop (fun ((i, _) : Nat × (Nat → Int)) => [(3, .slice ao xs.length cp), (6, .pointer (some ⟨b6, 0, none⟩)), (27, .slice a es.length cap), (28, .int .i64 es.length), (29, .int .i64 i)]) (fun (_, g) => [sq ao xs.length cp 43 3 (rvsC xs), bagR rs, blk b6 (.cells (arrI 5 g) 61 (0, 0))]) (fun (i, g) => i ≤ es.length ∧ ∀ t : Nat, t < 5 → g t = (cntK es (t : Int) i : Nat)) (fun (i, _) => es.length - i) (0, fun _ => 0) ?_ ?_
      · exact ⟨⟨Nat.zero_le _, fun t _ => rfl⟩, ⟨rfl, rfl, rfl, rfl, rfl, trivial⟩, List.Sublist.refl _⟩
      · rintro ⟨i, g⟩ ⟨hi, hg⟩
        have hi : i ≤ es.length := hi
        have hg : ∀ t : Nat, t < 5 → g t = (cntK es (t : Int) i : Nat) := hg
        refine TC_seq ?_
        refine TC_region ?_
        refine OL_sil rfl rfl rfl (Sil.lss rfl rfl rfl) ?_
        refine OL_nil ?_
        refine TC_seq ?_
        refine TC_if rfl (fun ht30 => ?_) (fun ht30 => ?_)
        · obtain ⟨e, he⟩ := nthSome ht30
          obtain ⟨x, u, rfl, hcx, a1, c1, rfl, hu⟩ := hx.2 i e he
          have hk := right_kind (err0 he (herr i (by omega))).1
          obtain ⟨k, hkk⟩ := Int.eq_ofNat_of_zero_le (show 0 ≤ e.p by omega)
          have hgk := hg k (by omega)
          have hcl := cntK_le es k i
          refine TC_skip ?_
          refine TC_seq ?_
          refine TC_block ?_
          refine TC_seq ?_
          refine TC_region ?_
          refine OL_sil rfl rfl rfl (Sil.indexSl i rfl rfl rfl Try.underlying22 rfl rfl (by omega)) ?_
          refine OL_sil rfl rfl rfl (Sil.oldS rfl rfl hcx Try.underlying58 rfl rfl rfl) ?_
          refine OL_loud rfl rfl rfl (LO.alloc rfl rfl) ?_
          rintro _ _ ⟨b8, _, rfl, rfl⟩
          refine OL_loud0 rfl rfl (by first | exact LO.storeAllV rfl rfl rfl (by first | exact at0 | exact at1 | exact at2 | exact at3 | exact at4 | exact at5 | exact at6 | exact at7 | exact at8 | exact at9 | exact at10 | exact at11 | exact at12 | exact at13 | exact at14 | exact at15) (by rfl) (by rfl) (by rfl) (by rfl) | exact LO.store1V rfl rfl rfl (by first | exact at0 | exact at1 | exact at2 | exact at3 | exact at4 | exact at5 | exact at6 | exact at7 | exact at8 | exact at9 | exact at10 | exact at11 | exact at12 | exact at13 | exact at14 | exact at15) (by rfl) (by rfl) (by rfl)) ?_
          rintro _ _ ⟨rfl, rfl⟩
          refine OL_nil ?_
          refine TC_region ?_
          refine OL_sil rfl rfl rfl (Sil.fieldLoc 0 rfl rfl Try.underlying58 rfl rfl) ?_
          refine OL_sil rfl rfl rfl (by exact Sil.ownV rfl rfl (by first | exact at0 | exact at1 | exact at2 | exact at3 | exact at4 | exact at5 | exact at6 | exact at7 | exact at8 | exact at9 | exact at10 | exact at11 | exact at12 | exact at13 | exact at14 | exact at15) Try.underlying3 rfl (by rfl)) ?_
          refine OL_sil rfl rfl rfl (Sil.indexLoc1 k rfl rfl rfl Try.underlying61 rfl hkk (by omega)) ?_
          refine OL_sil rfl rfl rfl (Sil.own 2 rfl rfl rfl Try.underlying3 rfl (arrI_at _ _ k (by omega))) ?_
          refine OL_sil rfl rfl rfl (Sil.add rfl rfl rfl (by omega) (by omega)) ?_
          refine OL_sil rfl rfl rfl (Sil.indexLoc1 k rfl rfl rfl Try.underlying61 rfl hkk (by omega)) ?_
          refine OL_loud0 rfl rfl (LO.storeAs 2 (arrI 5 (updI g k (g k + 1))) rfl rfl rfl rfl rfl rfl (by simp [Value.cells, oneC]) (by rw [arrI_size]; show k + 1 ≤ 5; omega) (arrI_put _ _ _ _)) ?_
          rintro _ _ ⟨rfl, rfl⟩
          refine OL_nil ?_
          refine TC_region ?_
          refine OL_sil rfl rfl rfl (Sil.add rfl rfl rfl (by omega) (by omega)) ?_
          refine OL_sil rfl rfl rfl (Sil.move rfl rfl) ?_
          refine OL_nil ?_
          refine ⟨(i + 1, updI g k (g k + 1)), ⟨⟨by show i + 1 ≤ es.length; omega, fun t ht => ?_⟩, ⟨rfl, rfl, rfl, rfl, rfl, trivial⟩, List.Sublist.cons_cons _ (List.Sublist.cons_cons _ (List.Sublist.cons_cons _ (List.nil_sublist _)))⟩, by show es.length - (i + 1) < es.length - i; omega⟩
          have hgt := hg t ht
          rw [cntK_succ he]
          unfold updI
          by_cases et : t = k
          · subst et; rw [if_pos rfl, if_pos hkk]; omega
          · rw [if_neg et, if_neg (by omega)]; omega
        · obtain rfl : i = es.length := by omega
          have hg1 := hg 1 (by decide)
          have hg2 := hg 2 (by decide)
          have hg3 := hg 3 (by decide)
          refine TC_exit ?_
          refine TC_seq ?_
          refine TC_seq ?_
          refine TC_region ?_
          refine OL_sil rfl rfl rfl (Sil.move rfl rfl) ?_
          refine OL_sil rfl rfl rfl (Sil.lenSl rfl rfl Try.underlying25) ?_
          refine OL_sil rfl rfl rfl (Sil.move rfl rfl) ?_
          refine OL_nil ?_
          refine TC_block ?_
          refine TC_loop (fun ((j, _) : Nat × (Nat → Int)) => [(6, .pointer (some ⟨b6, 0, none⟩)), (40, .slice ao xs.length cp), (41, .int .i64 xs.length), (42, .int .i64 j)]) (fun (_, g) => [sq ao xs.length cp 43 3 (rvsC xs), bagR rs, blk b6 (.cells (arrI 5 g) 61 (0, 0))]) (fun (j, g) => j ≤ xs.length ∧ g 1 = cntK es 1 es.length - j ∧ g 2 = cntK es 2 es.length - (T.take j).countP doneR ∧ g 3 = cntK es 3 es.length - (T.take j).countP goneR) (fun (j, _) => xs.length - j) (0, g) ?_ ?_
          · exact ⟨⟨Nat.zero_le _, by show g 1 = (cntK es 1 es.length : Int) - (0 : Nat); rw [hg1]; simp, by show g 2 = (cntK es 2 es.length : Int) - ((T.take 0).countP doneR : Nat); rw [hg2]; simp, by show g 3 = (cntK es 3 es.length : Int) - ((T.take 0).countP goneR : Nat); rw [hg3]; simp⟩, ⟨rfl, rfl, rfl, rfl, trivial⟩, List.Sublist.refl _⟩
          · rintro ⟨j, g⟩ ⟨hj, q1, q2, q3⟩
            have hj : j ≤ xs.length := hj
            have q1 : g 1 = (cntK es 1 es.length : Int) - (j : Nat) := q1
            have q2 : g 2 = (cntK es 2 es.length : Int) - ((T.take j).countP doneR : Nat) := q2
            have q3 : g 3 = (cntK es 3 es.length : Int) - ((T.take j).countP goneR : Nat) := q3
            have p2 : (T.take j).countP doneR ≤ j := Nat.le_trans List.countP_le_length (by rw [List.length_take]; omega)
            have p3 : (T.take j).countP goneR ≤ j := Nat.le_trans List.countP_le_length (by rw [List.length_take]; omega)
            refine TC_seq ?_
            refine TC_region ?_
            refine OL_sil rfl rfl rfl (Sil.lss rfl rfl rfl) ?_
            refine OL_nil ?_
            refine TC_seq ?_
            refine TC_if rfl (fun ht43 => ?_) (fun ht43 => ?_)
            · obtain ⟨r, hr⟩ : ∃ r, T[j]? = some r := ⟨_, List.getElem?_eq_getElem (by omega)⟩
              obtain ⟨u, hu⟩ := at_map hxs hr
              obtain ⟨au, cu, huf⟩ := Lies.form (hli _ (List.mem_of_getElem? hu))
              have huf : u = .slice au r.ops.length cu := huf
              subst huf
              have s2 : (T.take (j + 1)).countP doneR = (T.take j).countP doneR + if r.q = 1 then 1 else 0 := by rw [List.take_add_one, hr, Option.toList, List.countP_append]; simp [List.countP_cons, doneR]
              have s3 : (T.take (j + 1)).countP goneR = (T.take j).countP goneR + if r.q = 2 then 1 else 0 := by rw [List.take_add_one, hr, Option.toList, List.countP_append]; simp [List.countP_cons, goneR]
              refine TC_know (fun w hw => hw.sqSome (i := 0) rfl (by omega)) (fun hsome => ?_)
              obtain ⟨g5, rfl⟩ := hsome
              refine TC_skip ?_
              refine TC_seq ?_
              refine TC_block ?_
              refine TC_seq ?_
              refine TC_region ?_
              refine OL_sil rfl rfl rfl (Sil.indexOwn j rfl rfl rfl Try.underlying25 rfl rfl (by omega)) ?_
              refine OL_sil rfl rfl rfl (Sil.sqLoadN (cs := rcC r (.slice au r.ops.length cu)) 0 rfl rfl rfl Try.underlying43 rfl rfl rfl (rvsC_at hu)) ?_
              refine OL_loud rfl rfl rfl (LO.alloc rfl rfl) ?_
              rintro _ _ ⟨b10, _, rfl, rfl⟩
              refine OL_loud0 rfl rfl (by first | exact LO.storeAllV rfl rfl rfl (by first | exact at0 | exact at1 | exact at2 | exact at3 | exact at4 | exact at5 | exact at6 | exact at7 | exact at8 | exact at9 | exact at10 | exact at11 | exact at12 | exact at13 | exact at14 | exact at15) (by rfl) (by rfl) (by rfl) (by rfl) | exact LO.store1V rfl rfl rfl (by first | exact at0 | exact at1 | exact at2 | exact at3 | exact at4 | exact at5 | exact at6 | exact at7 | exact at8 | exact at9 | exact at10 | exact at11 | exact at12 | exact at13 | exact at14 | exact at15) (by rfl) (by rfl) (by rfl)) ?_
              rintro _ _ ⟨rfl, rfl⟩
              refine OL_nil ?_
              refine TC_seq ?_
              refine TC_region ?_
              refine OL_sil rfl rfl rfl (Sil.indexLoc1 1 rfl rfl rfl Try.underlying61 rfl rfl (by decide)) ?_
              refine OL_sil rfl rfl rfl (Sil.own 2 rfl rfl rfl Try.underlying3 rfl (arrI_at _ _ 1 (by decide))) ?_
              refine OL_sil rfl rfl rfl (Sil.sub rfl rfl rfl (by omega) (by omega)) ?_
              refine OL_sil rfl rfl rfl (Sil.indexLoc1 1 rfl rfl rfl Try.underlying61 rfl rfl (by decide)) ?_
              refine OL_loud0 rfl rfl (LO.storeAs 2 (arrI 5 (updI g 1 (g 1 - 1))) rfl rfl rfl rfl rfl rfl (by simp [Value.cells, oneC]) (by rw [arrI_size]; show 1 + 1 ≤ 5; decide) (arrI_put _ _ _ _)) ?_
              rintro _ _ ⟨rfl, rfl⟩
              refine OL_nil ?_
              have u1 : updI g 1 (g 1 - 1) 1 = g 1 - 1 := rfl
              have u2 : updI g 1 (g 1 - 1) 2 = g 2 := rfl
              have u3 : updI g 1 (g 1 - 1) 3 = g 3 := rfl
              generalize updI g 1 (g 1 - 1) = g' at u1 u2 u3 ⊢
              refine TC_seq ?_
              refine TC_seq ?_
              refine TC_region ?_
              refine OL_sil rfl rfl rfl (Sil.fieldLoc 1 rfl rfl Try.underlying43 rfl rfl) ?_
              refine OL_sil rfl rfl rfl (by exact Sil.ownV rfl rfl (by first | exact at0 | exact at1 | exact at2 | exact at3 | exact at4 | exact at5 | exact at6 | exact at7 | exact at8 | exact at9 | exact at10 | exact at11 | exact at12 | exact at13 | exact at14 | exact at15) Try.underlying3 rfl (by rfl)) ?_
              refine OL_sil rfl rfl rfl (Sil.eql rfl rfl rfl) ?_
              refine OL_nil ?_
              refine TC_if rfl (fun ht52 => ?_) (fun ht52 => ?_)
              · refine TC_region ?_
                refine OL_sil rfl rfl rfl (Sil.indexLoc1 2 rfl rfl rfl Try.underlying61 rfl rfl (by decide)) ?_
                refine OL_sil rfl rfl rfl (Sil.own 2 rfl rfl rfl Try.underlying3 rfl (arrI_at _ _ 2 (by decide))) ?_
                refine OL_sil rfl rfl rfl (Sil.sub rfl rfl rfl (by omega) (by omega)) ?_
                refine OL_sil rfl rfl rfl (Sil.indexLoc1 2 rfl rfl rfl Try.underlying61 rfl rfl (by decide)) ?_
                refine OL_loud0 rfl rfl (LO.storeAs 2 (arrI 5 (updI g' 2 (g' 2 - 1))) rfl rfl rfl rfl rfl rfl (by simp [Value.cells, oneC]) (by rw [arrI_size]; show 2 + 1 ≤ 5; decide) (arrI_put _ _ _ _)) ?_
                rintro _ _ ⟨rfl, rfl⟩
                refine OL_nil ?_
                refine TC_seq ?_
                refine TC_region ?_
                refine OL_sil rfl rfl rfl (Sil.fieldLoc 1 rfl rfl Try.underlying43 rfl rfl) ?_
                refine OL_sil rfl rfl rfl (by exact Sil.ownV rfl rfl (by first | exact at0 | exact at1 | exact at2 | exact at3 | exact at4 | exact at5 | exact at6 | exact at7 | exact at8 | exact at9 | exact at10 | exact at11 | exact at12 | exact at13 | exact at14 | exact at15) Try.underlying3 rfl (by rfl)) ?_
                refine OL_sil rfl rfl rfl (Sil.eql rfl rfl rfl) ?_
                refine OL_nil ?_
                refine TC_if rfl (fun ht59 => ?_) (fun ht59 => ?_)
                · omega
                · refine TC_skip ?_
                  refine TC_region ?_
                  refine OL_sil rfl rfl rfl (Sil.add rfl rfl rfl (by omega) (by omega)) ?_
                  refine OL_sil rfl rfl rfl (Sil.move rfl rfl) ?_
                  refine OL_nil ?_
                  rw [if_pos ht52] at s2
                  rw [if_neg ht59] at s3
                  exact ⟨(j + 1, updI g' 2 (g' 2 - 1)), ⟨⟨by show j + 1 ≤ xs.length; omega, by show g' 1 = (cntK es 1 es.length : Int) - ((j + 1 : Nat) : Int); omega, by show g' 2 - 1 = (cntK es 2 es.length : Int) - ((T.take (j + 1)).countP doneR : Nat); omega, by show g' 3 = (cntK es 3 es.length : Int) - ((T.take (j + 1)).countP goneR : Nat); omega⟩, ⟨rfl, rfl, rfl, rfl, trivial⟩, List.Sublist.cons_cons _ (List.Sublist.cons_cons _ (List.Sublist.cons_cons _ (List.nil_sublist _)))⟩, by show xs.length - (j + 1) < xs.length - j; omega⟩
              · refine TC_skip ?_
                refine TC_seq ?_
                refine TC_region ?_
                refine OL_sil rfl rfl rfl (Sil.fieldLoc 1 rfl rfl Try.underlying43 rfl rfl) ?_
                refine OL_sil rfl rfl rfl (by exact Sil.ownV rfl rfl (by first | exact at0 | exact at1 | exact at2 | exact at3 | exact at4 | exact at5 | exact at6 | exact at7 | exact at8 | exact at9 | exact at10 | exact at11 | exact at12 | exact at13 | exact at14 | exact at15) Try.underlying3 rfl (by rfl)) ?_
                refine OL_sil rfl rfl rfl (Sil.eql rfl rfl rfl) ?_
                refine OL_nil ?_
                refine TC_if rfl (fun ht59 => ?_) (fun ht59 => ?_)
                · refine TC_region ?_
                  refine OL_sil rfl rfl rfl (Sil.indexLoc1 3 rfl rfl rfl Try.underlying61 rfl rfl (by decide)) ?_
                  refine OL_sil rfl rfl rfl (Sil.own 2 rfl rfl rfl Try.underlying3 rfl (arrI_at _ _ 3 (by decide))) ?_
                  refine OL_sil rfl rfl rfl (Sil.sub rfl rfl rfl (by omega) (by omega)) ?_
                  refine OL_sil rfl rfl rfl (Sil.indexLoc1 3 rfl rfl rfl Try.underlying61 rfl rfl (by decide)) ?_
                  refine OL_loud0 rfl rfl (LO.storeAs 2 (arrI 5 (updI g' 3 (g' 3 - 1))) rfl rfl rfl rfl rfl rfl (by simp [Value.cells, oneC]) (by rw [arrI_size]; show 3 + 1 ≤ 5; decide) (arrI_put _ _ _ _)) ?_
                  rintro _ _ ⟨rfl, rfl⟩
                  refine OL_nil ?_
                  refine TC_region ?_
                  refine OL_sil rfl rfl rfl (Sil.add rfl rfl rfl (by omega) (by omega)) ?_
                  refine OL_sil rfl rfl rfl (Sil.move rfl rfl) ?_
                  refine OL_nil ?_
                  rw [if_neg ht52] at s2
                  rw [if_pos ht59] at s3
                  exact ⟨(j + 1, updI g' 3 (g' 3 - 1)), ⟨⟨by show j + 1 ≤ xs.length; omega, by show g' 1 = (cntK es 1 es.length : Int) - ((j + 1 : Nat) : Int); omega, by show g' 2 = (cntK es 2 es.length : Int) - ((T.take (j + 1)).countP doneR : Nat); omega, by show g' 3 - 1 = (cntK es 3 es.length : Int) - ((T.take (j + 1)).countP goneR : Nat); omega⟩, ⟨rfl, rfl, rfl, rfl, trivial⟩, List.Sublist.cons_cons _ (List.Sublist.cons_cons _ (List.Sublist.cons_cons _ (List.nil_sublist _)))⟩, by show xs.length - (j + 1) < xs.length - j; omega⟩
                · refine TC_skip ?_
                  refine TC_region ?_
                  refine OL_sil rfl rfl rfl (Sil.add rfl rfl rfl (by omega) (by omega)) ?_
                  refine OL_sil rfl rfl rfl (Sil.move rfl rfl) ?_
                  refine OL_nil ?_
                  rw [if_neg ht52] at s2
                  rw [if_neg ht59] at s3
                  exact ⟨(j + 1, g'), ⟨⟨by show j + 1 ≤ xs.length; omega, by show g' 1 = (cntK es 1 es.length : Int) - ((j + 1 : Nat) : Int); omega, by show g' 2 = (cntK es 2 es.length : Int) - ((T.take (j + 1)).countP doneR : Nat); omega, by show g' 3 = (cntK es 3 es.length : Int) - ((T.take (j + 1)).countP goneR : Nat); omega⟩, ⟨rfl, rfl, rfl, rfl, trivial⟩, List.Sublist.cons_cons _ (List.Sublist.cons_cons _ (List.Sublist.cons_cons _ (List.nil_sublist _)))⟩, by show xs.length - (j + 1) < xs.length - j; omega⟩
            · obtain rfl : j = xs.length := by omega
              rw [hxl, List.take_of_length_le (Nat.le_refl _)] at q2 q3
              refine TC_exit ?_
              refine TC_seq ?_
              refine TC_region ?_
              refine OL_sil rfl rfl rfl (Sil.indexLoc1 1 rfl rfl rfl Try.underlying61 rfl rfl (by decide)) ?_
              refine OL_sil rfl rfl rfl (Sil.own 2 rfl rfl rfl Try.underlying3 rfl (arrI_at _ _ 1 (by decide))) ?_
              refine OL_sil rfl rfl rfl (Sil.eql rfl rfl rfl) ?_
              refine OL_sil rfl rfl rfl (Sil.move rfl rfl) ?_
              refine OL_dec 68 rfl (fun ht68 => ?_) (fun ht68 => ?_)
              · refine OL_sil rfl rfl rfl (Sil.indexLoc1 2 rfl rfl rfl Try.underlying61 rfl rfl (by decide)) ?_
                refine OL_sil rfl rfl rfl (Sil.own 2 rfl rfl rfl Try.underlying3 rfl (arrI_at _ _ 2 (by decide))) ?_
                refine OL_sil rfl rfl rfl (Sil.eql rfl rfl rfl) ?_
                refine OL_sil rfl rfl rfl (Sil.pick1 rfl rfl rfl) ?_
                refine OL_sil rfl rfl rfl (Sil.move rfl rfl) ?_
                refine OL_dec 73 rfl (fun ht73 => ?_) (fun ht73 => ?_)
                · refine OL_sil rfl rfl rfl (Sil.indexLoc1 3 rfl rfl rfl Try.underlying61 rfl rfl (by decide)) ?_
                  refine OL_sil rfl rfl rfl (Sil.own 2 rfl rfl rfl Try.underlying3 rfl (arrI_at _ _ 3 (by decide))) ?_
                  refine OL_sil rfl rfl rfl (Sil.eql rfl rfl rfl) ?_
                  refine OL_sil rfl rfl rfl (Sil.pick1 rfl rfl rfl) ?_
                  refine OL_sil rfl rfl rfl (Sil.assign rfl rfl) ?_
                  refine OL_nil ?_
                  refine TC_ret ?_
                  exact ret1 rfl rfl ⟨congrArg Value.bool (decide_eq_true (by omega)), rfl⟩
                · omega
              · omega
theorem HistCounts_bad (es : List RcD) (a : Option Addr) (cap : Nat) (w0 : World) (hx : RcsAt w0 a es) (h0 : errC es ≠ 0) :
    Gives Try.prog 12 [.slice a es.length cap] w0 [] fun v h => v = .bool true ∧ h = [] := by
  refine gives_of Try.func12 rfl rfl rfl (Own.start w0) ?_
  refine TC_seq ?_
  refine TC_region ?_
  refine OL_sil rfl rfl rfl (Sil.assign rfl rfl) ?_
  refine OL_nil ?_
  refine TC_seq ?_
  refine TC_seq ?_
  refine TC_region ?_
  refine OL_pure rfl rfl rfl (LO.pure rfl ent24 rfl (fun w _ => head5_gives w)) ?_
  refine OL_sil rfl rfl rfl (Sil.not rfl rfl) ?_
  refine OL_nil ?_
  refine TC_no rfl ?_
  refine TC_skip ?_
  refine TC_seq ?_
  refine TC_seq ?_
  refine TC_region ?_
  refine OL_sil rfl rfl rfl (Sil.move rfl rfl) ?_
  refine OL_loud rfl rfl rfl (LO.calls rfl ent25 rfl (fun w hw => big5_gives es a cap w (hx.keep hw.keep))) ?_
  rintro _ _ ⟨_, ⟨bb, rfl, _, rfl⟩, rfl⟩
  refine OL_nil ?_
  refine TC_cond rfl (fun ht14 => ?_) (fun ht14 => ?_)
  · refine TC_seq ?_
    refine TC_region ?_
    refine OL_sil rfl rfl rfl (Sil.assign rfl rfl) ?_
    refine OL_nil ?_
    refine TC_ret ?_
    exact ret1 rfl rfl ⟨rfl, rfl⟩
  · refine TC_skip ?_
    refine TC_seq ?_
    refine TC_region ?_
    refine OL_sil rfl rfl rfl (Sil.move rfl rfl) ?_
    refine OL_loud rfl rfl rfl (LO.calls rfl ent27 rfl (fun w hw => (histOf_gives es a cap w (hx.keep hw.keep)).mono (fun v h hR => hR.bad h0))) ?_
    rintro _ _ ⟨_, ⟨rfl, rfl⟩, rfl⟩
    refine OL_sil rfl rfl rfl (Sil.move rfl rfl) ?_
    refine OL_sil rfl rfl rfl (Sil.extract rfl rfl rfl) ?_
    refine OL_sil rfl rfl rfl (Sil.extract rfl rfl rfl) ?_
    refine OL_sil rfl rfl rfl (Sil.extract rfl rfl rfl) ?_
    refine OL_sil rfl rfl rfl (Sil.assign rfl rfl) ?_
    refine OL_sil rfl rfl rfl (Sil.assign rfl rfl) ?_
    refine OL_sil rfl rfl rfl (Sil.assign rfl rfl) ?_
    refine OL_nil ?_
    refine TC_seq ?_
    refine TC_seq ?_
    refine TC_region ?_
    refine OL_sil rfl rfl rfl (Sil.move rfl rfl) ?_
    refine OL_sil rfl rfl rfl (Sil.neq rfl rfl rfl) ?_
    refine OL_nil ?_
    refine TC_ifn rfl (fun ht22 => ?_) (fun ht22 => ?_)
    · refine TC_seq ?_
      refine TC_region ?_
      refine OL_sil rfl rfl rfl (Sil.move rfl rfl) ?_
      refine OL_sil rfl rfl rfl (Sil.lenSl rfl rfl Try.underlying25) ?_
      refine OL_sil rfl rfl rfl (Sil.eql rfl rfl rfl) ?_
      refine OL_sil rfl rfl rfl (Sil.assign rfl rfl) ?_
      refine OL_nil ?_
      refine TC_ret ?_
      exact ret1 rfl rfl ⟨congrArg Value.bool (decide_eq_true rfl), rfl⟩
    · exact absurd ht22 h0
theorem HistCounts_gives (es : List RcD) (a : Option Addr) (cap : Nat) (w0 : World) (hx : RcsAt w0 a es) :
    Gives Try.prog 12 [.slice a es.length cap] w0 [] fun v h => v = .bool true ∧ h = [] := by
  by_cases h0 : errC es = 0
  · exact HistCounts_ok es a cap w0 hx h0
  · exact HistCounts_bad es a cap w0 hx h0

theorem HistPrefix_ok (es : List RcD) (a : Option Addr) (cap : Nat) (n : Int) (hn : -9223372036854775808 ≤ n ∧ n ≤ 9223372036854775807) (w0 : World) (hx : RcsAt w0 a es) (hcap : es.length ≤ cap) (h0 : errC es = 0) :
    Gives Try.prog 9 [.slice a es.length cap, .int .i64 n] w0 [] fun v h => v = .bool true ∧ h = [] := by
  obtain ⟨hel, herr⟩ := errC_zero h0
  obtain ⟨m, hm⟩ : ∃ m : Nat, min (max n 0) (es.length : Int) = m := ⟨(min (max n 0) (es.length : Int)).toNat, by omega⟩
  have hme : m ≤ es.length := by omega
  have hcs1 := (counts es es.length (Nat.le_refl _) herr).1
  have hcs2 := (counts es m hme (fun j hj => herr j (by omega))).1
  have hcm := cntK_mono es 1 hme
  have hcl2 := cntK_le es 1 m
  refine gives_of Try.func9 rfl rfl rfl (Own.start w0) ?_
  refine TC_seq ?_
  refine TC_region ?_
  refine OL_sil rfl rfl rfl (Sil.assign rfl rfl) ?_
  refine OL_nil ?_
  refine TC_seq ?_
  refine TC_seq ?_
  refine TC_region ?_
  refine OL_pure rfl rfl rfl (LO.pure rfl ent24 rfl (fun w _ => head5_gives w)) ?_
  refine OL_sil rfl rfl rfl (Sil.not rfl rfl) ?_
  refine OL_nil ?_
  refine TC_no rfl ?_
  refine TC_skip ?_
  refine TC_seq ?_
  refine TC_seq ?_
  refine TC_region ?_
  refine OL_sil rfl rfl rfl (Sil.move rfl rfl) ?_
  refine OL_loud rfl rfl rfl (LO.calls rfl ent25 rfl (fun w hw => big5_gives es a cap w (hx.keep hw.keep))) ?_
  rintro _ _ ⟨_, ⟨bb, rfl, _, rfl⟩, rfl⟩
  refine OL_nil ?_
  refine TC_cond rfl (fun ht18 => ?_) (fun ht18 => ?_)
  · refine TC_seq ?_
    refine TC_region ?_
    refine OL_sil rfl rfl rfl (Sil.assign rfl rfl) ?_
    refine OL_nil ?_
    refine TC_ret ?_
    exact ret1 rfl rfl ⟨rfl, rfl⟩
  · refine TC_skip ?_
    refine TC_seq ?_
    refine TC_region ?_
    refine OL_sil rfl rfl rfl (Sil.move rfl rfl) ?_
    refine OL_loud rfl rfl rfl (LO.calls rfl ent27 rfl (fun w hw => (histOf_gives es a cap w (hx.keep hw.keep)).mono (fun v h hR => hR.ok h0))) ?_
    rintro _ _ ⟨_, ⟨a1, c1, x1, r1, rfl, hx1, rfl, hl1⟩, rfl⟩
    refine OL_sil rfl rfl rfl (Sil.move rfl rfl) ?_
    refine OL_sil rfl rfl rfl (Sil.extract rfl rfl rfl) ?_
    refine OL_sil rfl rfl rfl (Sil.extract rfl rfl rfl) ?_
    refine OL_sil rfl rfl rfl (Sil.extract rfl rfl rfl) ?_
    refine OL_sil rfl rfl rfl (Sil.assign rfl rfl) ?_
    refine OL_sil rfl rfl rfl (Sil.assign rfl rfl) ?_
    refine OL_sil rfl rfl rfl (Sil.assign rfl rfl) ?_
    refine OL_nil ?_
    refine TC_seq ?_
    refine TC_seq ?_
    refine TC_region ?_
    refine OL_sil rfl rfl rfl (Sil.move rfl rfl) ?_
    refine OL_sil rfl rfl rfl (Sil.neq rfl rfl rfl) ?_
    refine OL_nil ?_
    refine TC_ifn rfl (fun ht26 => ?_) (fun ht26 => ?_)
    · exact absurd rfl ht26
    · refine TC_skip ?_
      refine TC_seq ?_
      refine TC_region ?_
      refine OL_sil rfl rfl rfl (Sil.move rfl rfl) ?_
      refine OL_sil rfl rfl rfl (Sil.maxI rfl rfl rfl) ?_
      refine OL_sil rfl rfl rfl (Sil.move rfl rfl) ?_
      refine OL_sil rfl rfl rfl (Sil.lenSl rfl rfl Try.underlying22) ?_
      refine OL_sil rfl rfl rfl (Sil.minI rfl rfl rfl) ?_
      refine OL_sil rfl rfl rfl (Sil.assign rfl rfl) ?_
      refine OL_nil ?_
      refine TC_slot 1 (v := .int .i64 m) rfl (by rw [hm]) ?_
      refine TC_seq ?_
      refine TC_region ?_
      refine OL_sil rfl rfl rfl (Sil.move rfl rfl) ?_
      refine OL_sil rfl rfl rfl (Sil.move rfl rfl) ?_
      refine OL_sil rfl rfl rfl (Sil.sliceH m rfl rfl rfl Try.underlying22 (by kernel_rfl) rfl rfl (by omega)) ?_
      refine OL_slot 35 (v := .slice a (es.take m).length cap) rfl (by rw [List.length_take, Nat.min_eq_left hme]) ?_
      refine OL_loud rfl rfl rfl (LO.calls rfl ent27 rfl (fun w hw => (histOf_gives (es.take m) a cap w ((hx.take m).keep hw.keep)).mono (fun v h hR => hR.ok (take_ok h0 m)))) ?_
      rintro _ _ ⟨_, ⟨a2, c2, x2, r2, rfl, hx2, rfl, hl2⟩, rfl⟩
      refine OL_sil rfl rfl rfl (Sil.move rfl rfl) ?_
      refine OL_sil rfl rfl rfl (Sil.extract rfl rfl rfl) ?_
      refine OL_sil rfl rfl rfl (Sil.extract rfl rfl rfl) ?_
      refine OL_sil rfl rfl rfl (Sil.extract rfl rfl rfl) ?_
      refine OL_sil rfl rfl rfl (Sil.assign rfl rfl) ?_
      refine OL_sil rfl rfl rfl (Sil.assign rfl rfl) ?_
      refine OL_sil rfl rfl rfl (Sil.assign rfl rfl) ?_
      refine OL_nil ?_
      rw [take_txs es m hme] at hx2
      have hn1 : x1.length = (txsM es es.length).length := by have := congrArg List.length hx1; simpa using this
      have hn2 : x2.length = (txsM es m).length := by have := congrArg List.length hx2; simpa using this
      refine TC_seq ?_
      refine TC_seq ?_
      refine TC_region ?_
      refine OL_sil rfl rfl rfl (Sil.move rfl rfl) ?_
      refine OL_sil rfl rfl rfl (Sil.neq rfl rfl rfl) ?_
      refine OL_sil rfl rfl rfl (Sil.move rfl rfl) ?_
      refine OL_decn 42 rfl (fun ht42 => ?_) (fun ht42 => ?_)
      · exact absurd rfl ht42
      · refine OL_sil rfl rfl rfl (Sil.move rfl rfl) ?_
        refine OL_sil rfl rfl rfl (Sil.lenSl rfl rfl Try.underlying25) ?_
        refine OL_sil rfl rfl rfl (Sil.move rfl rfl) ?_
        refine OL_sil rfl rfl rfl (Sil.lenSl rfl rfl Try.underlying25) ?_
        refine OL_sil rfl rfl rfl (Sil.gtr rfl rfl rfl) ?_
        refine OL_sil rfl rfl rfl (Sil.pick0 rfl rfl rfl) ?_
        refine OL_nil ?_
        refine TC_if rfl (fun ht48 => ?_) (fun ht48 => ?_)
        · omega
        · refine TC_skip ?_
          refine TC_seq ?_
          refine TC_region ?_
          refine OL_sil rfl rfl rfl (Sil.assign rfl rfl) ?_
          refine OL_nil ?_
          refine TC_seq ?_
          refine TC_seq ?_
          refine TC_region ?_
          refine OL_sil rfl rfl rfl (Sil.move rfl rfl) ?_
          refine OL_sil rfl rfl rfl (Sil.lenSl rfl rfl Try.underlying22) ?_
          refine OL_sil rfl rfl rfl (Sil.move rfl rfl) ?_
          refine OL_nil ?_
          refine TC_block ?_
          refine TC_loop (fun i : Nat => [(1, .int .i64 m), (5, .slice a1 x1.length c1), (8, .slice a2 x2.length c2), (11, .int .i64 (cntK es 1 (min i m) : Nat)), (49, .slice a es.length cap), (50, .int .i64 es.length), (51, .int .i64 i)]) (fun _ => [sq a1 x1.length c1 43 3 (rvsC x1), bagR r1, sq a2 x2.length c2 43 3 (rvsC x2), bagR r2]) (fun i => i ≤ es.length) (fun i => es.length - i) 0 ?_ ?_
          · exact ⟨Nat.zero_le _, ⟨rfl, rfl, rfl, slotV rfl (by rw [Nat.zero_min]; rfl), rfl, rfl, rfl, trivial⟩, List.Sublist.refl _⟩
          · intro i hi
            refine TC_seq ?_
            refine TC_region ?_
            refine OL_sil rfl rfl rfl (Sil.lss rfl rfl rfl) ?_
            refine OL_nil ?_
            refine TC_seq ?_
            refine TC_if rfl (fun ht52 => ?_) (fun ht52 => ?_)
            · obtain ⟨e, he⟩ := nthSome ht52
              obtain ⟨x, u, rfl, hcx, a3, c3, rfl, hu⟩ := hx.2 i e he
              have hcl := cntK_le es 1 (min i m)
              refine TC_skip ?_
              refine TC_seq ?_
              refine TC_block ?_
              refine TC_seq ?_
              refine TC_region ?_
              refine OL_sil rfl rfl rfl (Sil.move rfl rfl) ?_
              refine OL_sil rfl rfl rfl (Sil.indexSl i rfl rfl rfl Try.underlying22 rfl rfl (by omega)) ?_
              refine OL_sil rfl rfl rfl (Sil.oldS rfl rfl hcx Try.underlying58 rfl rfl rfl) ?_
              refine OL_loud rfl rfl rfl (LO.alloc rfl rfl) ?_
              rintro _ _ ⟨b13, _, rfl, rfl⟩
              refine OL_sil rfl rfl rfl (Sil.assign rfl rfl) ?_
              refine OL_loud0 rfl rfl (by first | exact LO.storeAllV rfl rfl rfl (by first | exact at0 | exact at1 | exact at2 | exact at3 | exact at4 | exact at5 | exact at6 | exact at7 | exact at8 | exact at9 | exact at10 | exact at11 | exact at12 | exact at13 | exact at14 | exact at15) (by rfl) (by rfl) (by rfl) (by rfl) | exact LO.store1V rfl rfl rfl (by first | exact at0 | exact at1 | exact at2 | exact at3 | exact at4 | exact at5 | exact at6 | exact at7 | exact at8 | exact at9 | exact at10 | exact at11 | exact at12 | exact at13 | exact at14 | exact at15) (by rfl) (by rfl) (by rfl)) ?_
              rintro _ _ ⟨rfl, rfl⟩
              refine OL_nil ?_
              refine TC_seq ?_
              refine TC_bool 63 (e.p = 1 ∧ i < m) ?_ ?_
              · refine TC_region ?_
                refine OL_sil rfl rfl rfl (Sil.fieldLoc 0 rfl rfl Try.underlying58 rfl rfl) ?_
                refine OL_sil rfl rfl rfl (by exact Sil.ownV rfl rfl (by first | exact at0 | exact at1 | exact at2 | exact at3 | exact at4 | exact at5 | exact at6 | exact at7 | exact at8 | exact at9 | exact at10 | exact at11 | exact at12 | exact at13 | exact at14 | exact at15) Try.underlying3 rfl (by rfl)) ?_
                refine OL_sil rfl rfl rfl (Sil.eql rfl rfl rfl) ?_
                refine OL_sil rfl rfl rfl (Sil.move rfl rfl) ?_
                refine OL_dec 59 rfl (fun ht59 => ?_) (fun ht59 => ?_)
                · refine OL_sil rfl rfl rfl (Sil.move rfl rfl) ?_
                  refine OL_sil rfl rfl rfl (Sil.move rfl rfl) ?_
                  refine OL_sil rfl rfl rfl (Sil.lss rfl rfl rfl) ?_
                  refine OL_sil rfl rfl rfl (Sil.pick1 rfl rfl rfl) ?_
                  refine OL_nil ?_
                  (refine Cont.then_intro (And.intro (by (repeat' (first | exact trivial | refine ⟨rfl, ?_⟩))) (And.intro ?_ rfl)); first | exact slotV rfl (congrArg Value.bool (decide_eq_true (by omega)).symm) | exact slotV rfl (congrArg Value.bool (decide_eq_false (by omega)).symm) | exact slotV rfl (congrArg Value.bool (decide_eq_decide.2 (by omega))) | exact slotV rfl (congrArg Value.bool (decide_not.symm.trans (decide_eq_decide.2 (by omega)))))
                · refine OL_skip rfl rfl rfl ?_
                  refine OL_skip rfl rfl rfl ?_
                  refine OL_skip rfl rfl rfl ?_
                  refine OL_sil rfl rfl rfl (Sil.pick0 rfl rfl rfl) ?_
                  refine OL_nil ?_
                  (refine Cont.then_intro (And.intro (by (repeat' (first | exact trivial | refine ⟨rfl, ?_⟩))) (And.intro ?_ rfl)); first | exact slotV rfl (congrArg Value.bool (decide_eq_true (by omega)).symm) | exact slotV rfl (congrArg Value.bool (decide_eq_false (by omega)).symm) | exact slotV rfl (congrArg Value.bool (decide_eq_decide.2 (by omega))) | exact slotV rfl (congrArg Value.bool (decide_not.symm.trans (decide_eq_decide.2 (by omega)))))
              refine TC_if rfl (fun ht63 => ?_) (fun ht63 => ?_)
              · refine TC_region ?_
                refine OL_sil rfl rfl rfl (Sil.move rfl rfl) ?_
                refine OL_sil rfl rfl rfl (Sil.add rfl rfl rfl (by omega) (by omega)) ?_
                refine OL_sil rfl rfl rfl (Sil.assign rfl rfl) ?_
                refine OL_nil ?_
                refine TC_region ?_
                refine OL_sil rfl rfl rfl (Sil.add rfl rfl rfl (by omega) (by omega)) ?_
                refine OL_sil rfl rfl rfl (Sil.move rfl rfl) ?_
                refine OL_nil ?_
                have hst : cntK es 1 (min (i + 1) m) = cntK es 1 (min i m) + 1 := by rw [Nat.min_eq_left (show i + 1 ≤ m by omega), Nat.min_eq_left (show i ≤ m by omega), cntK_succ he, if_pos ht63.1]
                exact ⟨i + 1, ⟨by omega, ⟨rfl, rfl, rfl, slotI rfl (by omega), rfl, rfl, rfl, trivial⟩, List.Sublist.cons_cons _ (List.Sublist.cons_cons _ (List.Sublist.cons_cons _ (List.Sublist.cons_cons _ (List.nil_sublist _))))⟩, by omega⟩
              · refine TC_skip ?_
                refine TC_region ?_
                refine OL_sil rfl rfl rfl (Sil.add rfl rfl rfl (by omega) (by omega)) ?_
                refine OL_sil rfl rfl rfl (Sil.move rfl rfl) ?_
                refine OL_nil ?_
                have hst : cntK es 1 (min (i + 1) m) = cntK es 1 (min i m) := by
                  by_cases h : i < m
                  · rw [Nat.min_eq_left (show i + 1 ≤ m by omega), Nat.min_eq_left (show i ≤ m by omega), cntK_succ he, if_neg (fun hh => ht63 ⟨hh, h⟩), Nat.add_zero]
                  · rw [Nat.min_eq_right (show m ≤ i + 1 by omega), Nat.min_eq_right (show m ≤ i by omega)]
                exact ⟨i + 1, ⟨by omega, ⟨rfl, rfl, rfl, slotI rfl (by omega), rfl, rfl, rfl, trivial⟩, List.Sublist.cons_cons _ (List.Sublist.cons_cons _ (List.Sublist.cons_cons _ (List.Sublist.cons_cons _ (List.nil_sublist _))))⟩, by omega⟩
            · have hie : i = es.length := by omega
              have hend : cntK es 1 (min i m) = x2.length := by rw [hie, Nat.min_eq_right hme, hn2, hcs2]
              refine TC_exit ?_
              refine TC_seq ?_
              refine TC_seq ?_
              refine TC_region ?_
              refine OL_sil rfl rfl rfl (Sil.move rfl rfl) ?_
              refine OL_sil rfl rfl rfl (Sil.lenSl rfl rfl Try.underlying25) ?_
              refine OL_sil rfl rfl rfl (Sil.move rfl rfl) ?_
              refine OL_sil rfl rfl rfl (Sil.neq rfl rfl rfl) ?_
              refine OL_nil ?_
              refine TC_ifn rfl (fun ht70 => ?_) (fun ht70 => ?_)
              · omega
              · refine TC_skip ?_
                refine TC_seq ?_
                refine TC_seq ?_
                refine TC_region ?_
                refine OL_sil rfl rfl rfl (Sil.move rfl rfl) ?_
                refine OL_sil rfl rfl rfl (Sil.lenSl rfl rfl Try.underlying25) ?_
                refine OL_sil rfl rfl rfl (Sil.move rfl rfl) ?_
                refine OL_nil ?_
                refine TC_block ?_
                refine TC_loop (fun j : Nat => [(5, .slice a1 x1.length c1), (8, .slice a2 x2.length c2), (72, .int .i64 x2.length), (73, .int .i64 j)]) (fun _ => [sq a1 x1.length c1 43 3 (rvsC x1), sq a2 x2.length c2 43 3 (rvsC x2)]) (fun j => j ≤ x2.length) (fun j => x2.length - j) 0 ?_ ?_
                · exact ⟨Nat.zero_le _, ⟨rfl, rfl, rfl, rfl, trivial⟩, List.Sublist.cons_cons _ (List.Sublist.cons _ (List.Sublist.cons_cons _ (List.nil_sublist _)))⟩
                · intro j hj
                  refine TC_seq ?_
                  refine TC_region ?_
                  refine OL_sil rfl rfl rfl (Sil.lss rfl rfl rfl) ?_
                  refine OL_nil ?_
                  refine TC_seq ?_
                  refine TC_if rfl (fun ht74 => ?_) (fun ht74 => ?_)
                  · obtain ⟨t2, ht2⟩ : ∃ t, (txsM es m)[j]? = some t := ⟨_, List.getElem?_eq_getElem (by omega)⟩
                    obtain ⟨t1, ht1, hs1, hs2⟩ := tx_stays ht2 es.length hme (Nat.le_refl _) herr
                    obtain ⟨u1, hu1⟩ := at_map hx1 (show ((txsM es es.length).map (·.1))[j]? = some t1.1 by rw [List.getElem?_map, ht1]; rfl)
                    obtain ⟨u2, hu2⟩ := at_map hx2 (show ((txsM es m).map (·.1))[j]? = some t2.1 by rw [List.getElem?_map, ht2]; rfl)
                    refine TC_know (fun w hw => hw.sqSome (i := 0) rfl (by omega)) (fun hsome => ?_)
                    obtain ⟨g5, rfl⟩ := hsome
                    refine TC_know (fun w hw => hw.sqSome (i := 1) rfl (by omega)) (fun hsome => ?_)
                    obtain ⟨g6, rfl⟩ := hsome
                    refine TC_skip ?_
                    refine TC_seq ?_
                    refine TC_block ?_
                    refine TC_seq ?_
                    refine TC_region ?_
                    refine OL_sil rfl rfl rfl (Sil.move rfl rfl) ?_
                    refine OL_sil rfl rfl rfl (Sil.assign rfl rfl) ?_
                    refine OL_nil ?_
                    refine TC_seq ?_
                    refine TC_draw rfl (fun j => false) ?_
                    refine DL_take 0 rfl (by kernel_rfl) rfl rfl rfl (Sil.move rfl rfl) (fun _ hr => hr) ?_
                    refine DL_take 1 rfl (by kernel_rfl) rfl rfl rfl (Sil.move rfl rfl) (fun _ hr => hr) ?_
                    refine DL_take 2 rfl (by kernel_rfl) rfl rfl rfl (Sil.indexOwn j rfl rfl rfl Try.underlying25 rfl rfl (by omega)) (fun _ hr => hr) ?_
                    refine DL_take 3 rfl (by kernel_rfl) rfl rfl rfl (Sil.fieldLoc 0 rfl rfl Try.underlying43 rfl rfl) (fun _ hr => hr) ?_
                    refine DL_take 4 rfl (by kernel_rfl) rfl rfl rfl (Sil.sqLoad 1 rfl rfl rfl Try.underlying3 rfl (rvsC_at hu2 0 _ rfl)) (fun _ hr => hr) ?_
                    refine DL_take 5 rfl (by kernel_rfl) rfl rfl rfl (Sil.move rfl rfl) (fun _ hr => hr) ?_
                    refine DL_take 6 rfl (by kernel_rfl) rfl rfl rfl (Sil.move rfl rfl) (fun _ hr => hr) ?_
                    refine DL_take 7 rfl (by kernel_rfl) rfl rfl rfl (Sil.indexOwn j rfl rfl rfl Try.underlying25 rfl rfl (by omega)) (fun _ hr => hr) ?_
                    refine DL_take 8 rfl (by kernel_rfl) rfl rfl rfl (Sil.fieldLoc 0 rfl rfl Try.underlying43 rfl rfl) (fun _ hr => hr) ?_
                    refine DL_take 9 rfl (by kernel_rfl) rfl rfl rfl (Sil.sqLoad 0 rfl rfl rfl Try.underlying3 rfl (rvsC_at hu1 0 _ rfl)) (fun _ hr => hr) ?_
                    refine DL_take 10 rfl (by kernel_rfl) rfl rfl rfl (Sil.neq rfl rfl rfl) (fun _ hr => hr) ?_
                    refine DL_take 11 rfl (by kernel_rfl) rfl rfl rfl (Sil.move rfl rfl) (fun _ hr => hr) ?_
                    refine DL_decn 87 rfl (fun ht87 => ?_) (fun ht87 => ?_)
                    · exact absurd hs1.symm ht87
                    · refine DL_take 12 rfl (by kernel_rfl) rfl rfl rfl (Sil.move rfl rfl) (fun _ hr => hr) ?_
                      refine DL_take 13 rfl (by kernel_rfl) rfl rfl rfl (Sil.move rfl rfl) (fun _ hr => hr) ?_
                      refine DL_take 14 rfl (by kernel_rfl) rfl rfl rfl (Sil.indexOwn j rfl rfl rfl Try.underlying25 rfl rfl (by omega)) (fun _ hr => hr) ?_
                      refine DL_take 15 rfl (by kernel_rfl) rfl rfl rfl (Sil.fieldLoc 1 rfl rfl Try.underlying43 rfl rfl) (fun _ hr => hr) ?_
                      refine DL_take 16 rfl (by kernel_rfl) rfl rfl rfl (Sil.sqLoad 1 rfl rfl rfl Try.underlying3 rfl (rvsC_at hu2 1 _ rfl)) (fun _ hr => hr) ?_
                      refine DL_take 17 rfl (by kernel_rfl) rfl rfl rfl (Sil.neq rfl rfl rfl) (fun _ hr => hr) ?_
                      refine DL_take 18 rfl (by kernel_rfl) rfl rfl rfl (Sil.move rfl rfl) (fun _ hr => hr) ?_
                      refine DL_decn 94 rfl (fun ht94 => ?_) (fun ht94 => ?_)
                      · refine DL_take 19 rfl (by kernel_rfl) rfl rfl rfl (Sil.move rfl rfl) (fun _ hr => hr) ?_
                        refine DL_take 20 rfl (by kernel_rfl) rfl rfl rfl (Sil.move rfl rfl) (fun _ hr => hr) ?_
                        refine DL_take 21 rfl (by kernel_rfl) rfl rfl rfl (Sil.indexOwn j rfl rfl rfl Try.underlying25 rfl rfl (by omega)) (fun _ hr => hr) ?_
                        refine DL_take 22 rfl (by kernel_rfl) rfl rfl rfl (Sil.fieldLoc 1 rfl rfl Try.underlying43 rfl rfl) (fun _ hr => hr) ?_
                        refine DL_take 23 rfl (by kernel_rfl) rfl rfl rfl (Sil.sqLoad 1 rfl rfl rfl Try.underlying3 rfl (rvsC_at hu2 1 _ rfl)) (fun _ hr => hr) ?_
                        refine DL_take 24 rfl (by kernel_rfl) rfl rfl rfl (Sil.move rfl rfl) (fun _ hr => hr) ?_
                        refine DL_take 25 rfl (by kernel_rfl) rfl rfl rfl (Sil.move rfl rfl) (fun _ hr => hr) ?_
                        refine DL_take 26 rfl (by kernel_rfl) rfl rfl rfl (Sil.indexOwn j rfl rfl rfl Try.underlying25 rfl rfl (by omega)) (fun _ hr => hr) ?_
                        refine DL_take 27 rfl (by kernel_rfl) rfl rfl rfl (Sil.fieldLoc 1 rfl rfl Try.underlying43 rfl rfl) (fun _ hr => hr) ?_
                        refine DL_take 28 rfl (by kernel_rfl) rfl rfl rfl (Sil.sqLoad 0 rfl rfl rfl Try.underlying3 rfl (rvsC_at hu1 1 _ rfl)) (fun _ hr => hr) ?_
                        refine DL_take 29 rfl (by kernel_rfl) rfl rfl rfl (Sil.neq rfl rfl rfl) (fun _ hr => hr) ?_
                        refine DL_take 30 rfl (by kernel_rfl) rfl rfl rfl (Sil.pick1 rfl rfl rfl) (fun _ hr => hr) ?_
                        refine DL_take 31 rfl (by kernel_rfl) rfl rfl rfl (Sil.pick0 rfl rfl rfl) (fun _ hr => hr) ?_
                        refine DL_done (by kernel_rfl) ?_
                        refine TC_ifn rfl (fun ht107 => ?_) (fun ht107 => ?_)
                        · exact absurd (hs2.resolve_left ht94).symm ht107
                        · refine TC_skip ?_
                          refine TC_region ?_
                          refine OL_sil rfl rfl rfl (Sil.add rfl rfl rfl (by omega) (by omega)) ?_
                          refine OL_sil rfl rfl rfl (Sil.move rfl rfl) ?_
                          refine OL_nil ?_
                          exact ⟨j + 1, ⟨by omega, ⟨rfl, rfl, rfl, rfl, trivial⟩, List.Sublist.refl _⟩, by omega⟩
                      · refine DL_takeSkip 19 rfl (by kernel_rfl) rfl rfl rfl (fun _ hr => hr) ?_
                        refine DL_takeSkip 20 rfl (by kernel_rfl) rfl rfl rfl (fun _ hr => hr) ?_
                        refine DL_takeSkip 21 rfl (by kernel_rfl) rfl rfl rfl (fun _ hr => hr) ?_
                        refine DL_takeSkip 22 rfl (by kernel_rfl) rfl rfl rfl (fun _ hr => hr) ?_
                        refine DL_takeSkip 23 rfl (by kernel_rfl) rfl rfl rfl (fun _ hr => hr) ?_
                        refine DL_takeSkip 24 rfl (by kernel_rfl) rfl rfl rfl (fun _ hr => hr) ?_
                        refine DL_takeSkip 25 rfl (by kernel_rfl) rfl rfl rfl (fun _ hr => hr) ?_
                        refine DL_takeSkip 26 rfl (by kernel_rfl) rfl rfl rfl (fun _ hr => hr) ?_
                        refine DL_takeSkip 27 rfl (by kernel_rfl) rfl rfl rfl (fun _ hr => hr) ?_
                        refine DL_takeSkip 28 rfl (by kernel_rfl) rfl rfl rfl (fun _ hr => hr) ?_
                        refine DL_takeSkip 29 rfl (by kernel_rfl) rfl rfl rfl (fun _ hr => hr) ?_
                        refine DL_take 30 rfl (by kernel_rfl) rfl rfl rfl (Sil.pick0 rfl rfl rfl) (fun _ hr => hr) ?_
                        refine DL_take 31 rfl (by kernel_rfl) rfl rfl rfl (Sil.pick0 rfl rfl rfl) (fun _ hr => hr) ?_
                        refine DL_done (by kernel_rfl) ?_
                        refine TC_no rfl ?_
                        refine TC_skip ?_
                        refine TC_region ?_
                        refine OL_sil rfl rfl rfl (Sil.add rfl rfl rfl (by omega) (by omega)) ?_
                        refine OL_sil rfl rfl rfl (Sil.move rfl rfl) ?_
                        refine OL_nil ?_
                        exact ⟨j + 1, ⟨by omega, ⟨rfl, rfl, rfl, rfl, trivial⟩, List.Sublist.refl _⟩, by omega⟩
                  · refine TC_exit ?_
                    refine TC_seq ?_
                    refine TC_region ?_
                    refine OL_sil rfl rfl rfl (Sil.assign rfl rfl) ?_
                    refine OL_nil ?_
                    refine TC_ret ?_
                    exact ret1 rfl rfl ⟨rfl, rfl⟩
theorem HistPrefix_bad (es : List RcD) (a : Option Addr) (cap : Nat) (n : Int) (w0 : World) (hx : RcsAt w0 a es) (h0 : errC es ≠ 0) :
    Gives Try.prog 9 [.slice a es.length cap, .int .i64 n] w0 [] fun v h => v = .bool true ∧ h = [] := by
  refine gives_of Try.func9 rfl rfl rfl (Own.start w0) ?_
  refine TC_seq ?_
  refine TC_region ?_
  refine OL_sil rfl rfl rfl (Sil.assign rfl rfl) ?_
  refine OL_nil ?_
  refine TC_seq ?_
  refine TC_seq ?_
  refine TC_region ?_
  refine OL_pure rfl rfl rfl (LO.pure rfl ent24 rfl (fun w _ => head5_gives w)) ?_
  refine OL_sil rfl rfl rfl (Sil.not rfl rfl) ?_
  refine OL_nil ?_
  refine TC_no rfl ?_
  refine TC_skip ?_
  refine TC_seq ?_
  refine TC_seq ?_
  refine TC_region ?_
  refine OL_sil rfl rfl rfl (Sil.move rfl rfl) ?_
  refine OL_loud rfl rfl rfl (LO.calls rfl ent25 rfl (fun w hw => big5_gives es a cap w (hx.keep hw.keep))) ?_
  rintro _ _ ⟨_, ⟨bb, rfl, _, rfl⟩, rfl⟩
  refine OL_nil ?_
  refine TC_cond rfl (fun ht18 => ?_) (fun ht18 => ?_)
  · refine TC_seq ?_
    refine TC_region ?_
    refine OL_sil rfl rfl rfl (Sil.assign rfl rfl) ?_
    refine OL_nil ?_
    refine TC_ret ?_
    exact ret1 rfl rfl ⟨rfl, rfl⟩
  · refine TC_skip ?_
    refine TC_seq ?_
    refine TC_region ?_
    refine OL_sil rfl rfl rfl (Sil.move rfl rfl) ?_
    refine OL_loud rfl rfl rfl (LO.calls rfl ent27 rfl (fun w hw => (histOf_gives es a cap w (hx.keep hw.keep)).mono (fun v h hR => hR.bad h0))) ?_
    rintro _ _ ⟨_, ⟨rfl, rfl⟩, rfl⟩
    refine OL_sil rfl rfl rfl (Sil.move rfl rfl) ?_
    refine OL_sil rfl rfl rfl (Sil.extract rfl rfl rfl) ?_
    refine OL_sil rfl rfl rfl (Sil.extract rfl rfl rfl) ?_
    refine OL_sil rfl rfl rfl (Sil.extract rfl rfl rfl) ?_
    refine OL_sil rfl rfl rfl (Sil.assign rfl rfl) ?_
    refine OL_sil rfl rfl rfl (Sil.assign rfl rfl) ?_
    refine OL_sil rfl rfl rfl (Sil.assign rfl rfl) ?_
    refine OL_nil ?_
    refine TC_seq ?_
    refine TC_seq ?_
    refine TC_region ?_
    refine OL_sil rfl rfl rfl (Sil.move rfl rfl) ?_
    refine OL_sil rfl rfl rfl (Sil.neq rfl rfl rfl) ?_
    refine OL_nil ?_
    refine TC_ifn rfl (fun ht26 => ?_) (fun ht26 => ?_)
    · refine TC_seq ?_
      refine TC_region ?_
      refine OL_sil rfl rfl rfl (Sil.assign rfl rfl) ?_
      refine OL_nil ?_
      refine TC_ret ?_
      exact ret1 rfl rfl ⟨rfl, rfl⟩
    · exact absurd ht26 h0
theorem HistPrefix_gives (es : List RcD) (a : Option Addr) (cap : Nat) (n : Int) (hn : -9223372036854775808 ≤ n ∧ n ≤ 9223372036854775807) (w0 : World) (hx : RcsAt w0 a es) (hcap : es.length ≤ cap) :
    Gives Try.prog 9 [.slice a es.length cap, .int .i64 n] w0 [] fun v h => v = .bool true ∧ h = [] := by
  by_cases h0 : errC es = 0
  · exact HistPrefix_ok es a cap n hn w0 hx hcap h0
  · exact HistPrefix_bad es a cap n w0 hx h0
end Go.Proofs.Ytjnopbmanhialaa
