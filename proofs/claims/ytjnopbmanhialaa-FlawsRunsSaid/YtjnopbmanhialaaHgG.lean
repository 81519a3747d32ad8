/-
  Walk: FlawsRuns.
-/
import Derived.Test.YtjnopbmanhialaaHgF
namespace Go.Proofs.Ytjnopbmanhialaa
open Go.Cru

def ksOf (zs : List Int) : List Nat := zs.map fun z => (z % 18446744073709551616).toNat &&& 3
theorem ks_len (zs : List Int) : (ksOf zs).length = zs.length := by unfold ksOf; rw [List.length_map]
theorem ks_at (zs : List Int) {i : Nat} (hi : i < zs.length) : ∃ c, (ksOf zs)[i]? = some c ∧ c = (zs.getD i 0 % 18446744073709551616).toNat &&& 3 := by
  refine ⟨_, ?_, rfl⟩
  unfold ksOf
  rw [List.getElem?_map, List.getD_eq_getElem?_getD, List.getElem?_eq_getElem hi]
  rfl
theorem ks_is (zs : List Int) {i c : Nat} (h : (ksOf zs)[i]? = some c) : c = (zs.getD i 0 % 18446744073709551616).toNat &&& 3 := by
  obtain ⟨d, h1, h2⟩ := ks_at zs (i := i) (by have := ltOf h; rwa [ks_len] at this)
  rw [h] at h1
  cases h1
  exact h2
theorem ks_le3 (zs : List Int) : ∀ c ∈ ksOf zs, c ≤ 3 := fun c hc => by
  obtain ⟨z, _, rfl⟩ := List.mem_map.1 hc
  exact Nat.and_le_right
/-- Where a record's operations lie: a block of their own, in the bag. -/
def BLies (T : TypeId) (rs : List Res) (x : RcV) : Prop := ∃ b, x.2 = .slice (some ⟨b, 0, none⟩) x.1.ops.length x.1.ops.length ∧ x.1.ops.length ≤ maxLen ∧ blk b (.cells (opsC x.1.ops).toArray T (0, 0)) ∈ rs
theorem BLies.mono {T : TypeId} {rs rs' : List Res} {x : RcV} (h : BLies T rs x) (hs : ∀ r ∈ rs, r ∈ rs') : BLies T rs' x := by
  obtain ⟨b, h1, h2, h3⟩ := h
  exact ⟨b, h1, h2, hs _ h3⟩
theorem BLies.ops {T : TypeId} {rs : List Res} {x : RcV} {w : World} (h : BLies T rs x) (hb : (bagR rs).P (hf w)) : OpsV w x.2 x.1.ops := by
  obtain ⟨b, h1, h2, h3⟩ := h
  exact ⟨_, _, h1, OpsAt.of_blk (hb _ h3) h2⟩
theorem BLies.same {T : TypeId} {rs : List Res} {x : RcV} {p q : Int} {ops : List OpD} (h : BLies T rs x) (e : x.1.ops = ops) : BLies T rs (⟨p, q, ops⟩, x.2) := by
  subst e
  exact h

theorem FlawsRuns_none (zs : List Int) (a : Option Addr) (cap : Nat) (which : Int) (m wi : Nat) (hm : m = (which % 18446744073709551616).toNat &&& 1023) (hwi : wi = m % zs.length) (w0 : World) (hd : IntSl w0 a zs.length (fun i => zs.getD i 0)) (hmx : zs.length ≤ maxLen) (hnx : ∀ c, (ksOf zs)[wi]? = some c → nx (ksOf zs) wi c (ksOf zs).length = none) :
    Gives Try.prog 4 [.slice a zs.length cap, .int .i64 which] w0 [] fun v h => v = .bool true ∧ h = [] := by
  unfold maxLen at hmx
  have hkl := ks_len zs
  have h3 := ks_le3 zs
  obtain ⟨T, hT⟩ : ∃ T, T = runN (ksOf zs) (ksOf zs).length := ⟨_, rfl⟩
  have hTl : T.length = zs.length := by rw [hT, runN_len _ _ (Nat.le_refl _), hkl]
  have hfl : flN (kindA T) T T.length = [] := by rw [hTl, ← hkl, hT]; exact run_fl _ h3 _ (Nat.le_refl _)
  have hsu : ∀ j, j < T.length → gN (wfA T) T T.length j = true := fun j hj => by rw [hT]; exact run_sure _ _ (by omega)
  have hops : ∀ t ∈ T, t.ops.length ≤ 1000 := fun t ht => by
    obtain ⟨j, hj⟩ := List.mem_iff_getElem?.1 ht
    rw [hT] at hj
    obtain ⟨c, _, rfl⟩ := run_at' _ hj
    show 2 ≤ 1000
    decide
  refine gives_of Try.func4 rfl rfl rfl (Own.start w0) ?_
  refine TC_seq ?_
  refine TC_region ?_
  refine OL_sil rfl rfl rfl (Sil.assign rfl rfl) ?_
  refine OL_nil ?_
  refine TC_seq ?_
  refine TC_seq ?_
  refine TC_region ?_
  refine OL_pure rfl rfl rfl (LO.pure rfl ent15 rfl (fun w _ => head8_gives w)) ?_
  refine OL_sil rfl rfl rfl (Sil.not rfl rfl) ?_
  refine OL_nil ?_
  refine TC_no rfl ?_
  refine TC_skip ?_
  refine TC_seq ?_
  refine TC_seq ?_
  refine TC_region ?_
  refine OL_sil rfl rfl rfl (Sil.move rfl rfl) ?_
  refine OL_sil rfl rfl rfl (Sil.lenSl rfl rfl Try.underlying37) ?_
  refine OL_sil rfl rfl rfl (Sil.gtr rfl rfl rfl) ?_
  refine OL_nil ?_
  refine TC_if rfl (fun ht20 => ?_) (fun ht20 => ?_)
  · refine TC_seq ?_
    refine TC_region ?_
    refine OL_sil rfl rfl rfl (Sil.assign rfl rfl) ?_
    refine OL_nil ?_
    refine TC_ret ?_
    exact ret1 rfl rfl ⟨rfl, rfl⟩
  · refine TC_skip ?_
    refine TC_seq ?_
    refine TC_region ?_
    refine OL_sil rfl rfl rfl (Sil.build (vs := []) (cs := arrI 4 (fun _ => 0)) rfl rfl (fun _ => rfl)) ?_
    refine OL_loud rfl rfl rfl (LO.alloc rfl rfl) ?_
    rintro _ _ ⟨b5, _, rfl, rfl⟩
    refine OL_loud0 rfl rfl (by first | exact LO.storeAllV rfl rfl rfl (by first | exact at0 | exact at1 | exact at2 | exact at3 | exact at4 | exact at5 | exact at6 | exact at7 | exact at8 | exact at9 | exact at10 | exact at11 | exact at12 | exact at13 | exact at14 | exact at15) (by rfl) (by rfl) (by rfl) (by rfl) | exact LO.store1V rfl rfl rfl (by first | exact at0 | exact at1 | exact at2 | exact at3 | exact at4 | exact at5 | exact at6 | exact at7 | exact at8 | exact at9 | exact at10 | exact at11 | exact at12 | exact at13 | exact at14 | exact at15) (by rfl) (by rfl) (by rfl)) ?_
    rintro _ _ ⟨rfl, rfl⟩
    refine OL_nil ?_
    refine TC_seq ?_
    refine TC_region ?_
    refine OL_loud rfl rfl rfl (LO.buildSlice0 (s := 3) rfl Try.underlying25 rfl) ?_
    rintro _ _ ⟨g0, rfl, rfl⟩
    refine OL_sil rfl rfl rfl (Sil.assign rfl rfl) ?_
    refine OL_nil ?_
    refine TC_own (fun w hw => hw.bag0) ?_
    refine TC_seq ?_
    refine TC_seq ?_
    refine TC_region ?_
    refine OL_sil rfl rfl rfl (Sil.move rfl rfl) ?_
    refine OL_sil rfl rfl rfl (Sil.lenSl rfl rfl Try.underlying37) ?_
    refine OL_sil rfl rfl rfl (Sil.move rfl rfl) ?_
    refine OL_nil ?_
    refine TC_block ?_
    refine TC_loop (fun ((i, xs, ao, cp, rs) : Nat × List RcV × Option Addr × Nat × List Res) => [(0, .slice a zs.length cap), (1, .int .i64 which), (5, .pointer (some ⟨b5, 0, none⟩)), (6, .slice ao xs.length cp), (23, .slice a zs.length cap), (24, .int .i64 zs.length), (25, .int .i64 i)]) (fun (i, xs, ao, cp, rs) => [blk b5 (.cells (arrI 4 (fun k => (lastU (ksOf zs) i k : Int))) 38 (0, 0)), sq ao xs.length cp 43 3 (rvsC xs), bagR rs]) (fun (i, xs, ao, cp, rs) => i ≤ zs.length ∧ xs.map (·.1) = runN (ksOf zs) i ∧ ∀ x ∈ xs, BLies 40 rs x) (fun (i, _) => zs.length - i) (0, [], some ⟨g0, 0, none⟩, 0, []) ?_ ?_
    · exact ⟨⟨Nat.zero_le _, rfl, fun x hx => by cases hx⟩, ⟨rfl, rfl, rfl, rfl, rfl, rfl, rfl, trivial⟩, List.Sublist.refl _⟩
    · rintro ⟨i, xs, ao, cp, rs⟩ ⟨hi, hxs, hli⟩
      have hi : i ≤ zs.length := hi
      have hxs : xs.map (·.1) = runN (ksOf zs) i := hxs
      have hli : ∀ x ∈ xs, BLies 40 rs x := hli
      have hxl : xs.length = i := by have := congrArg List.length hxs; rw [runN_len _ _ (by omega)] at this; simpa using this
      refine TC_seq ?_
      refine TC_region ?_
      refine OL_sil rfl rfl rfl (Sil.lss rfl rfl rfl) ?_
      refine OL_nil ?_
      refine TC_seq ?_
      refine TC_if rfl (fun ht26 => ?_) (fun ht26 => ?_)
      · obtain ⟨c, hc, hce⟩ := ks_at zs (i := i) (by omega)
        have hc3 := h3 c (List.mem_of_getElem? hc)
        obtain ⟨x, hax, hcell⟩ := hd i (by omega)
        subst hax
        have hupd : updI (fun k => (lastU (ksOf zs) i k : Int)) c ((i : Int) + 1) = fun k => (lastU (ksOf zs) (i + 1) k : Int) := by
          funext k
          unfold updI
          by_cases e : k = c
          · subst e; rw [if_pos rfl, lastU_hit hc]; push_cast; rfl
          · rw [if_neg e, lastU_miss hc (Ne.symm e)]
        refine TC_skip ?_
        refine TC_seq ?_
        refine TC_block ?_
        refine TC_seq ?_
        refine TC_region ?_
        refine OL_sil rfl rfl rfl (Sil.move rfl rfl) ?_
        refine OL_sil rfl rfl rfl (Sil.indexSl1 i rfl rfl rfl Try.underlying37 rfl rfl (by omega)) ?_
        refine OL_sil rfl rfl rfl (Sil.old rfl rfl Try.underlying3 rfl hcell (by simp)) ?_
        refine OL_sil rfl rfl rfl (Sil.assign rfl rfl) ?_
        refine OL_sil rfl rfl rfl (Sil.assign rfl rfl) ?_
        refine OL_nil ?_
        refine TC_seq ?_
        refine TC_region ?_
        refine OL_sil rfl rfl rfl (Sil.move rfl rfl) ?_
        refine OL_sil rfl rfl rfl (Sil.andw (j := 3) rfl rfl rfl (by decide)) ?_
        refine OL_slot 31 (v := .int .i64 (c : Int)) rfl (by rw [hce]) ?_
        refine OL_sil rfl rfl rfl (Sil.assign rfl rfl) ?_
        refine OL_nil ?_
        refine TC_seq ?_
        refine TC_region ?_
        refine OL_sil rfl rfl rfl (Sil.move rfl rfl) ?_
        refine OL_sil rfl rfl rfl (Sil.move rfl rfl) ?_
        refine OL_sil rfl rfl rfl (Sil.move rfl rfl) ?_
        refine OL_sil rfl rfl rfl (Sil.indexLoc1 c rfl rfl rfl Try.underlying38 rfl rfl (by omega)) ?_
        refine OL_sil rfl rfl rfl (Sil.own 0 rfl rfl rfl Try.underlying3 rfl (arrI_at _ _ c (by omega))) ?_
        refine OL_sil rfl rfl rfl (Sil.buildS (vs := [(0, .int .i64 1), (1, .int .i64 c), (2, .int .i64 (lastU (ksOf zs) i c))]) (cs := (iv [1, (c : Int), (lastU (ksOf zs) i c : Int)]).toArray) (ss := [1, 1, 1]) rfl rfl Try.underlying40 rfl rfl rfl) ?_
        refine OL_sil rfl rfl rfl (Sil.move rfl rfl) ?_
        refine OL_sil rfl rfl rfl (Sil.move rfl rfl) ?_
        refine OL_sil rfl rfl rfl (Sil.add rfl rfl rfl (by omega) (by omega)) ?_
        refine OL_sil rfl rfl rfl (Sil.buildS (vs := [(0, .int .i64 2), (1, .int .i64 c), (2, .int .i64 ((i : Int) + 1))]) (cs := (iv [2, (c : Int), (i : Int) + 1]).toArray) (ss := [1, 1, 1]) rfl rfl Try.underlying40 rfl rfl rfl) ?_
        refine OL_loud rfl rfl rfl (LO.buildSlice (vs := [(0, agI [1, (c : Int), (lastU (ksOf zs) i c : Int)]), (1, agI [2, (c : Int), (i : Int) + 1])]) (cs := (opsC (runO (ksOf zs) i c)).toArray) (e := 40) rfl rfl (fun w => by kernel_rfl)) ?_
        rintro _ _ ⟨q1, rfl, rfl⟩
        refine OL_sil rfl rfl rfl (Sil.buildAll [(0, _), (1, _), (2, _)] rfl rfl Try.underlying43 rfl rfl rfl) ?_
        refine OL_loud rfl rfl rfl (LO.buildSlice1 rfl rfl Try.underlying25 rfl rfl rfl) ?_
        rintro _ _ ⟨tb, rfl, rfl⟩
        refine OL_loud rfl rfl rfl (LO.append 1 (rcC (runT (ksOf zs) i c) (.slice (some ⟨q1, 0, none⟩) 2 2)) rfl rfl rfl rfl elTx rfl (fun w hw => hw.cells (i := 4) rfl) (by simp [rcC, oneC]) (by unfold maxLen; omega) (by omega)) ?_
        rintro _ _ ⟨ao1, cp1, rfl, rfl⟩
        refine OL_sil rfl rfl rfl (Sil.assign rfl rfl) ?_
        refine OL_nil ?_
        refine TC_own (fun w hw => hw.bagPut (A := [_, _]) (B := []) (C := [_]) rfl) ?_
        refine TC_region ?_
        refine OL_sil rfl rfl rfl (Sil.move rfl rfl) ?_
        refine OL_sil rfl rfl rfl (Sil.move rfl rfl) ?_
        refine OL_sil rfl rfl rfl (Sil.add rfl rfl rfl (by omega) (by omega)) ?_
        refine OL_sil rfl rfl rfl (Sil.indexLoc1 c rfl rfl rfl Try.underlying38 rfl rfl (by omega)) ?_
        refine OL_loud0 rfl rfl (LO.storeAs 0 (arrI 4 (updI (fun k => (lastU (ksOf zs) i k : Int)) c ((i : Int) + 1))) rfl rfl rfl rfl rfl rfl (by simp [Value.cells, oneC]) (by rw [arrI_size]; show c + 1 ≤ 4; omega) (arrI_put _ _ _ _)) ?_
        rintro _ _ ⟨rfl, rfl⟩
        refine OL_nil ?_
        refine TC_region ?_
        refine OL_sil rfl rfl rfl (Sil.add rfl rfl rfl (by omega) (by omega)) ?_
        refine OL_sil rfl rfl rfl (Sil.move rfl rfl) ?_
        refine OL_nil ?_
        refine ⟨(i + 1, xs ++ [(runT (ksOf zs) i c, .slice (some ⟨q1, 0, none⟩) 2 2)], ao1, cp1, rs ++ [blk q1 (.cells (opsC (runO (ksOf zs) i c)).toArray 40 (0, 0))]), ⟨⟨by show i + 1 ≤ zs.length; omega, ?_, ?_⟩, ⟨rfl, rfl, rfl, slotV rfl (by simp), rfl, rfl, slotI rfl (by push_cast; rfl), trivial⟩, ?_⟩, by show zs.length - (i + 1) < zs.length - i; omega⟩
        · show (xs ++ [(_ : RcV)]).map (·.1) = runN (ksOf zs) (i + 1)
          rw [runN_succ hc, List.map_append, hxs]
          rfl
        · intro y hy
          rcases List.mem_append.1 hy with hy | hy
          · exact (hli y hy).mono fun r hr => List.mem_append_left _ hr
          · rw [List.mem_singleton.1 hy]
            exact ⟨q1, rfl, show 2 ≤ maxLen by decide, List.mem_append_right _ (List.mem_singleton.2 rfl)⟩
        · show List.Sublist [blk b5 (.cells (arrI 4 (fun k => (lastU (ksOf zs) (i + 1) k : Int))) _ (0, 0)), sq ao1 (xs ++ [_]).length cp1 _ 3 (rvsC (xs ++ [_])), bagR _] _
          rw [← rvsC_snoc, List.length_append, ← hupd]
          exact List.Sublist.cons_cons _ (List.Sublist.cons_cons _ (List.Sublist.cons_cons _ (List.nil_sublist _)))
      · have hie : i = zs.length := by omega
        subst hie
        have hxT : xs.map (·.1) = T := by rw [hT, hkl]; exact hxs
        refine TC_slot 6 (v := .slice ao T.length cp) rfl (by rw [hTl]; show Value.slice ao xs.length cp = _; rw [hxl]) ?_
        refine TC_exit ?_
        refine TC_seq ?_
        refine TC_seq ?_
        refine TC_region ?_
        refine OL_sil rfl rfl rfl (Sil.move rfl rfl) ?_
        refine OL_loud rfl rfl rfl (LO.calls rfl ent18 rfl (fun w hw => (All_gives T ao cp w (hxT ▸ RcsAt.of_sqV (hw.mine _ (List.mem_of_getElem? (i := 1) rfl)) (fun x hx => (hli x hx).ops (hw.mine _ (List.mem_of_getElem? (i := 2) rfl)))) (by omega) hops).mono (fun v h hR => by rw [hfl] at hR; exact hR))) ?_
        rintro _ _ ⟨_, ⟨af, cf, rfl, rfl⟩, rfl⟩
        refine OL_sil rfl rfl rfl (Sil.lenSl rfl rfl Try.underlying28) ?_
        refine OL_sil rfl rfl rfl (Sil.neq rfl rfl rfl) ?_
        refine OL_nil ?_
        refine TC_ifn rfl (fun ht54 => ?_) (fun ht54 => ?_)
        · exact absurd rfl ht54
        · refine TC_skip ?_
          refine TC_seq ?_
          refine TC_seq ?_
          refine TC_region ?_
          refine OL_sil rfl rfl rfl (Sil.move rfl rfl) ?_
          refine OL_loud rfl rfl rfl (LO.calls rfl ent20 rfl (fun w hw => Sure_gives T ao cp w (hxT ▸ RcsAt.of_sqV (hw.mine _ (List.mem_of_getElem? (i := 1) rfl)) (fun x hx => (hli x hx).ops (hw.mine _ (List.mem_of_getElem? (i := 2) rfl)))) (by omega) hops)) ?_
          rintro _ _ ⟨_, ⟨sb, rfl, rfl⟩, rfl⟩
          refine OL_sil rfl rfl rfl (Sil.lenSl rfl rfl Try.underlying35) ?_
          refine OL_sil rfl rfl rfl (Sil.move rfl rfl) ?_
          refine OL_nil ?_
          refine TC_block ?_
          refine TC_loop (fun i : Nat => [(0, .slice a zs.length cap), (1, .int .i64 which), (6, .slice ao T.length cp), (56, .slice (some ⟨sb, 0, none⟩) T.length T.length), (57, .int .i64 T.length), (58, .int .i64 i)]) (fun _ => [sq ao xs.length cp 43 3 (rvsC xs), bagR rs, blk sb (.cells (arrB T.length (gN (wfA T) T T.length)) 4 (0, 0))]) (fun i => i ≤ T.length) (fun i => T.length - i) 0 ?_ ?_
          · exact ⟨Nat.zero_le _, ⟨rfl, rfl, rfl, rfl, rfl, rfl, trivial⟩, List.Sublist.cons _ (List.Sublist.cons_cons _ (List.Sublist.cons_cons _ (List.Sublist.cons _ (List.Sublist.refl _))))⟩
          · intro i hi
            refine TC_seq ?_
            refine TC_region ?_
            refine OL_sil rfl rfl rfl (Sil.lss rfl rfl rfl) ?_
            refine OL_nil ?_
            refine TC_seq ?_
            refine TC_if rfl (fun ht59 => ?_) (fun ht59 => ?_)
            · refine TC_skip ?_
              refine TC_seq ?_
              refine TC_block ?_
              refine TC_seq ?_
              refine TC_region ?_
              refine OL_sil rfl rfl rfl (Sil.indexOwn1 i rfl rfl rfl Try.underlying35 rfl rfl (by omega)) ?_
              refine OL_sil rfl rfl rfl (Sil.own 2 rfl rfl rfl Try.underlying4 rfl (arrB_at _ _ i (by omega))) ?_
              refine OL_slot 61 (v := .bool true) rfl (congrArg Value.bool (hsu i (by omega))) ?_
              refine OL_sil rfl rfl rfl (Sil.assign rfl rfl) ?_
              refine OL_nil ?_
              refine TC_seq ?_
              refine TC_region ?_
              refine OL_sil rfl rfl rfl (Sil.move rfl rfl) ?_
              refine OL_sil rfl rfl rfl (Sil.not rfl rfl) ?_
              refine OL_nil ?_
              refine TC_no rfl ?_
              refine TC_skip ?_
              refine TC_region ?_
              refine OL_sil rfl rfl rfl (Sil.add rfl rfl rfl (by omega) (by omega)) ?_
              refine OL_sil rfl rfl rfl (Sil.move rfl rfl) ?_
              refine OL_nil ?_
              exact ⟨i + 1, ⟨by omega, ⟨rfl, rfl, rfl, rfl, rfl, slotI rfl (by push_cast; rfl), trivial⟩, List.Sublist.refl _⟩, by omega⟩
            · refine TC_exit ?_
              refine TC_seq ?_
              refine TC_seq ?_
              refine TC_region ?_
              refine OL_sil rfl rfl rfl (Sil.move rfl rfl) ?_
              refine OL_sil rfl rfl rfl (Sil.lenSl rfl rfl Try.underlying25) ?_
              refine OL_sil rfl rfl rfl (Sil.eql rfl rfl rfl) ?_
              refine OL_nil ?_
              refine TC_if rfl (fun ht67 => ?_) (fun ht67 => ?_)
              · refine TC_seq ?_
                refine TC_region ?_
                refine OL_sil rfl rfl rfl (Sil.assign rfl rfl) ?_
                refine OL_nil ?_
                refine TC_ret ?_
                exact ret1 rfl rfl ⟨rfl, rfl⟩
              · have hwl : wi < T.length := by rw [hTl, hwi]; exact Nat.mod_lt _ (by omega)
                obtain ⟨⟨tr, u⟩, hxw⟩ : ∃ x, xs[wi]? = some x := ⟨_, List.getElem?_eq_getElem (by omega)⟩
                have htr : T[wi]? = some tr := by rw [← hxT, List.getElem?_map, hxw]; rfl
                obtain ⟨c, hc, htc⟩ := run_at' (ksOf zs) (hT ▸ htr)
                subst htc
                have hce := ks_is zs hc
                refine TC_know (fun w hw => hw.sqSome (i := 0) rfl (by omega)) (fun hsome => ?_)
                obtain ⟨g5, rfl⟩ := hsome
                refine TC_skip ?_
                refine TC_seq ?_
                refine TC_region ?_
                refine OL_sil rfl rfl rfl (Sil.move rfl rfl) ?_
                refine OL_sil rfl rfl rfl (Sil.andw (j := 1023) rfl rfl rfl (by decide)) ?_
                refine OL_slot 69 (v := .int .i64 (m : Int)) rfl (by rw [hm]) ?_
                refine OL_sil rfl rfl rfl (Sil.move rfl rfl) ?_
                refine OL_sil rfl rfl rfl (Sil.lenSl rfl rfl Try.underlying25) ?_
                refine OL_sil rfl rfl rfl (Sil.rem rfl rfl rfl (by omega) (by omega)) ?_
                refine OL_slot 72 (v := .int .i64 (wi : Int)) rfl (congrArg _ (by rw [hwi, hTl]; push_cast; rfl)) ?_
                refine OL_sil rfl rfl rfl (Sil.assign rfl rfl) ?_
                refine OL_nil ?_
                refine TC_seq ?_
                refine TC_region ?_
                refine OL_sil rfl rfl rfl (Sil.move rfl rfl) ?_
                refine OL_sil rfl rfl rfl (Sil.move rfl rfl) ?_
                refine OL_sil rfl rfl rfl (Sil.indexOwn wi rfl rfl rfl Try.underlying25 rfl rfl (by omega)) ?_
                refine OL_sil rfl rfl rfl (Sil.fieldLoc 1 rfl rfl Try.underlying43 rfl rfl) ?_
                refine OL_loud0 rfl rfl (LO.sqStoreAs 0 rfl rfl rfl rfl rfl rfl rfl (by show wi * 3 + 1 < xs.length * 3; omega) (rvsC_set1 hxw 2)) ?_
                rintro _ _ ⟨rfl, rfl⟩
                refine OL_nil ?_
                obtain ⟨x2, hx2⟩ : ∃ x2, x2 = xs.set wi (⟨1, 2, runO (ksOf zs) wi c⟩, u) := ⟨_, rfl⟩
                obtain ⟨G, hG⟩ : ∃ G, G = runG (ksOf zs) wi c := ⟨_, rfl⟩
                have hxG : x2.map (·.1) = G := by rw [hx2, hG, List.map_set, hxT, hT]; rfl
                have hGl : G.length = zs.length := by rw [hG, runG_len, hkl]
                have hx2l : x2.length = xs.length := by rw [hx2, List.length_set]
                have hl2 : ∀ x ∈ x2, BLies 40 rs x := by
                  rw [hx2]
                  intro y hy
                  rcases List.mem_or_eq_of_mem_set hy with hy | rfl
                  · exact hli y hy
                  · exact (hli _ (List.mem_of_getElem? hxw)).same rfl
                have hopsG : ∀ t ∈ G, t.ops.length ≤ 1000 := fun t ht => by
                  rw [hG] at ht
                  rcases List.mem_or_eq_of_mem_set ht with ht | rfl
                  · exact hops t (hT ▸ ht)
                  · show 2 ≤ 1000; decide
                have hsG : gN (wfA G) G G.length wi = false := by rw [hG]; exact more_sure (t := runT (ksOf zs) wi c) (hT ▸ htr) _ _
                obtain ⟨F, hF⟩ : ∃ F, F = flN (kindA G) G G.length := ⟨_, rfl⟩
                have hno : nx (ksOf zs) wi c zs.length = none := by rw [← hkl]; exact hnx c hc
                have hFv : F = [] := by rw [hF, hGl, ← hkl, hG, gone_fl h3 hc _ (Nat.le_refl _), hkl, hno]; rfl
                refine TC_slot 6 (v := .slice (some ⟨g5, 0, none⟩) G.length cp) rfl (by rw [hGl, hTl]) ?_
                refine TC_own (h' := [sq (some ⟨g5, 0, none⟩) x2.length cp 43 3 (rvsC x2), bagR rs, blk sb (.cells (arrB T.length (gN (wfA T) T T.length)) 4 (0, 0))]) (fun w hw => by rw [hx2l, hx2]; exact hw) ?_
                refine TC_seq ?_
                refine TC_region ?_
                refine OL_sil rfl rfl rfl (Sil.move rfl rfl) ?_
                refine OL_loud rfl rfl rfl (LO.calls rfl ent18 rfl (fun w hw => (All_gives G (some ⟨g5, 0, none⟩) cp w (hxG ▸ RcsAt.of_sqV (hw.mine _ (List.mem_of_getElem? (i := 0) rfl)) (fun x hx => (hl2 x hx).ops (hw.mine _ (List.mem_of_getElem? (i := 1) rfl)))) (by omega) hopsG).mono (fun v h hR => by rw [← hF] at hR; exact hR))) ?_
                rintro _ _ ⟨_, ⟨af2, cf2, rfl, rfl⟩, rfl⟩
                refine OL_sil rfl rfl rfl (Sil.assign rfl rfl) ?_
                refine OL_nil ?_
                refine TC_seq ?_
                refine TC_region ?_
                refine OL_sil rfl rfl rfl (Sil.assign rfl rfl) ?_
                refine OL_nil ?_
                refine TC_seq ?_
                refine TC_seq ?_
                refine TC_region ?_
                refine OL_sil rfl rfl rfl (Sil.move rfl rfl) ?_
                refine OL_sil rfl rfl rfl (Sil.lenSl rfl rfl Try.underlying37) ?_
                refine OL_sil rfl rfl rfl (Sil.move rfl rfl) ?_
                refine OL_nil ?_
                refine TC_block ?_
                refine TC_loop (fun i : Nat => [(0, .slice a zs.length cap), (1, .int .i64 wi), (6, .slice (some ⟨g5, 0, none⟩) G.length cp), (11, .slice af2 F.length cf2), (12, .bool (decide (hn (nx (ksOf zs) wi c i).isSome = 1))), (79, .slice a zs.length cap), (80, .int .i64 zs.length), (81, .int .i64 i)]) (fun _ => [sq (some ⟨g5, 0, none⟩) x2.length cp 43 3 (rvsC x2), bagR rs, sq af2 F.length cf2 33 3 (opsC F)]) (fun i => i ≤ zs.length) (fun i => zs.length - i) 0 ?_ ?_
                · exact ⟨Nat.zero_le _, ⟨rfl, rfl, rfl, rfl, rfl, rfl, rfl, rfl, trivial⟩, List.Sublist.cons_cons _ (List.Sublist.cons_cons _ (List.Sublist.cons _ (List.Sublist.refl _)))⟩
                · intro i hi
                  refine TC_seq ?_
                  refine TC_region ?_
                  refine OL_sil rfl rfl rfl (Sil.lss rfl rfl rfl) ?_
                  refine OL_nil ?_
                  refine TC_seq ?_
                  refine TC_if rfl (fun ht82 => ?_) (fun ht82 => ?_)
                  · obtain ⟨d, hdk, hde⟩ := ks_at zs (i := i) (by omega)
                    obtain ⟨x, hax, hcell⟩ := hd i (by omega)
                    obtain ⟨x', hax', hcw⟩ := hd wi (by omega)
                    subst hax
                    cases hax'
                    refine TC_skip ?_
                    refine TC_seq ?_
                    refine TC_block ?_
                    refine TC_seq ?_
                    refine TC_region ?_
                    refine OL_sil rfl rfl rfl (Sil.move rfl rfl) ?_
                    refine OL_sil rfl rfl rfl (Sil.indexSl1 i rfl rfl rfl Try.underlying37 rfl rfl (by omega)) ?_
                    refine OL_sil rfl rfl rfl (Sil.old rfl rfl Try.underlying3 rfl hcell (by simp)) ?_
                    refine OL_sil rfl rfl rfl (Sil.assign rfl rfl) ?_
                    refine OL_sil rfl rfl rfl (Sil.assign rfl rfl) ?_
                    refine OL_nil ?_
                    refine TC_boolE [86, 87, 88, 89, 90, 91, 92, 93, 94, 95, 96, 97, 98, 99, 100, 101, 12] 12 (hn (nx (ksOf zs) wi c i).isSome = 1 ∨ ((wi : Int) < i ∧ (d : Int) = c)) ?_ ?_
                    · refine TC_region ?_
                      refine OL_sil rfl rfl rfl (Sil.move rfl rfl) ?_
                      refine OL_sil rfl rfl rfl (Sil.move rfl rfl) ?_
                      refine OL_cases 87 rfl (fun ht87 => ?_) (fun ht87 => ?_)
                      · have ht87 := of_decide_eq_true ht87
                        refine OL_skip rfl rfl rfl ?_
                        refine OL_skip rfl rfl rfl ?_
                        refine OL_skip rfl rfl rfl ?_
                        refine OL_skip rfl rfl rfl ?_
                        refine OL_skip rfl rfl rfl ?_
                        refine OL_skip rfl rfl rfl ?_
                        refine OL_skip rfl rfl rfl ?_
                        refine OL_skip rfl rfl rfl ?_
                        refine OL_skip rfl rfl rfl ?_
                        refine OL_skip rfl rfl rfl ?_
                        refine OL_skip rfl rfl rfl ?_
                        refine OL_skip rfl rfl rfl ?_
                        refine OL_skip rfl rfl rfl ?_
                        refine OL_sil rfl rfl rfl (Sil.pick1 rfl rfl rfl) ?_
                        refine OL_sil rfl rfl rfl (Sil.assign rfl rfl) ?_
                        refine OL_nil ?_
                        (refine Cont.then_intro (And.intro (by (repeat' (first | exact Ext.refl | refine Ext.cons rfl ?_))) (And.intro ?_ rfl)); first | exact slotV rfl (congrArg Value.bool (decide_eq_true (by omega)).symm) | exact slotV rfl (congrArg Value.bool (decide_eq_false (by omega)).symm) | exact slotV rfl (congrArg Value.bool (decide_eq_decide.2 (by omega))) | exact slotV rfl (congrArg Value.bool (decide_not.symm.trans (decide_eq_decide.2 (by omega)))))
                      · have ht87 := of_decide_eq_false ht87
                        refine OL_sil rfl rfl rfl (Sil.move rfl rfl) ?_
                        refine OL_sil rfl rfl rfl (Sil.move rfl rfl) ?_
                        refine OL_sil rfl rfl rfl (Sil.gtr rfl rfl rfl) ?_
                        refine OL_sil rfl rfl rfl (Sil.move rfl rfl) ?_
                        refine OL_dec 91 rfl (fun ht91 => ?_) (fun ht91 => ?_)
                        · refine OL_sil rfl rfl rfl (Sil.move rfl rfl) ?_
                          refine OL_sil rfl rfl rfl (Sil.andw (j := 3) rfl rfl rfl (by decide)) ?_
                          refine OL_slot 93 (v := .int .i64 (d : Int)) rfl (by rw [hde]) ?_
                          refine OL_sil rfl rfl rfl (Sil.move rfl rfl) ?_
                          refine OL_sil rfl rfl rfl (Sil.move rfl rfl) ?_
                          refine OL_sil rfl rfl rfl (Sil.indexSl1 wi rfl rfl rfl Try.underlying37 rfl rfl (by omega)) ?_
                          refine OL_sil rfl rfl rfl (Sil.old rfl rfl Try.underlying3 rfl hcw (by simp)) ?_
                          refine OL_sil rfl rfl rfl (Sil.andw (j := 3) rfl rfl rfl (by decide)) ?_
                          refine OL_slot 98 (v := .int .i64 (c : Int)) rfl (by rw [hce]) ?_
                          refine OL_sil rfl rfl rfl (Sil.eql rfl rfl rfl) ?_
                          refine OL_sil rfl rfl rfl (Sil.pick1 rfl rfl rfl) ?_
                          refine OL_sil rfl rfl rfl (Sil.pick0 rfl rfl rfl) ?_
                          refine OL_sil rfl rfl rfl (Sil.assign rfl rfl) ?_
                          refine OL_nil ?_
                          (refine Cont.then_intro (And.intro (by (repeat' (first | exact Ext.refl | refine Ext.cons rfl ?_))) (And.intro ?_ rfl)); first | exact slotV rfl (congrArg Value.bool (decide_eq_true (by omega)).symm) | exact slotV rfl (congrArg Value.bool (decide_eq_false (by omega)).symm) | exact slotV rfl (congrArg Value.bool (decide_eq_decide.2 (by omega))) | exact slotV rfl (congrArg Value.bool (decide_not.symm.trans (decide_eq_decide.2 (by omega)))))
                        · refine OL_skip rfl rfl rfl ?_
                          refine OL_skip rfl rfl rfl ?_
                          refine OL_skip rfl rfl rfl ?_
                          refine OL_skip rfl rfl rfl ?_
                          refine OL_skip rfl rfl rfl ?_
                          refine OL_skip rfl rfl rfl ?_
                          refine OL_skip rfl rfl rfl ?_
                          refine OL_skip rfl rfl rfl ?_
                          refine OL_sil rfl rfl rfl (Sil.pick0 rfl rfl rfl) ?_
                          refine OL_sil rfl rfl rfl (Sil.pick0 rfl rfl rfl) ?_
                          refine OL_sil rfl rfl rfl (Sil.assign rfl rfl) ?_
                          refine OL_nil ?_
                          (refine Cont.then_intro (And.intro (by (repeat' (first | exact Ext.refl | refine Ext.cons rfl ?_))) (And.intro ?_ rfl)); first | exact slotV rfl (congrArg Value.bool (decide_eq_true (by omega)).symm) | exact slotV rfl (congrArg Value.bool (decide_eq_false (by omega)).symm) | exact slotV rfl (congrArg Value.bool (decide_eq_decide.2 (by omega))) | exact slotV rfl (congrArg Value.bool (decide_not.symm.trans (decide_eq_decide.2 (by omega)))))
                    refine TC_region ?_
                    refine OL_sil rfl rfl rfl (Sil.add rfl rfl rfl (by omega) (by omega)) ?_
                    refine OL_sil rfl rfl rfl (Sil.move rfl rfl) ?_
                    refine OL_nil ?_
                    exact ⟨i + 1, ⟨by omega, ⟨rfl, rfl, rfl, rfl, slotV rfl (congrArg Value.bool (decide_eq_decide.2 (nx_succ (ksOf zs) hdk).symm)), rfl, rfl, slotI rfl (by push_cast; rfl), trivial⟩, List.Sublist.refl _⟩, by omega⟩
                  · have hie2 : i = zs.length := by omega
                    subst hie2
                    refine TC_exit ?_
                    refine TC_seq ?_
                    refine TC_region ?_
                    refine OL_sil rfl rfl rfl (Sil.move rfl rfl) ?_
                    refine OL_loud rfl rfl rfl (LO.calls rfl ent20 rfl (fun w hw => Sure_gives G (some ⟨g5, 0, none⟩) cp w (hxG ▸ RcsAt.of_sqV (hw.mine _ (List.mem_of_getElem? (i := 0) rfl)) (fun x hx => (hl2 x hx).ops (hw.mine _ (List.mem_of_getElem? (i := 1) rfl)))) (by omega) hopsG)) ?_
                    rintro _ _ ⟨_, ⟨sb2, rfl, rfl⟩, rfl⟩
                    refine OL_sil rfl rfl rfl (Sil.assign rfl rfl) ?_
                    refine OL_nil ?_
                    refine TC_seq ?_
                    refine TC_seq ?_
                    refine TC_boolE [105, 106, 107, 108, 109, 110, 111, 112, 113, 114, 115] 115 ((0 : Int) = 1) ?_ ?_
                    · refine TC_region ?_
                      refine OL_sil rfl rfl rfl (Sil.move rfl rfl) ?_
                      refine OL_sil rfl rfl rfl (Sil.lenSl rfl rfl Try.underlying35) ?_
                      refine OL_sil rfl rfl rfl (Sil.move rfl rfl) ?_
                      refine OL_sil rfl rfl rfl (Sil.lenSl rfl rfl Try.underlying25) ?_
                      refine OL_sil rfl rfl rfl (Sil.neq rfl rfl rfl) ?_
                      refine OL_sil rfl rfl rfl (Sil.move rfl rfl) ?_
                      refine OL_decn 110 rfl (fun ht110 => ?_) (fun ht110 => ?_)
                      · refine OL_skip rfl rfl rfl ?_
                        refine OL_skip rfl rfl rfl ?_
                        refine OL_skip rfl rfl rfl ?_
                        refine OL_skip rfl rfl rfl ?_
                        refine OL_sil rfl rfl rfl (Sil.pick1 rfl rfl rfl) ?_
                        refine OL_nil ?_
                        (refine Cont.then_intro (And.intro (by (repeat' (first | exact Ext.refl | refine Ext.cons rfl ?_))) (And.intro ?_ rfl)); first | exact slotV rfl (congrArg Value.bool (decide_eq_true (by omega)).symm) | exact slotV rfl (congrArg Value.bool (decide_eq_false (by omega)).symm) | exact slotV rfl (congrArg Value.bool (decide_eq_decide.2 (by omega))) | exact slotV rfl (congrArg Value.bool (decide_not.symm.trans (decide_eq_decide.2 (by omega)))))
                      · refine OL_sil rfl rfl rfl (Sil.move rfl rfl) ?_
                        refine OL_sil rfl rfl rfl (Sil.move rfl rfl) ?_
                        refine OL_sil rfl rfl rfl (Sil.indexOwn1 wi rfl rfl rfl Try.underlying35 rfl rfl (by omega)) ?_
                        refine OL_sil rfl rfl rfl (Sil.own 3 rfl rfl rfl Try.underlying4 rfl (arrB_at _ _ wi (by omega))) ?_
                        refine OL_slot 114 (v := .bool false) rfl (congrArg Value.bool hsG) ?_
                        refine OL_sil rfl rfl rfl (Sil.pick0 rfl rfl rfl) ?_
                        refine OL_nil ?_
                        (refine Cont.then_intro (And.intro (by (repeat' (first | exact Ext.refl | refine Ext.cons rfl ?_))) (And.intro ?_ rfl)); first | exact slotV rfl (congrArg Value.bool (decide_eq_true (by omega)).symm) | exact slotV rfl (congrArg Value.bool (decide_eq_false (by omega)).symm) | exact slotV rfl (congrArg Value.bool (decide_eq_decide.2 (by omega))) | exact slotV rfl (congrArg Value.bool (decide_not.symm.trans (decide_eq_decide.2 (by omega)))))
                    refine TC_if rfl (fun ht115 => ?_) (fun ht115 => ?_)
                    · exact absurd ht115 (by decide)
                    · refine TC_skip ?_
                      refine TC_seq ?_
                      refine TC_seq ?_
                      refine TC_region ?_
                      refine OL_sil rfl rfl rfl (Sil.move rfl rfl) ?_
                      refine OL_sil rfl rfl rfl (Sil.not rfl rfl) ?_
                      refine OL_nil ?_
                      refine TC_cond rfl (fun ht117 => ?_) (fun ht117 => ?_)
                      · refine TC_seq ?_
                        refine TC_region ?_
                        refine OL_sil rfl rfl rfl (Sil.move rfl rfl) ?_
                        refine OL_sil rfl rfl rfl (Sil.lenSl rfl rfl Try.underlying28) ?_
                        refine OL_sil rfl rfl rfl (Sil.eql rfl rfl rfl) ?_
                        refine OL_sil rfl rfl rfl (Sil.assign rfl rfl) ?_
                        refine OL_nil ?_
                        refine TC_ret ?_
                        exact ret1 rfl rfl ⟨congrArg Value.bool (decide_eq_true (by rw [hFv]; rfl)), rfl⟩
                      · exact absurd ht117 (by simp [hno, hn])
theorem FlawsRuns_some (zs : List Int) (a : Option Addr) (cap : Nat) (which : Int) (m wi : Nat) (hm : m = (which % 18446744073709551616).toNat &&& 1023) (hwi : wi = m % zs.length) (w0 : World) (hd : IntSl w0 a zs.length (fun i => zs.getD i 0)) (hmx : zs.length ≤ maxLen) (mm : Nat) (hnx : ∀ c, (ksOf zs)[wi]? = some c → nx (ksOf zs) wi c (ksOf zs).length = some mm) :
    Gives Try.prog 4 [.slice a zs.length cap, .int .i64 which] w0 [] fun v h => v = .bool true ∧ h = [] := by
  unfold maxLen at hmx
  have hkl := ks_len zs
  have h3 := ks_le3 zs
  obtain ⟨T, hT⟩ : ∃ T, T = runN (ksOf zs) (ksOf zs).length := ⟨_, rfl⟩
  have hTl : T.length = zs.length := by rw [hT, runN_len _ _ (Nat.le_refl _), hkl]
  have hfl : flN (kindA T) T T.length = [] := by rw [hTl, ← hkl, hT]; exact run_fl _ h3 _ (Nat.le_refl _)
  have hsu : ∀ j, j < T.length → gN (wfA T) T T.length j = true := fun j hj => by rw [hT]; exact run_sure _ _ (by omega)
  have hops : ∀ t ∈ T, t.ops.length ≤ 1000 := fun t ht => by
    obtain ⟨j, hj⟩ := List.mem_iff_getElem?.1 ht
    rw [hT] at hj
    obtain ⟨c, _, rfl⟩ := run_at' _ hj
    show 2 ≤ 1000
    decide
  refine gives_of Try.func4 rfl rfl rfl (Own.start w0) ?_
  refine TC_seq ?_
  refine TC_region ?_
  refine OL_sil rfl rfl rfl (Sil.assign rfl rfl) ?_
  refine OL_nil ?_
  refine TC_seq ?_
  refine TC_seq ?_
  refine TC_region ?_
  refine OL_pure rfl rfl rfl (LO.pure rfl ent15 rfl (fun w _ => head8_gives w)) ?_
  refine OL_sil rfl rfl rfl (Sil.not rfl rfl) ?_
  refine OL_nil ?_
  refine TC_no rfl ?_
  refine TC_skip ?_
  refine TC_seq ?_
  refine TC_seq ?_
  refine TC_region ?_
  refine OL_sil rfl rfl rfl (Sil.move rfl rfl) ?_
  refine OL_sil rfl rfl rfl (Sil.lenSl rfl rfl Try.underlying37) ?_
  refine OL_sil rfl rfl rfl (Sil.gtr rfl rfl rfl) ?_
  refine OL_nil ?_
  refine TC_if rfl (fun ht20 => ?_) (fun ht20 => ?_)
  · refine TC_seq ?_
    refine TC_region ?_
    refine OL_sil rfl rfl rfl (Sil.assign rfl rfl) ?_
    refine OL_nil ?_
    refine TC_ret ?_
    exact ret1 rfl rfl ⟨rfl, rfl⟩
  · refine TC_skip ?_
    refine TC_seq ?_
    refine TC_region ?_
    refine OL_sil rfl rfl rfl (Sil.build (vs := []) (cs := arrI 4 (fun _ => 0)) rfl rfl (fun _ => rfl)) ?_
    refine OL_loud rfl rfl rfl (LO.alloc rfl rfl) ?_
    rintro _ _ ⟨b5, _, rfl, rfl⟩
    refine OL_loud0 rfl rfl (by first | exact LO.storeAllV rfl rfl rfl (by first | exact at0 | exact at1 | exact at2 | exact at3 | exact at4 | exact at5 | exact at6 | exact at7 | exact at8 | exact at9 | exact at10 | exact at11 | exact at12 | exact at13 | exact at14 | exact at15) (by rfl) (by rfl) (by rfl) (by rfl) | exact LO.store1V rfl rfl rfl (by first | exact at0 | exact at1 | exact at2 | exact at3 | exact at4 | exact at5 | exact at6 | exact at7 | exact at8 | exact at9 | exact at10 | exact at11 | exact at12 | exact at13 | exact at14 | exact at15) (by rfl) (by rfl) (by rfl)) ?_
    rintro _ _ ⟨rfl, rfl⟩
    refine OL_nil ?_
    refine TC_seq ?_
    refine TC_region ?_
    refine OL_loud rfl rfl rfl (LO.buildSlice0 (s := 3) rfl Try.underlying25 rfl) ?_
    rintro _ _ ⟨g0, rfl, rfl⟩
    refine OL_sil rfl rfl rfl (Sil.assign rfl rfl) ?_
    refine OL_nil ?_
    refine TC_own (fun w hw => hw.bag0) ?_
    refine TC_seq ?_
    refine TC_seq ?_
    refine TC_region ?_
    refine OL_sil rfl rfl rfl (Sil.move rfl rfl) ?_
    refine OL_sil rfl rfl rfl (Sil.lenSl rfl rfl Try.underlying37) ?_
    refine OL_sil rfl rfl rfl (Sil.move rfl rfl) ?_
    refine OL_nil ?_
    refine TC_block ?_
    refine TC_loop (fun ((i, xs, ao, cp, rs) : Nat × List RcV × Option Addr × Nat × List Res) => [(0, .slice a zs.length cap), (1, .int .i64 which), (5, .pointer (some ⟨b5, 0, none⟩)), (6, .slice ao xs.length cp), (23, .slice a zs.length cap), (24, .int .i64 zs.length), (25, .int .i64 i)]) (fun (i, xs, ao, cp, rs) => [blk b5 (.cells (arrI 4 (fun k => (lastU (ksOf zs) i k : Int))) 38 (0, 0)), sq ao xs.length cp 43 3 (rvsC xs), bagR rs]) (fun (i, xs, ao, cp, rs) => i ≤ zs.length ∧ xs.map (·.1) = runN (ksOf zs) i ∧ ∀ x ∈ xs, BLies 40 rs x) (fun (i, _) => zs.length - i) (0, [], some ⟨g0, 0, none⟩, 0, []) ?_ ?_
    · exact ⟨⟨Nat.zero_le _, rfl, fun x hx => by cases hx⟩, ⟨rfl, rfl, rfl, rfl, rfl, rfl, rfl, trivial⟩, List.Sublist.refl _⟩
    · rintro ⟨i, xs, ao, cp, rs⟩ ⟨hi, hxs, hli⟩
      have hi : i ≤ zs.length := hi
      have hxs : xs.map (·.1) = runN (ksOf zs) i := hxs
      have hli : ∀ x ∈ xs, BLies 40 rs x := hli
      have hxl : xs.length = i := by have := congrArg List.length hxs; rw [runN_len _ _ (by omega)] at this; simpa using this
      refine TC_seq ?_
      refine TC_region ?_
      refine OL_sil rfl rfl rfl (Sil.lss rfl rfl rfl) ?_
      refine OL_nil ?_
      refine TC_seq ?_
      refine TC_if rfl (fun ht26 => ?_) (fun ht26 => ?_)
      · obtain ⟨c, hc, hce⟩ := ks_at zs (i := i) (by omega)
        have hc3 := h3 c (List.mem_of_getElem? hc)
        obtain ⟨x, hax, hcell⟩ := hd i (by omega)
        subst hax
        have hupd : updI (fun k => (lastU (ksOf zs) i k : Int)) c ((i : Int) + 1) = fun k => (lastU (ksOf zs) (i + 1) k : Int) := by
          funext k
          unfold updI
          by_cases e : k = c
          · subst e; rw [if_pos rfl, lastU_hit hc]; push_cast; rfl
          · rw [if_neg e, lastU_miss hc (Ne.symm e)]
        refine TC_skip ?_
        refine TC_seq ?_
        refine TC_block ?_
        refine TC_seq ?_
        refine TC_region ?_
        refine OL_sil rfl rfl rfl (Sil.move rfl rfl) ?_
        refine OL_sil rfl rfl rfl (Sil.indexSl1 i rfl rfl rfl Try.underlying37 rfl rfl (by omega)) ?_
        refine OL_sil rfl rfl rfl (Sil.old rfl rfl Try.underlying3 rfl hcell (by simp)) ?_
        refine OL_sil rfl rfl rfl (Sil.assign rfl rfl) ?_
        refine OL_sil rfl rfl rfl (Sil.assign rfl rfl) ?_
        refine OL_nil ?_
        refine TC_seq ?_
        refine TC_region ?_
        refine OL_sil rfl rfl rfl (Sil.move rfl rfl) ?_
        refine OL_sil rfl rfl rfl (Sil.andw (j := 3) rfl rfl rfl (by decide)) ?_
        refine OL_slot 31 (v := .int .i64 (c : Int)) rfl (by rw [hce]) ?_
        refine OL_sil rfl rfl rfl (Sil.assign rfl rfl) ?_
        refine OL_nil ?_
        refine TC_seq ?_
        refine TC_region ?_
        refine OL_sil rfl rfl rfl (Sil.move rfl rfl) ?_
        refine OL_sil rfl rfl rfl (Sil.move rfl rfl) ?_
        refine OL_sil rfl rfl rfl (Sil.move rfl rfl) ?_
        refine OL_sil rfl rfl rfl (Sil.indexLoc1 c rfl rfl rfl Try.underlying38 rfl rfl (by omega)) ?_
        refine OL_sil rfl rfl rfl (Sil.own 0 rfl rfl rfl Try.underlying3 rfl (arrI_at _ _ c (by omega))) ?_
        refine OL_sil rfl rfl rfl (Sil.buildS (vs := [(0, .int .i64 1), (1, .int .i64 c), (2, .int .i64 (lastU (ksOf zs) i c))]) (cs := (iv [1, (c : Int), (lastU (ksOf zs) i c : Int)]).toArray) (ss := [1, 1, 1]) rfl rfl Try.underlying40 rfl rfl rfl) ?_
        refine OL_sil rfl rfl rfl (Sil.move rfl rfl) ?_
        refine OL_sil rfl rfl rfl (Sil.move rfl rfl) ?_
        refine OL_sil rfl rfl rfl (Sil.add rfl rfl rfl (by omega) (by omega)) ?_
        refine OL_sil rfl rfl rfl (Sil.buildS (vs := [(0, .int .i64 2), (1, .int .i64 c), (2, .int .i64 ((i : Int) + 1))]) (cs := (iv [2, (c : Int), (i : Int) + 1]).toArray) (ss := [1, 1, 1]) rfl rfl Try.underlying40 rfl rfl rfl) ?_
        refine OL_loud rfl rfl rfl (LO.buildSlice (vs := [(0, agI [1, (c : Int), (lastU (ksOf zs) i c : Int)]), (1, agI [2, (c : Int), (i : Int) + 1])]) (cs := (opsC (runO (ksOf zs) i c)).toArray) (e := 40) rfl rfl (fun w => by kernel_rfl)) ?_
        rintro _ _ ⟨q1, rfl, rfl⟩
        refine OL_sil rfl rfl rfl (Sil.buildAll [(0, _), (1, _), (2, _)] rfl rfl Try.underlying43 rfl rfl rfl) ?_
        refine OL_loud rfl rfl rfl (LO.buildSlice1 rfl rfl Try.underlying25 rfl rfl rfl) ?_
        rintro _ _ ⟨tb, rfl, rfl⟩
        refine OL_loud rfl rfl rfl (LO.append 1 (rcC (runT (ksOf zs) i c) (.slice (some ⟨q1, 0, none⟩) 2 2)) rfl rfl rfl rfl elTx rfl (fun w hw => hw.cells (i := 4) rfl) (by simp [rcC, oneC]) (by unfold maxLen; omega) (by omega)) ?_
        rintro _ _ ⟨ao1, cp1, rfl, rfl⟩
        refine OL_sil rfl rfl rfl (Sil.assign rfl rfl) ?_
        refine OL_nil ?_
        refine TC_own (fun w hw => hw.bagPut (A := [_, _]) (B := []) (C := [_]) rfl) ?_
        refine TC_region ?_
        refine OL_sil rfl rfl rfl (Sil.move rfl rfl) ?_
        refine OL_sil rfl rfl rfl (Sil.move rfl rfl) ?_
        refine OL_sil rfl rfl rfl (Sil.add rfl rfl rfl (by omega) (by omega)) ?_
        refine OL_sil rfl rfl rfl (Sil.indexLoc1 c rfl rfl rfl Try.underlying38 rfl rfl (by omega)) ?_
        refine OL_loud0 rfl rfl (LO.storeAs 0 (arrI 4 (updI (fun k => (lastU (ksOf zs) i k : Int)) c ((i : Int) + 1))) rfl rfl rfl rfl rfl rfl (by simp [Value.cells, oneC]) (by rw [arrI_size]; show c + 1 ≤ 4; omega) (arrI_put _ _ _ _)) ?_
        rintro _ _ ⟨rfl, rfl⟩
        refine OL_nil ?_
        refine TC_region ?_
        refine OL_sil rfl rfl rfl (Sil.add rfl rfl rfl (by omega) (by omega)) ?_
        refine OL_sil rfl rfl rfl (Sil.move rfl rfl) ?_
        refine OL_nil ?_
        refine ⟨(i + 1, xs ++ [(runT (ksOf zs) i c, .slice (some ⟨q1, 0, none⟩) 2 2)], ao1, cp1, rs ++ [blk q1 (.cells (opsC (runO (ksOf zs) i c)).toArray 40 (0, 0))]), ⟨⟨by show i + 1 ≤ zs.length; omega, ?_, ?_⟩, ⟨rfl, rfl, rfl, slotV rfl (by simp), rfl, rfl, slotI rfl (by push_cast; rfl), trivial⟩, ?_⟩, by show zs.length - (i + 1) < zs.length - i; omega⟩
        · show (xs ++ [(_ : RcV)]).map (·.1) = runN (ksOf zs) (i + 1)
          rw [runN_succ hc, List.map_append, hxs]
          rfl
        · intro y hy
          rcases List.mem_append.1 hy with hy | hy
          · exact (hli y hy).mono fun r hr => List.mem_append_left _ hr
          · rw [List.mem_singleton.1 hy]
            exact ⟨q1, rfl, show 2 ≤ maxLen by decide, List.mem_append_right _ (List.mem_singleton.2 rfl)⟩
        · show List.Sublist [blk b5 (.cells (arrI 4 (fun k => (lastU (ksOf zs) (i + 1) k : Int))) _ (0, 0)), sq ao1 (xs ++ [_]).length cp1 _ 3 (rvsC (xs ++ [_])), bagR _] _
          rw [← rvsC_snoc, List.length_append, ← hupd]
          exact List.Sublist.cons_cons _ (List.Sublist.cons_cons _ (List.Sublist.cons_cons _ (List.nil_sublist _)))
      · have hie : i = zs.length := by omega
        subst hie
        have hxT : xs.map (·.1) = T := by rw [hT, hkl]; exact hxs
        refine TC_slot 6 (v := .slice ao T.length cp) rfl (by rw [hTl]; show Value.slice ao xs.length cp = _; rw [hxl]) ?_
        refine TC_exit ?_
        refine TC_seq ?_
        refine TC_seq ?_
        refine TC_region ?_
        refine OL_sil rfl rfl rfl (Sil.move rfl rfl) ?_
        refine OL_loud rfl rfl rfl (LO.calls rfl ent18 rfl (fun w hw => (All_gives T ao cp w (hxT ▸ RcsAt.of_sqV (hw.mine _ (List.mem_of_getElem? (i := 1) rfl)) (fun x hx => (hli x hx).ops (hw.mine _ (List.mem_of_getElem? (i := 2) rfl)))) (by omega) hops).mono (fun v h hR => by rw [hfl] at hR; exact hR))) ?_
        rintro _ _ ⟨_, ⟨af, cf, rfl, rfl⟩, rfl⟩
        refine OL_sil rfl rfl rfl (Sil.lenSl rfl rfl Try.underlying28) ?_
        refine OL_sil rfl rfl rfl (Sil.neq rfl rfl rfl) ?_
        refine OL_nil ?_
        refine TC_ifn rfl (fun ht54 => ?_) (fun ht54 => ?_)
        · exact absurd rfl ht54
        · refine TC_skip ?_
          refine TC_seq ?_
          refine TC_seq ?_
          refine TC_region ?_
          refine OL_sil rfl rfl rfl (Sil.move rfl rfl) ?_
          refine OL_loud rfl rfl rfl (LO.calls rfl ent20 rfl (fun w hw => Sure_gives T ao cp w (hxT ▸ RcsAt.of_sqV (hw.mine _ (List.mem_of_getElem? (i := 1) rfl)) (fun x hx => (hli x hx).ops (hw.mine _ (List.mem_of_getElem? (i := 2) rfl)))) (by omega) hops)) ?_
          rintro _ _ ⟨_, ⟨sb, rfl, rfl⟩, rfl⟩
          refine OL_sil rfl rfl rfl (Sil.lenSl rfl rfl Try.underlying35) ?_
          refine OL_sil rfl rfl rfl (Sil.move rfl rfl) ?_
          refine OL_nil ?_
          refine TC_block ?_
          refine TC_loop (fun i : Nat => [(0, .slice a zs.length cap), (1, .int .i64 which), (6, .slice ao T.length cp), (56, .slice (some ⟨sb, 0, none⟩) T.length T.length), (57, .int .i64 T.length), (58, .int .i64 i)]) (fun _ => [sq ao xs.length cp 43 3 (rvsC xs), bagR rs, blk sb (.cells (arrB T.length (gN (wfA T) T T.length)) 4 (0, 0))]) (fun i => i ≤ T.length) (fun i => T.length - i) 0 ?_ ?_
          · exact ⟨Nat.zero_le _, ⟨rfl, rfl, rfl, rfl, rfl, rfl, trivial⟩, List.Sublist.cons _ (List.Sublist.cons_cons _ (List.Sublist.cons_cons _ (List.Sublist.cons _ (List.Sublist.refl _))))⟩
          · intro i hi
            refine TC_seq ?_
            refine TC_region ?_
            refine OL_sil rfl rfl rfl (Sil.lss rfl rfl rfl) ?_
            refine OL_nil ?_
            refine TC_seq ?_
            refine TC_if rfl (fun ht59 => ?_) (fun ht59 => ?_)
            · refine TC_skip ?_
              refine TC_seq ?_
              refine TC_block ?_
              refine TC_seq ?_
              refine TC_region ?_
              refine OL_sil rfl rfl rfl (Sil.indexOwn1 i rfl rfl rfl Try.underlying35 rfl rfl (by omega)) ?_
              refine OL_sil rfl rfl rfl (Sil.own 2 rfl rfl rfl Try.underlying4 rfl (arrB_at _ _ i (by omega))) ?_
              refine OL_slot 61 (v := .bool true) rfl (congrArg Value.bool (hsu i (by omega))) ?_
              refine OL_sil rfl rfl rfl (Sil.assign rfl rfl) ?_
              refine OL_nil ?_
              refine TC_seq ?_
              refine TC_region ?_
              refine OL_sil rfl rfl rfl (Sil.move rfl rfl) ?_
              refine OL_sil rfl rfl rfl (Sil.not rfl rfl) ?_
              refine OL_nil ?_
              refine TC_no rfl ?_
              refine TC_skip ?_
              refine TC_region ?_
              refine OL_sil rfl rfl rfl (Sil.add rfl rfl rfl (by omega) (by omega)) ?_
              refine OL_sil rfl rfl rfl (Sil.move rfl rfl) ?_
              refine OL_nil ?_
              exact ⟨i + 1, ⟨by omega, ⟨rfl, rfl, rfl, rfl, rfl, slotI rfl (by push_cast; rfl), trivial⟩, List.Sublist.refl _⟩, by omega⟩
            · refine TC_exit ?_
              refine TC_seq ?_
              refine TC_seq ?_
              refine TC_region ?_
              refine OL_sil rfl rfl rfl (Sil.move rfl rfl) ?_
              refine OL_sil rfl rfl rfl (Sil.lenSl rfl rfl Try.underlying25) ?_
              refine OL_sil rfl rfl rfl (Sil.eql rfl rfl rfl) ?_
              refine OL_nil ?_
              refine TC_if rfl (fun ht67 => ?_) (fun ht67 => ?_)
              · refine TC_seq ?_
                refine TC_region ?_
                refine OL_sil rfl rfl rfl (Sil.assign rfl rfl) ?_
                refine OL_nil ?_
                refine TC_ret ?_
                exact ret1 rfl rfl ⟨rfl, rfl⟩
              · have hwl : wi < T.length := by rw [hTl, hwi]; exact Nat.mod_lt _ (by omega)
                obtain ⟨⟨tr, u⟩, hxw⟩ : ∃ x, xs[wi]? = some x := ⟨_, List.getElem?_eq_getElem (by omega)⟩
                have htr : T[wi]? = some tr := by rw [← hxT, List.getElem?_map, hxw]; rfl
                obtain ⟨c, hc, htc⟩ := run_at' (ksOf zs) (hT ▸ htr)
                subst htc
                have hce := ks_is zs hc
                refine TC_know (fun w hw => hw.sqSome (i := 0) rfl (by omega)) (fun hsome => ?_)
                obtain ⟨g5, rfl⟩ := hsome
                refine TC_skip ?_
                refine TC_seq ?_
                refine TC_region ?_
                refine OL_sil rfl rfl rfl (Sil.move rfl rfl) ?_
                refine OL_sil rfl rfl rfl (Sil.andw (j := 1023) rfl rfl rfl (by decide)) ?_
                refine OL_slot 69 (v := .int .i64 (m : Int)) rfl (by rw [hm]) ?_
                refine OL_sil rfl rfl rfl (Sil.move rfl rfl) ?_
                refine OL_sil rfl rfl rfl (Sil.lenSl rfl rfl Try.underlying25) ?_
                refine OL_sil rfl rfl rfl (Sil.rem rfl rfl rfl (by omega) (by omega)) ?_
                refine OL_slot 72 (v := .int .i64 (wi : Int)) rfl (congrArg _ (by rw [hwi, hTl]; push_cast; rfl)) ?_
                refine OL_sil rfl rfl rfl (Sil.assign rfl rfl) ?_
                refine OL_nil ?_
                refine TC_seq ?_
                refine TC_region ?_
                refine OL_sil rfl rfl rfl (Sil.move rfl rfl) ?_
                refine OL_sil rfl rfl rfl (Sil.move rfl rfl) ?_
                refine OL_sil rfl rfl rfl (Sil.indexOwn wi rfl rfl rfl Try.underlying25 rfl rfl (by omega)) ?_
                refine OL_sil rfl rfl rfl (Sil.fieldLoc 1 rfl rfl Try.underlying43 rfl rfl) ?_
                refine OL_loud0 rfl rfl (LO.sqStoreAs 0 rfl rfl rfl rfl rfl rfl rfl (by show wi * 3 + 1 < xs.length * 3; omega) (rvsC_set1 hxw 2)) ?_
                rintro _ _ ⟨rfl, rfl⟩
                refine OL_nil ?_
                obtain ⟨x2, hx2⟩ : ∃ x2, x2 = xs.set wi (⟨1, 2, runO (ksOf zs) wi c⟩, u) := ⟨_, rfl⟩
                obtain ⟨G, hG⟩ : ∃ G, G = runG (ksOf zs) wi c := ⟨_, rfl⟩
                have hxG : x2.map (·.1) = G := by rw [hx2, hG, List.map_set, hxT, hT]; rfl
                have hGl : G.length = zs.length := by rw [hG, runG_len, hkl]
                have hx2l : x2.length = xs.length := by rw [hx2, List.length_set]
                have hl2 : ∀ x ∈ x2, BLies 40 rs x := by
                  rw [hx2]
                  intro y hy
                  rcases List.mem_or_eq_of_mem_set hy with hy | rfl
                  · exact hli y hy
                  · exact (hli _ (List.mem_of_getElem? hxw)).same rfl
                have hopsG : ∀ t ∈ G, t.ops.length ≤ 1000 := fun t ht => by
                  rw [hG] at ht
                  rcases List.mem_or_eq_of_mem_set ht with ht | rfl
                  · exact hops t (hT ▸ ht)
                  · show 2 ≤ 1000; decide
                have hsG : gN (wfA G) G G.length wi = false := by rw [hG]; exact more_sure (t := runT (ksOf zs) wi c) (hT ▸ htr) _ _
                obtain ⟨F, hF⟩ : ∃ F, F = flN (kindA G) G G.length := ⟨_, rfl⟩
                have hso : nx (ksOf zs) wi c zs.length = some mm := by rw [← hkl]; exact hnx c hc
                have hFv : F = [⟨mm, 0, 2⟩] := by rw [hF, hGl, ← hkl, hG, gone_fl h3 hc _ (Nat.le_refl _), hkl, hso]; rfl
                have hmm := nx_at hso
                obtain ⟨f0, hF0, hfk, hfy, hfv⟩ : ∃ f : OpD, F[0]? = some f ∧ f.k = mm ∧ f.key = 0 ∧ f.val = 2 := ⟨⟨mm, 0, 2⟩, by rw [hFv]; rfl, rfl, rfl, rfl⟩
                have hF1 : F.length = 1 := by rw [hFv]; rfl
                refine TC_slot 6 (v := .slice (some ⟨g5, 0, none⟩) G.length cp) rfl (by rw [hGl, hTl]) ?_
                refine TC_own (h' := [sq (some ⟨g5, 0, none⟩) x2.length cp 43 3 (rvsC x2), bagR rs, blk sb (.cells (arrB T.length (gN (wfA T) T T.length)) 4 (0, 0))]) (fun w hw => by rw [hx2l, hx2]; exact hw) ?_
                refine TC_seq ?_
                refine TC_region ?_
                refine OL_sil rfl rfl rfl (Sil.move rfl rfl) ?_
                refine OL_loud rfl rfl rfl (LO.calls rfl ent18 rfl (fun w hw => (All_gives G (some ⟨g5, 0, none⟩) cp w (hxG ▸ RcsAt.of_sqV (hw.mine _ (List.mem_of_getElem? (i := 0) rfl)) (fun x hx => (hl2 x hx).ops (hw.mine _ (List.mem_of_getElem? (i := 1) rfl)))) (by omega) hopsG).mono (fun v h hR => by rw [← hF] at hR; exact hR))) ?_
                rintro _ _ ⟨_, ⟨af2, cf2, rfl, rfl⟩, rfl⟩
                refine OL_sil rfl rfl rfl (Sil.assign rfl rfl) ?_
                refine OL_nil ?_
                refine TC_seq ?_
                refine TC_region ?_
                refine OL_sil rfl rfl rfl (Sil.assign rfl rfl) ?_
                refine OL_nil ?_
                refine TC_seq ?_
                refine TC_seq ?_
                refine TC_region ?_
                refine OL_sil rfl rfl rfl (Sil.move rfl rfl) ?_
                refine OL_sil rfl rfl rfl (Sil.lenSl rfl rfl Try.underlying37) ?_
                refine OL_sil rfl rfl rfl (Sil.move rfl rfl) ?_
                refine OL_nil ?_
                refine TC_block ?_
                refine TC_loop (fun i : Nat => [(0, .slice a zs.length cap), (1, .int .i64 wi), (6, .slice (some ⟨g5, 0, none⟩) G.length cp), (11, .slice af2 F.length cf2), (12, .bool (decide (hn (nx (ksOf zs) wi c i).isSome = 1))), (79, .slice a zs.length cap), (80, .int .i64 zs.length), (81, .int .i64 i)]) (fun _ => [sq (some ⟨g5, 0, none⟩) x2.length cp 43 3 (rvsC x2), bagR rs, sq af2 F.length cf2 33 3 (opsC F)]) (fun i => i ≤ zs.length) (fun i => zs.length - i) 0 ?_ ?_
                · exact ⟨Nat.zero_le _, ⟨rfl, rfl, rfl, rfl, rfl, rfl, rfl, rfl, trivial⟩, List.Sublist.cons_cons _ (List.Sublist.cons_cons _ (List.Sublist.cons _ (List.Sublist.refl _)))⟩
                · intro i hi
                  refine TC_seq ?_
                  refine TC_region ?_
                  refine OL_sil rfl rfl rfl (Sil.lss rfl rfl rfl) ?_
                  refine OL_nil ?_
                  refine TC_seq ?_
                  refine TC_if rfl (fun ht82 => ?_) (fun ht82 => ?_)
                  · obtain ⟨d, hdk, hde⟩ := ks_at zs (i := i) (by omega)
                    obtain ⟨x, hax, hcell⟩ := hd i (by omega)
                    obtain ⟨x', hax', hcw⟩ := hd wi (by omega)
                    subst hax
                    cases hax'
                    refine TC_skip ?_
                    refine TC_seq ?_
                    refine TC_block ?_
                    refine TC_seq ?_
                    refine TC_region ?_
                    refine OL_sil rfl rfl rfl (Sil.move rfl rfl) ?_
                    refine OL_sil rfl rfl rfl (Sil.indexSl1 i rfl rfl rfl Try.underlying37 rfl rfl (by omega)) ?_
                    refine OL_sil rfl rfl rfl (Sil.old rfl rfl Try.underlying3 rfl hcell (by simp)) ?_
                    refine OL_sil rfl rfl rfl (Sil.assign rfl rfl) ?_
                    refine OL_sil rfl rfl rfl (Sil.assign rfl rfl) ?_
                    refine OL_nil ?_
                    refine TC_boolE [86, 87, 88, 89, 90, 91, 92, 93, 94, 95, 96, 97, 98, 99, 100, 101, 12] 12 (hn (nx (ksOf zs) wi c i).isSome = 1 ∨ ((wi : Int) < i ∧ (d : Int) = c)) ?_ ?_
                    · refine TC_region ?_
                      refine OL_sil rfl rfl rfl (Sil.move rfl rfl) ?_
                      refine OL_sil rfl rfl rfl (Sil.move rfl rfl) ?_
                      refine OL_cases 87 rfl (fun ht87 => ?_) (fun ht87 => ?_)
                      · have ht87 := of_decide_eq_true ht87
                        refine OL_skip rfl rfl rfl ?_
                        refine OL_skip rfl rfl rfl ?_
                        refine OL_skip rfl rfl rfl ?_
                        refine OL_skip rfl rfl rfl ?_
                        refine OL_skip rfl rfl rfl ?_
                        refine OL_skip rfl rfl rfl ?_
                        refine OL_skip rfl rfl rfl ?_
                        refine OL_skip rfl rfl rfl ?_
                        refine OL_skip rfl rfl rfl ?_
                        refine OL_skip rfl rfl rfl ?_
                        refine OL_skip rfl rfl rfl ?_
                        refine OL_skip rfl rfl rfl ?_
                        refine OL_skip rfl rfl rfl ?_
                        refine OL_sil rfl rfl rfl (Sil.pick1 rfl rfl rfl) ?_
                        refine OL_sil rfl rfl rfl (Sil.assign rfl rfl) ?_
                        refine OL_nil ?_
                        (refine Cont.then_intro (And.intro (by (repeat' (first | exact Ext.refl | refine Ext.cons rfl ?_))) (And.intro ?_ rfl)); first | exact slotV rfl (congrArg Value.bool (decide_eq_true (by omega)).symm) | exact slotV rfl (congrArg Value.bool (decide_eq_false (by omega)).symm) | exact slotV rfl (congrArg Value.bool (decide_eq_decide.2 (by omega))) | exact slotV rfl (congrArg Value.bool (decide_not.symm.trans (decide_eq_decide.2 (by omega)))))
                      · have ht87 := of_decide_eq_false ht87
                        refine OL_sil rfl rfl rfl (Sil.move rfl rfl) ?_
                        refine OL_sil rfl rfl rfl (Sil.move rfl rfl) ?_
                        refine OL_sil rfl rfl rfl (Sil.gtr rfl rfl rfl) ?_
                        refine OL_sil rfl rfl rfl (Sil.move rfl rfl) ?_
                        refine OL_dec 91 rfl (fun ht91 => ?_) (fun ht91 => ?_)
                        · refine OL_sil rfl rfl rfl (Sil.move rfl rfl) ?_
                          refine OL_sil rfl rfl rfl (Sil.andw (j := 3) rfl rfl rfl (by decide)) ?_
                          refine OL_slot 93 (v := .int .i64 (d : Int)) rfl (by rw [hde]) ?_
                          refine OL_sil rfl rfl rfl (Sil.move rfl rfl) ?_
                          refine OL_sil rfl rfl rfl (Sil.move rfl rfl) ?_
                          refine OL_sil rfl rfl rfl (Sil.indexSl1 wi rfl rfl rfl Try.underlying37 rfl rfl (by omega)) ?_
                          refine OL_sil rfl rfl rfl (Sil.old rfl rfl Try.underlying3 rfl hcw (by simp)) ?_
                          refine OL_sil rfl rfl rfl (Sil.andw (j := 3) rfl rfl rfl (by decide)) ?_
                          refine OL_slot 98 (v := .int .i64 (c : Int)) rfl (by rw [hce]) ?_
                          refine OL_sil rfl rfl rfl (Sil.eql rfl rfl rfl) ?_
                          refine OL_sil rfl rfl rfl (Sil.pick1 rfl rfl rfl) ?_
                          refine OL_sil rfl rfl rfl (Sil.pick0 rfl rfl rfl) ?_
                          refine OL_sil rfl rfl rfl (Sil.assign rfl rfl) ?_
                          refine OL_nil ?_
                          (refine Cont.then_intro (And.intro (by (repeat' (first | exact Ext.refl | refine Ext.cons rfl ?_))) (And.intro ?_ rfl)); first | exact slotV rfl (congrArg Value.bool (decide_eq_true (by omega)).symm) | exact slotV rfl (congrArg Value.bool (decide_eq_false (by omega)).symm) | exact slotV rfl (congrArg Value.bool (decide_eq_decide.2 (by omega))) | exact slotV rfl (congrArg Value.bool (decide_not.symm.trans (decide_eq_decide.2 (by omega)))))
                        · refine OL_skip rfl rfl rfl ?_
                          refine OL_skip rfl rfl rfl ?_
                          refine OL_skip rfl rfl rfl ?_
                          refine OL_skip rfl rfl rfl ?_
                          refine OL_skip rfl rfl rfl ?_
                          refine OL_skip rfl rfl rfl ?_
                          refine OL_skip rfl rfl rfl ?_
                          refine OL_skip rfl rfl rfl ?_
                          refine OL_sil rfl rfl rfl (Sil.pick0 rfl rfl rfl) ?_
                          refine OL_sil rfl rfl rfl (Sil.pick0 rfl rfl rfl) ?_
                          refine OL_sil rfl rfl rfl (Sil.assign rfl rfl) ?_
                          refine OL_nil ?_
                          (refine Cont.then_intro (And.intro (by (repeat' (first | exact Ext.refl | refine Ext.cons rfl ?_))) (And.intro ?_ rfl)); first | exact slotV rfl (congrArg Value.bool (decide_eq_true (by omega)).symm) | exact slotV rfl (congrArg Value.bool (decide_eq_false (by omega)).symm) | exact slotV rfl (congrArg Value.bool (decide_eq_decide.2 (by omega))) | exact slotV rfl (congrArg Value.bool (decide_not.symm.trans (decide_eq_decide.2 (by omega)))))
                    refine TC_region ?_
                    refine OL_sil rfl rfl rfl (Sil.add rfl rfl rfl (by omega) (by omega)) ?_
                    refine OL_sil rfl rfl rfl (Sil.move rfl rfl) ?_
                    refine OL_nil ?_
                    exact ⟨i + 1, ⟨by omega, ⟨rfl, rfl, rfl, rfl, slotV rfl (congrArg Value.bool (decide_eq_decide.2 (nx_succ (ksOf zs) hdk).symm)), rfl, rfl, slotI rfl (by push_cast; rfl), trivial⟩, List.Sublist.refl _⟩, by omega⟩
                  · have hie2 : i = zs.length := by omega
                    subst hie2
                    refine TC_exit ?_
                    refine TC_seq ?_
                    refine TC_region ?_
                    refine OL_sil rfl rfl rfl (Sil.move rfl rfl) ?_
                    refine OL_loud rfl rfl rfl (LO.calls rfl ent20 rfl (fun w hw => Sure_gives G (some ⟨g5, 0, none⟩) cp w (hxG ▸ RcsAt.of_sqV (hw.mine _ (List.mem_of_getElem? (i := 0) rfl)) (fun x hx => (hl2 x hx).ops (hw.mine _ (List.mem_of_getElem? (i := 1) rfl)))) (by omega) hopsG)) ?_
                    rintro _ _ ⟨_, ⟨sb2, rfl, rfl⟩, rfl⟩
                    refine OL_sil rfl rfl rfl (Sil.assign rfl rfl) ?_
                    refine OL_nil ?_
                    refine TC_seq ?_
                    refine TC_seq ?_
                    refine TC_boolE [105, 106, 107, 108, 109, 110, 111, 112, 113, 114, 115] 115 ((0 : Int) = 1) ?_ ?_
                    · refine TC_region ?_
                      refine OL_sil rfl rfl rfl (Sil.move rfl rfl) ?_
                      refine OL_sil rfl rfl rfl (Sil.lenSl rfl rfl Try.underlying35) ?_
                      refine OL_sil rfl rfl rfl (Sil.move rfl rfl) ?_
                      refine OL_sil rfl rfl rfl (Sil.lenSl rfl rfl Try.underlying25) ?_
                      refine OL_sil rfl rfl rfl (Sil.neq rfl rfl rfl) ?_
                      refine OL_sil rfl rfl rfl (Sil.move rfl rfl) ?_
                      refine OL_decn 110 rfl (fun ht110 => ?_) (fun ht110 => ?_)
                      · refine OL_skip rfl rfl rfl ?_
                        refine OL_skip rfl rfl rfl ?_
                        refine OL_skip rfl rfl rfl ?_
                        refine OL_skip rfl rfl rfl ?_
                        refine OL_sil rfl rfl rfl (Sil.pick1 rfl rfl rfl) ?_
                        refine OL_nil ?_
                        (refine Cont.then_intro (And.intro (by (repeat' (first | exact Ext.refl | refine Ext.cons rfl ?_))) (And.intro ?_ rfl)); first | exact slotV rfl (congrArg Value.bool (decide_eq_true (by omega)).symm) | exact slotV rfl (congrArg Value.bool (decide_eq_false (by omega)).symm) | exact slotV rfl (congrArg Value.bool (decide_eq_decide.2 (by omega))) | exact slotV rfl (congrArg Value.bool (decide_not.symm.trans (decide_eq_decide.2 (by omega)))))
                      · refine OL_sil rfl rfl rfl (Sil.move rfl rfl) ?_
                        refine OL_sil rfl rfl rfl (Sil.move rfl rfl) ?_
                        refine OL_sil rfl rfl rfl (Sil.indexOwn1 wi rfl rfl rfl Try.underlying35 rfl rfl (by omega)) ?_
                        refine OL_sil rfl rfl rfl (Sil.own 3 rfl rfl rfl Try.underlying4 rfl (arrB_at _ _ wi (by omega))) ?_
                        refine OL_slot 114 (v := .bool false) rfl (congrArg Value.bool hsG) ?_
                        refine OL_sil rfl rfl rfl (Sil.pick0 rfl rfl rfl) ?_
                        refine OL_nil ?_
                        (refine Cont.then_intro (And.intro (by (repeat' (first | exact Ext.refl | refine Ext.cons rfl ?_))) (And.intro ?_ rfl)); first | exact slotV rfl (congrArg Value.bool (decide_eq_true (by omega)).symm) | exact slotV rfl (congrArg Value.bool (decide_eq_false (by omega)).symm) | exact slotV rfl (congrArg Value.bool (decide_eq_decide.2 (by omega))) | exact slotV rfl (congrArg Value.bool (decide_not.symm.trans (decide_eq_decide.2 (by omega)))))
                    refine TC_if rfl (fun ht115 => ?_) (fun ht115 => ?_)
                    · exact absurd ht115 (by decide)
                    · refine TC_skip ?_
                      refine TC_seq ?_
                      refine TC_seq ?_
                      refine TC_region ?_
                      refine OL_sil rfl rfl rfl (Sil.move rfl rfl) ?_
                      refine OL_sil rfl rfl rfl (Sil.not rfl rfl) ?_
                      refine OL_nil ?_
                      refine TC_cond rfl (fun ht117 => ?_) (fun ht117 => ?_)
                      · exact absurd ht117 (by simp [hso, hn])
                      · refine TC_know (fun w hw => hw.sqSome (i := 2) rfl (by omega)) (fun hsome => ?_)
                        obtain ⟨g7, rfl⟩ := hsome
                        refine TC_skip ?_
                        refine TC_seq ?_
                        refine TC_boolE [121, 122, 123, 124, 125, 126, 127, 128, 129, 130, 131, 132, 133, 134, 135, 136, 137, 138, 139, 140, 141, 142, 143, 144, 145, 4] 4 ((0 : Int) = 0) ?_ ?_
                        · refine TC_region ?_
                          refine OL_sil rfl rfl rfl (Sil.move rfl rfl) ?_
                          refine OL_sil rfl rfl rfl (Sil.lenSl rfl rfl Try.underlying28) ?_
                          refine OL_sil rfl rfl rfl (Sil.eql rfl rfl rfl) ?_
                          refine OL_sil rfl rfl rfl (Sil.move rfl rfl) ?_
                          refine OL_dec 124 rfl (fun ht124 => ?_) (fun ht124 => ?_)
                          · refine OL_sil rfl rfl rfl (Sil.move rfl rfl) ?_
                            refine OL_sil rfl rfl rfl (Sil.indexOwn 0 rfl rfl rfl Try.underlying28 rfl rfl (by omega)) ?_
                            refine OL_sil rfl rfl rfl (Sil.fieldLoc 2 rfl rfl Try.underlying33 rfl rfl) ?_
                            refine OL_sil rfl rfl rfl (Sil.sqLoad 2 rfl rfl rfl Try.underlying3 rfl (opsC_at hF0 2 _ rfl)) ?_
                            refine OL_sil rfl rfl rfl (Sil.eql rfl rfl rfl) ?_
                            refine OL_sil rfl rfl rfl (Sil.pick1 rfl rfl rfl) ?_
                            refine OL_sil rfl rfl rfl (Sil.move rfl rfl) ?_
                            refine OL_dec 131 rfl (fun ht131 => ?_) (fun ht131 => ?_)
                            · refine OL_sil rfl rfl rfl (Sil.move rfl rfl) ?_
                              refine OL_sil rfl rfl rfl (Sil.indexOwn 0 rfl rfl rfl Try.underlying28 rfl rfl (by omega)) ?_
                              refine OL_sil rfl rfl rfl (Sil.fieldLoc 1 rfl rfl Try.underlying33 rfl rfl) ?_
                              refine OL_sil rfl rfl rfl (Sil.sqLoad 2 rfl rfl rfl Try.underlying3 rfl (opsC_at hF0 1 _ rfl)) ?_
                              refine OL_sil rfl rfl rfl (Sil.eql rfl rfl rfl) ?_
                              refine OL_sil rfl rfl rfl (Sil.pick1 rfl rfl rfl) ?_
                              refine OL_sil rfl rfl rfl (Sil.move rfl rfl) ?_
                              refine OL_dec 138 rfl (fun ht138 => ?_) (fun ht138 => ?_)
                              · refine OL_sil rfl rfl rfl (Sil.move rfl rfl) ?_
                                refine OL_sil rfl rfl rfl (Sil.indexOwn 0 rfl rfl rfl Try.underlying28 rfl rfl (by omega)) ?_
                                refine OL_sil rfl rfl rfl (Sil.fieldLoc 0 rfl rfl Try.underlying33 rfl rfl) ?_
                                refine OL_sil rfl rfl rfl (Sil.sqLoad 2 rfl rfl rfl Try.underlying3 rfl (opsC_at hF0 0 _ rfl)) ?_
                                refine OL_sil rfl rfl rfl (Sil.move rfl rfl) ?_
                                refine OL_sil rfl rfl rfl (Sil.gtr rfl rfl rfl) ?_
                                refine OL_sil rfl rfl rfl (Sil.pick1 rfl rfl rfl) ?_
                                refine OL_sil rfl rfl rfl (Sil.assign rfl rfl) ?_
                                refine OL_nil ?_
                                (refine Cont.then_intro (And.intro (by (repeat' (first | exact Ext.refl | refine Ext.cons rfl ?_))) (And.intro ?_ rfl)); first | exact slotV rfl (congrArg Value.bool (decide_eq_true (by omega)).symm) | exact slotV rfl (congrArg Value.bool (decide_eq_false (by omega)).symm) | exact slotV rfl (congrArg Value.bool (decide_eq_decide.2 (by omega))) | exact slotV rfl (congrArg Value.bool (decide_not.symm.trans (decide_eq_decide.2 (by omega)))))
                              · refine OL_skip rfl rfl rfl ?_
                                refine OL_skip rfl rfl rfl ?_
                                refine OL_skip rfl rfl rfl ?_
                                refine OL_skip rfl rfl rfl ?_
                                refine OL_skip rfl rfl rfl ?_
                                refine OL_skip rfl rfl rfl ?_
                                refine OL_sil rfl rfl rfl (Sil.pick0 rfl rfl rfl) ?_
                                refine OL_sil rfl rfl rfl (Sil.assign rfl rfl) ?_
                                refine OL_nil ?_
                                (refine Cont.then_intro (And.intro (by (repeat' (first | exact Ext.refl | refine Ext.cons rfl ?_))) (And.intro ?_ rfl)); first | exact slotV rfl (congrArg Value.bool (decide_eq_true (by omega)).symm) | exact slotV rfl (congrArg Value.bool (decide_eq_false (by omega)).symm) | exact slotV rfl (congrArg Value.bool (decide_eq_decide.2 (by omega))) | exact slotV rfl (congrArg Value.bool (decide_not.symm.trans (decide_eq_decide.2 (by omega)))))
                            · refine OL_skip rfl rfl rfl ?_
                              refine OL_skip rfl rfl rfl ?_
                              refine OL_skip rfl rfl rfl ?_
                              refine OL_skip rfl rfl rfl ?_
                              refine OL_skip rfl rfl rfl ?_
                              refine OL_sil rfl rfl rfl (Sil.pick0 rfl rfl rfl) ?_
                              refine OL_sil rfl rfl rfl (Sil.move rfl rfl) ?_
                              refine OL_skip rfl rfl rfl ?_
                              refine OL_skip rfl rfl rfl ?_
                              refine OL_skip rfl rfl rfl ?_
                              refine OL_skip rfl rfl rfl ?_
                              refine OL_skip rfl rfl rfl ?_
                              refine OL_skip rfl rfl rfl ?_
                              refine OL_sil rfl rfl rfl (Sil.pick0 rfl rfl rfl) ?_
                              refine OL_sil rfl rfl rfl (Sil.assign rfl rfl) ?_
                              refine OL_nil ?_
                              (refine Cont.then_intro (And.intro (by (repeat' (first | exact Ext.refl | refine Ext.cons rfl ?_))) (And.intro ?_ rfl)); first | exact slotV rfl (congrArg Value.bool (decide_eq_true (by omega)).symm) | exact slotV rfl (congrArg Value.bool (decide_eq_false (by omega)).symm) | exact slotV rfl (congrArg Value.bool (decide_eq_decide.2 (by omega))) | exact slotV rfl (congrArg Value.bool (decide_not.symm.trans (decide_eq_decide.2 (by omega)))))
                          · refine OL_skip rfl rfl rfl ?_
                            refine OL_skip rfl rfl rfl ?_
                            refine OL_skip rfl rfl rfl ?_
                            refine OL_skip rfl rfl rfl ?_
                            refine OL_skip rfl rfl rfl ?_
                            refine OL_sil rfl rfl rfl (Sil.pick0 rfl rfl rfl) ?_
                            refine OL_sil rfl rfl rfl (Sil.move rfl rfl) ?_
                            refine OL_skip rfl rfl rfl ?_
                            refine OL_skip rfl rfl rfl ?_
                            refine OL_skip rfl rfl rfl ?_
                            refine OL_skip rfl rfl rfl ?_
                            refine OL_skip rfl rfl rfl ?_
                            refine OL_sil rfl rfl rfl (Sil.pick0 rfl rfl rfl) ?_
                            refine OL_sil rfl rfl rfl (Sil.move rfl rfl) ?_
                            refine OL_skip rfl rfl rfl ?_
                            refine OL_skip rfl rfl rfl ?_
                            refine OL_skip rfl rfl rfl ?_
                            refine OL_skip rfl rfl rfl ?_
                            refine OL_skip rfl rfl rfl ?_
                            refine OL_skip rfl rfl rfl ?_
                            refine OL_sil rfl rfl rfl (Sil.pick0 rfl rfl rfl) ?_
                            refine OL_sil rfl rfl rfl (Sil.assign rfl rfl) ?_
                            refine OL_nil ?_
                            (refine Cont.then_intro (And.intro (by (repeat' (first | exact Ext.refl | refine Ext.cons rfl ?_))) (And.intro ?_ rfl)); first | exact slotV rfl (congrArg Value.bool (decide_eq_true (by omega)).symm) | exact slotV rfl (congrArg Value.bool (decide_eq_false (by omega)).symm) | exact slotV rfl (congrArg Value.bool (decide_eq_decide.2 (by omega))) | exact slotV rfl (congrArg Value.bool (decide_not.symm.trans (decide_eq_decide.2 (by omega)))))
                        refine TC_ret ?_
                        exact ret1 rfl rfl ⟨congrArg Value.bool (decide_eq_true rfl), rfl⟩
theorem FlawsRuns_gives (zs : List Int) (a : Option Addr) (cap : Nat) (which : Int) (w0 : World) (hd : IntSl w0 a zs.length (fun i => zs.getD i 0)) (hmx : zs.length ≤ maxLen) :
    Gives Try.prog 4 [.slice a zs.length cap, .int .i64 which] w0 [] fun v h => v = .bool true ∧ h = [] := by
  cases hk : (ksOf zs)[((which % 18446744073709551616).toNat &&& 1023) % zs.length]? with
  | none => exact FlawsRuns_none zs a cap which _ _ rfl rfl w0 hd hmx (fun c hc => by rw [hk] at hc; cases hc)
  | some c =>
    cases hn : nx (ksOf zs) (((which % 18446744073709551616).toNat &&& 1023) % zs.length) c (ksOf zs).length with
    | none => exact FlawsRuns_none zs a cap which _ _ rfl rfl w0 hd hmx (fun c' hc => by rw [hk] at hc; cases hc; exact hn)
    | some mm => exact FlawsRuns_some zs a cap which _ _ rfl rfl w0 hd hmx mm (fun c' hc => by rw [hk] at hc; cases hc; exact hn)
end Go.Proofs.Ytjnopbmanhialaa
