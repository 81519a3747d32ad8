/-
  Walk: hist.Writes.
-/
import Derived.Test.YtjnopbmanhialaaHfN
namespace Go.Proofs.Ytjnopbmanhialaa
open Go.Cru

/-- The last write of a key among the first i operations. -/
def lastOp (ops : List OpD) (key : Int) : Nat → Option OpD
  | 0 => none
  | i + 1 => match ops[i]? with
    | some o => if o.k = 2 ∧ o.key = key then some o else lastOp ops key i
    | none => lastOp ops key i
/-- The last write of each key, of the first j keys. -/
def wrN (ops : List OpD) : Nat → List OpD
  | 0 => []
  | j + 1 => wrN ops j ++ (lastOp ops j ops.length).toList
theorem lastOp_hit {ops : List OpD} {key : Int} {i : Nat} {o : OpD} (ho : ops[i]? = some o) (h : o.k = 2 ∧ o.key = key) : lastOp ops key (i + 1) = some o := by rw [lastOp, ho]; exact if_pos h
theorem lastOp_miss {ops : List OpD} {key : Int} {i : Nat} {o : OpD} (ho : ops[i]? = some o) (h : ¬ (o.k = 2 ∧ o.key = key)) : lastOp ops key (i + 1) = lastOp ops key i := by rw [lastOp, ho]; exact if_neg h
theorem wrN_len (ops : List OpD) : ∀ j, (wrN ops j).length ≤ j
  | 0 => Nat.le_refl _
  | j + 1 => by
    have := wrN_len ops j
    rw [wrN, List.length_append]
    cases lastOp ops j ops.length <;> simp <;> omega
/-- The parts of the first range over a function. -/
def rangeOf : Code → Option (Code × Code)
  | .seq x y => match rangeOf x with
    | some p => some p
    | none => rangeOf y
  | .block _ c => rangeOf c
  | .loop c => rangeOf c
  | .rangeFunc _ _ a b => some (a, b)
  | _ => none
def rangeAt (fn : Func) : Code × Code := match fn.body with
  | some c => match rangeOf c with
    | some p => p
    | none => (.skip, .skip)
  | none => (.skip, .skip)
noncomputable def cA : Code := (rangeAt Try.f33).1
noncomputable def cB : Code := (rangeAt Try.f33).2
def loopR (L : Nat) (r : Loop) : Res := blk L (.loop r)
theorem own_alloc {w0 w : World} {bor : List Nat} {h : Mem} (ho : Own w0 bor h w) (ob : Obj) : Own w0 bor (h ++ [blk w.heap.size ob]) (w.alloc ob) :=
  ho.new ob _ rfl (show (w.heap.push ob)[w.heap.size]? = _ from Array.getElem?_push_size)
theorem own_put {w0 w : World} {bor : List Nat} {h : Mem} (ho : Own w0 bor h w) {i L : Nat} {ob : Obj} (hi : h[i]? = some (blk L ob)) (ob' : Obj) : Own w0 bor (h.set i (blk L ob')) (w.putObj L ob') := by
  have hm := List.mem_of_getElem? hi
  have hlt : L < w.heap.size := ho.lt _ hm L (by simp [blk])
  exact ho.set hi rfl rfl rfl rfl (by simp [World.putObj]) (fun k hk => World.putObj_heap_other (fun e => hk (by simp [blk, e]))) (World.putObj_heap_same hlt)
theorem own_at {w0 w : World} {bor : List Nat} {h : Mem} (ho : Own w0 bor h w) {i L : Nat} {ob : Obj} (hi : h[i]? = some (blk L ob)) : w.heap[L]? = some ob := ho.mine _ (List.mem_of_getElem? hi)
theorem own_bagFront {w0 w : World} {bor : List Nat} {h : Mem} (ho : Own w0 bor h w) : Own w0 bor (bagR [] :: h) w := ho.regroup (fun r hr => by
  rcases List.mem_cons.1 hr with rfl | hr
  · intro s hs; cases hs
  · exact ho.mine r hr) (by simp [bagR])
/-- A new mark goes into the bag. -/
theorem own_mark {w0 w : World} {bor : List Nat} {h A B : Mem} {Ds : List Nat} {D : Nat} (ho : Own w0 bor h w) (hh : h = bagR (Ds.map mkR) :: (A ++ mkR D :: B)) : Own w0 bor (bagR ((D :: Ds).map mkR) :: A) w := by
  subst hh
  have h1 : Own w0 bor (bagR (Ds.map mkR) :: (A ++ [mkR D])) w := ho.drop (List.Sublist.cons_cons _ ((List.Sublist.refl A).append (List.Sublist.cons_cons _ (List.nil_sublist _))))
  refine h1.regroup (fun r hr => ?_) ?_
  · rcases List.mem_cons.1 hr with rfl | hr
    · intro s hs
      rw [List.map_cons] at hs
      rcases List.mem_cons.1 hs with rfl | hs
      · exact h1.mine (mkR D) (by simp)
      · exact h1.mine (bagR (Ds.map mkR)) (by simp) s hs
    · exact h1.mine r (by simp [hr])
  · simp only [List.flatMap_cons, List.flatMap_append, bagR, List.map_cons, List.flatMap_nil, List.append_nil, List.append_assoc]
    exact (List.perm_append_comm (l₁ := (mkR D).ids)).trans (by simp)
section
variable {l : Env} {w0 : World} {KD : ContD} {Ds : List Nat} {b1 b3 b4 bx k : Nat} {ao a : Option Addr} {m cap c : Nat} {out ops : List OpD} {tu : List Value}
theorem range_w (hl : ops.length ≤ 1000) (hx : OpsAt w0 a ops) (hm : out.length ≤ 16)
    (h3 : fnd l 3 = some (.pointer (some ⟨b3, 0, none⟩))) (h4 : fnd l 4 = some (.pointer (some ⟨b4, 0, none⟩))) (h12 : fnd l 12 = some (.func (.func 46) #[] #[.pointer (some ⟨bx, 0, none⟩)]))
    (hk1 : lastOp ops k ops.length = none → ∀ D, KD .normal l [bagR ((D :: Ds).map mkR), blk b1 (.cells tu.toArray 43 (0, 0)), blk b3 (.cells #[.slice ao out.length cap] 41 (0, 0)), sq ao out.length cap 40 3 (opsC out), blk b4 (.cells #[.int .i64 k] 3 (0, 0)), blk bx (.cells #[.slice a ops.length c] 41 (0, 0))] ((D :: Ds).map mkD))
    (hk2 : ∀ o ao' cap' D, lastOp ops k ops.length = some o → KD (.exit 2) l [bagR ((D :: Ds).map mkR), blk b1 (.cells tu.toArray 43 (0, 0)), blk b3 (.cells #[.slice ao' (out.length + 1) cap'] 41 (0, 0)), sq ao' (out.length + 1) cap' 40 3 (opsC out ++ iv o.is), blk b4 (.cells #[.int .i64 k] 3 (0, 0)), blk bx (.cells #[.slice a ops.length c] 41 (0, 0))] ((D :: Ds).map mkD)) :
    TCD Try.prog 30 w0 [] (.rangeFunc (.tmp 12) #[13, 14] cA cB) KD l [bagR (Ds.map mkR), blk b1 (.cells tu.toArray 43 (0, 0)), blk b3 (.cells #[.slice ao out.length cap] 41 (0, 0)), sq ao out.length cap 40 3 (opsC out), blk b4 (.cells #[.int .i64 k] 3 (0, 0)), blk bx (.cells #[.slice a ops.length c] 41 (0, 0))] (Ds.map mkD) := by
  intro act w hf ho
  refine (wpIn_wide (n := 6)).1 (wpIn_rangeFunc fun fn _ => ?_)
  obtain ⟨D, hD⟩ : ∃ D, D = w.heap.size := ⟨_, rfl⟩
  obtain ⟨L, hL⟩ : ∃ L, L = w.heap.size + 1 := ⟨_, rfl⟩
  obtain ⟨rec, hrec⟩ : ∃ rec : LoopState → Option Code → Loop, rec = fun st pe => { state := st, pending := pe, fn, tmps := act.tmps, params := #[13, 14], assign := cA, body := cB, defers := D } := ⟨_, rfl⟩
  obtain ⟨W1, hW1⟩ : ∃ W1, (w.alloc (.deferred (some []))).alloc (.loop (rec .ready none)) = W1 := ⟨_, rfl⟩
  have ho1 := own_alloc (own_alloc ho (.deferred (some []))) (.loop (rec .ready none))
  rw [hW1, show (w.alloc (.deferred (some []))).heap.size = L from by rw [hL]; simp, ← hD] at ho1
  have hcells : ∀ i (W : World) E, Own w0 [] ([bagR (Ds.map mkR), blk b1 (.cells tu.toArray 43 (0, 0)), blk b3 (.cells #[.slice ao out.length cap] 41 (0, 0)), sq ao out.length cap 40 3 (opsC out), blk b4 (.cells #[.int .i64 k] 3 (0, 0)), blk bx (.cells #[.slice a ops.length c] 41 (0, 0))] ++ E) W → i = 5 → W.cell? ⟨bx, 0, none⟩ = some (.slice a ops.length c) := fun i W E hW e => by
    have := (hW.sta (hs := [blk bx (.cells #[.slice a ops.length c] 41 (0, 0))]) (by simp)).own (off := 0) (i := 0) rfl
    rw [this]; rfl
  refine ⟨L, [mkD D], W1, { target := .fn (.func 46) #[.pointer (some ⟨bx, 0, none⟩)], args := #[.func (.yield L) #[] #[]] }, W1, 46,
    #[.func (.yield L) #[] #[], .pointer (some ⟨bx, 0, none⟩)], W1, ?_, ?_, fun _ _ => trivial, ?_, fun hh => (by cases hh), ?_⟩
  · rw [← hW1, hrec, hL, hD]; exact run_enterLoop_outer _ _ _ _ _
  · have : act.eval (.tmp 12) = _ := hf.eval (x := .tmp 12) h12
    simp only [resolve, this]
    simp [go_sem]
  · have := ent46 (#[.func (.yield L) #[] #[]] ++ #[.pointer (some ⟨bx, 0, none⟩)]) W1
    exact this
  · refine (back_in L bx a ops c hl
      (fun i W => Own w0 [] ([bagR (Ds.map mkR), blk b1 (.cells tu.toArray 43 (0, 0)), blk b3 (.cells #[.slice ao out.length cap] 41 (0, 0)), sq ao out.length cap 40 3 (opsC out), blk b4 (.cells #[.int .i64 k] 3 (0, 0)), blk bx (.cells #[.slice a ops.length c] 41 (0, 0))] ++ [mkR D, loopR L (rec .ready none)]) W ∧ lastOp ops k ops.length = lastOp ops k i)
      (fun W => ∃ o ao' cap', lastOp ops k ops.length = some o ∧ Own w0 [] [bagR (Ds.map mkR), blk b1 (.cells tu.toArray 43 (0, 0)), blk b3 (.cells #[.slice ao' (out.length + 1) cap'] 41 (0, 0)), sq ao' (out.length + 1) cap' 40 3 (opsC out ++ iv o.is), blk b4 (.cells #[.int .i64 k] 3 (0, 0)), blk bx (.cells #[.slice a ops.length c] 41 (0, 0)), mkR D, loopR L (rec .done (some (.exit 2)))] W)
      (fun i W hW => ⟨hcells 5 W _ hW.1 rfl, hx.keep hW.1.keep⟩) ?_ W1 ⟨ho1, rfl⟩).mono ?_
    · -- one round
      rintro i o W ⟨hoW, hlast⟩ ho'
      have hLr : W.heap[L]? = some (.loop (rec .ready none)) := own_at hoW (i := 7) rfl
      have hy := run_yield (P := Try.prog) (args := #[.int .i64 i, agI o.is]) hLr (by rw [hrec]; rfl)
      rw [hrec] at hy
      have hz : ((#[13, 14] : Array Tmp).zip #[.int .i64 (i : Int), agI o.is]).foldl (fun tmps (t, a) => tmps.setIfInBounds t a) act.tmps = (act.tmps.setIfInBounds 13 (.int .i64 i)).setIfInBounds 14 (agI o.is) := by simp
      have hy : (Instr.yield L #[.int .i64 i, agI o.is]).run Try.prog W = .ok (.round L fn ((act.tmps.setIfInBounds 13 (.int .i64 i)).setIfInBounds 14 (agI o.is)) cA cB) W := hz ▸ hy
      have hfr : Fr 30 ((14, agI o.is) :: (13, .int .i64 (i : Int)) :: l) { tmps := (act.tmps.setIfInBounds 13 (.int .i64 i)).setIfInBounds 14 (agI o.is), defers := [] } := (hf.fr.put (d := 13) rfl (.int .i64 i)).put (d := 14) rfl (agI o.is)
      refine ⟨fn, _, _, _, hy, roundIn_of_wpIn trivial ?_⟩
      have hA : TCR Try.prog 30 w0 [] L 4 cA (fun e l' h' => e = .normal ∧ ∃ b6, l' = (6, .pointer (some ⟨b6, 0, none⟩)) :: (14, agI o.is) :: (13, .int .i64 (i : Int)) :: l ∧ h' = [bagR (Ds.map mkR), blk b1 (.cells tu.toArray 43 (0, 0)), blk b3 (.cells #[.slice ao out.length cap] 41 (0, 0)), sq ao out.length cap 40 3 (opsC out), blk b4 (.cells #[.int .i64 k] 3 (0, 0)), blk bx (.cells #[.slice a ops.length c] 41 (0, 0)), mkR D, loopR L (rec .ready none), blk b6 (.cells (iv o.is).toArray 40 (0, 0))]) ((14, agI o.is) :: (13, .int .i64 (i : Int)) :: l) ([bagR (Ds.map mkR), blk b1 (.cells tu.toArray 43 (0, 0)), blk b3 (.cells #[.slice ao out.length cap] 41 (0, 0)), sq ao out.length cap 40 3 (opsC out), blk b4 (.cells #[.int .i64 k] 3 (0, 0)), blk bx (.cells #[.slice a ops.length c] 41 (0, 0))] ++ [mkR D, loopR L (rec .ready none)]) := by
        refine TCR_region rfl ?_
        refine OL_loud rfl rfl rfl (LO.alloc rfl rfl) ?_
        rintro _ _ ⟨b6, _, rfl, rfl⟩
        refine OL_loud0 rfl rfl (by exact LO.storeAllV rfl rfl rfl (by first | exact at0 | exact at1 | exact at2 | exact at3 | exact at4 | exact at5 | exact at6 | exact at7 | exact at8 | exact at9 | exact at10 | exact at11 | exact at12 | exact at13 | exact at14 | exact at15) (by rfl) (by rfl) (by rfl) (by rfl)) ?_
        rintro _ _ ⟨rfl, rfl⟩
        refine OL_nil ?_
        exact ⟨rfl, b6, rfl, rfl⟩
      refine wpIn_mono (hA _ W hfr hoW) ?_
      rintro e a1 w1 hq
      cases e with
      | normal =>
        obtain ⟨l1, h1, hf1, ho1', _, b6, rfl, rfl⟩ := hq
        have hL1 : w1.heap[L]? = some (.loop (rec .ready none)) := own_at ho1' (i := 7) rfl
        have hob := own_put ho1' (i := 7) (L := L) rfl (.loop { rec .ready none with state := .busy })
        refine ⟨_, run_beginRound hL1 (by rw [hrec]), ?_⟩
        obtain ⟨busy, hbusy⟩ : ∃ busy, busy = ({ rec .ready none with state := .busy } : Loop) := ⟨_, rfl⟩
        rw [← hbusy] at hob ⊢
        have hB : TCR Try.prog 30 w0 [] L 4 cB (fun e _ h' => (e = .normal ∧ ¬ (o.k = 2 ∧ o.key = k) ∧ h' = [bagR (Ds.map mkR), blk b1 (.cells tu.toArray 43 (0, 0)), blk b3 (.cells #[.slice ao out.length cap] 41 (0, 0)), sq ao out.length cap 40 3 (opsC out), blk b4 (.cells #[.int .i64 k] 3 (0, 0)), blk bx (.cells #[.slice a ops.length c] 41 (0, 0)), mkR D, loopR L busy, blk b6 (.cells (iv o.is).toArray 40 (0, 0))]) ∨
            (e = .exit 2 ∧ (o.k = 2 ∧ o.key = k) ∧ ∃ ao' cap' E, h' = [bagR (Ds.map mkR), blk b1 (.cells tu.toArray 43 (0, 0)), blk b3 (.cells #[.slice ao' (out.length + 1) cap'] 41 (0, 0)), sq ao' (out.length + 1) cap' 40 3 (opsC out ++ iv o.is), blk b4 (.cells #[.int .i64 k] 3 (0, 0)), blk bx (.cells #[.slice a ops.length c] 41 (0, 0)), mkR D, loopR L busy] ++ E)) ((6, .pointer (some ⟨b6, 0, none⟩)) :: (14, agI o.is) :: (13, .int .i64 (i : Int)) :: l) [bagR (Ds.map mkR), blk b1 (.cells tu.toArray 43 (0, 0)), blk b3 (.cells #[.slice ao out.length cap] 41 (0, 0)), sq ao out.length cap 40 3 (opsC out), blk b4 (.cells #[.int .i64 k] 3 (0, 0)), blk bx (.cells #[.slice a ops.length c] 41 (0, 0)), mkR D, loopR L busy, blk b6 (.cells (iv o.is).toArray 40 (0, 0))] := by
          refine TCR_block ?_
          refine TCR_seq ?_
          refine TCR_region rfl ?_
          refine OL_sil rfl rfl rfl (Sil.fieldLoc 0 rfl rfl Try.underlying40 rfl rfl) ?_
          refine OL_sil rfl rfl rfl (Sil.ownL 8 rfl rfl rfl Try.underlying3 rfl rfl) ?_
          refine OL_sil rfl rfl rfl (Sil.eql rfl rfl rfl) ?_
          refine OL_sil rfl rfl rfl (Sil.move rfl rfl) ?_
          refine OL_dec 18 rfl (fun ht => ?_) (fun ht => ?_)
          · refine OL_sil rfl rfl rfl (Sil.fieldLoc 1 rfl rfl Try.underlying40 rfl rfl) ?_
            refine OL_sil rfl rfl rfl (Sil.ownL 8 rfl rfl rfl Try.underlying3 rfl rfl) ?_
            refine OL_sil rfl rfl rfl (Sil.own 4 rfl h4 rfl Try.underlying3 rfl rfl) ?_
            refine OL_sil rfl rfl rfl (Sil.eql rfl rfl rfl) ?_
            refine OL_sil rfl rfl rfl (Sil.pick1 rfl rfl rfl) ?_
            refine OL_nil ?_
            refine TCR_cond rfl (fun hb => ?_) (fun hb => ?_)
            · have hkey : o.key = k := of_decide_eq_true hb
              refine TCR_seq ?_
              refine TCR_region rfl ?_
              refine OL_sil rfl rfl rfl (Sil.own 2 rfl h3 rfl Try.underlying41 rfl rfl) ?_
              refine OL_sil rfl rfl rfl (Sil.whole 8 rfl rfl rfl ⟨Try.underlying40, rfl⟩ rfl rfl) ?_
              refine OL_loud rfl rfl rfl (LO.buildSlice1 rfl rfl Try.underlying41 rfl rfl rfl) ?_
              rintro _ _ ⟨tb, rfl, rfl⟩
              refine OL_loud rfl rfl rfl (LO.append 3 (iv o.is) rfl rfl rfl rfl elOp rfl (fun w hw => hw.cells (i := 9) rfl) (by simp [iv, OpD.is, oneC]) (by unfold maxLen; omega) (by omega)) ?_
              rintro _ _ ⟨ao1, cap1, rfl, rfl⟩
              refine OL_loud0 rfl rfl (LO.storeAs 2 #[.slice ao1 (out.length + 1) cap1] rfl h3 rfl rfl rfl rfl (by simp [Value.cells, oneC]) (Nat.le_refl _) rfl) ?_
              rintro _ _ ⟨rfl, rfl⟩
              refine OL_nil ?_
              refine TCR_exit ?_
              exact .inr ⟨rfl, ⟨ht, hkey⟩, ao1, cap1, _, rfl⟩
            · refine TCR_skip ?_
              exact .inl ⟨rfl, fun hh => absurd hh.2 (of_decide_eq_false hb), rfl⟩
          · refine OL_skip rfl rfl rfl ?_
            refine OL_skip rfl rfl rfl ?_
            refine OL_skip rfl rfl rfl ?_
            refine OL_skip rfl rfl rfl ?_
            refine OL_sil rfl rfl rfl (Sil.pick0 rfl rfl rfl) ?_
            refine OL_nil ?_
            refine TCR_no rfl ?_
            refine TCR_skip ?_
            exact .inl ⟨rfl, fun hh => ht hh.1, rfl⟩
        refine wpIn_mono (hB _ _ hf1 hob) ?_
        rintro e a2 w2 hq2
        cases e with
        | normal =>
          obtain ⟨l2, h2, hf2, ho2, hh⟩ := hq2
          rcases hh with ⟨_, hmiss, rfl⟩ | ⟨hc, _⟩
          · have hL2 : w2.heap[L]? = some (.loop busy) := own_at ho2 (i := 7) rfl
            have ho3 := own_put ho2 (i := 7) (L := L) rfl (.loop { busy with state := .ready, pending := none })
            have he := run_endRound (P := Try.prog) none hL2
            refine ⟨_, _, he, .inl ⟨rfl, ?_, ?_⟩⟩
            · have hb2 : ({ busy with state := .ready, pending := none } : Loop) = rec .ready none := by rw [hbusy, hrec]
              rw [hb2] at ho3
              show Own w0 [] _ (w2.putObj L (.loop ({ busy with state := .ready, pending := none } : Loop)))
              rw [hb2]
              exact ho3.drop (List.Sublist.cons_cons _ (List.Sublist.cons_cons _ (List.Sublist.cons_cons _ (List.Sublist.cons_cons _ (List.Sublist.cons_cons _ (List.Sublist.cons_cons _ (List.Sublist.cons_cons _ (List.Sublist.cons_cons _ (List.nil_sublist _)))))))))
            · rw [hlast, lastOp_miss ho' hmiss]
          · cases hc
        | exit id =>
          obtain ⟨l2, h2, hf2, ho2, hh⟩ := hq2
          rcases hh with ⟨hc, _⟩ | ⟨he2, hhit, ao', cap', E, rfl⟩
          · cases hc
          · obtain rfl : id = 2 := by injection he2
            have hL2 : w2.heap[L]? = some (.loop busy) := own_at ho2 (i := 7) rfl
            have ho3 := own_put ho2 (i := 7) (L := L) rfl (.loop { busy with state := .done, pending := some (.exit 2) })
            have he := run_endRound (P := Try.prog) (some (.exit 2)) hL2
            refine ⟨_, _, he, .inr ⟨rfl, o, ao', cap', by rw [hlast, lastOp_hit ho' hhit], ?_⟩⟩
            have hb2 : ({ busy with state := .done, pending := some (.exit 2) } : Loop) = rec .done (some (.exit 2)) := by rw [hbusy, hrec]
            rw [hb2] at ho3
            show Own w0 [] _ (w2.putObj L (.loop ({ busy with state := .done, pending := some (.exit 2) } : Loop)))
            rw [hb2]
            exact ho3.drop (List.Sublist.cons_cons _ (List.Sublist.cons_cons _ (List.Sublist.cons_cons _ (List.Sublist.cons_cons _ (List.Sublist.cons_cons _ (List.Sublist.cons_cons _ (List.Sublist.cons_cons _ (List.Sublist.cons_cons _ (List.nil_sublist _)))))))))
        | ret => obtain ⟨_, _, _, _, hh⟩ := hq2; rcases hh with ⟨hc, _⟩ | ⟨hc, _⟩ <;> cases hc
        | goto t => obtain ⟨_, _, _, _, hh⟩ := hq2; rcases hh with ⟨hc, _⟩ | ⟨hc, _⟩ <;> cases hc
        | panic ch => exact hq2.elim
        | outgrown => exact hq2.elim
      | ret => obtain ⟨_, _, _, _, hc, _⟩ := hq; cases hc
      | exit id => obtain ⟨_, _, _, _, hc, _⟩ := hq; cases hc
      | goto id => obtain ⟨_, _, _, _, hc, _⟩ := hq; cases hc
      | panic ch => exact hq.elim
      | outgrown => exact hq.elim
    · -- behind the iterator
      rintro e W2 ⟨⟨v, rfl⟩, (⟨hoW, hlast⟩ | ⟨o, ao', cap', hlast, hoW⟩)⟩
      · have hL2 : W2.heap[L]? = some (.loop (rec .ready none)) := own_at hoW (i := 7) rfl
        have he := run_endLoop (P := Try.prog) hL2 (by rw [hrec]; simp)
        have hpe : (rec .ready none).pending = none := by rw [hrec]
        rw [hpe] at he
        refine ⟨none, _, he, ?_⟩
        exact ⟨l, _, (D :: Ds).map mkD, ⟨hf.fr, by show mkD D :: act.defers = _; rw [hf.ds]; rfl⟩, own_mark (own_put hoW (i := 7) (L := L) rfl _) (A := [_, _, _, _, _]) (B := [_]) rfl, hk1 (hlast.trans rfl) D⟩
      · have hL2 : W2.heap[L]? = some (.loop (rec .done (some (.exit 2)))) := own_at hoW (i := 7) rfl
        have he := run_endLoop (P := Try.prog) hL2 (by rw [hrec]; simp)
        have hpe : (rec .done (some (.exit 2))).pending = some (.exit 2) := by rw [hrec]
        rw [hpe] at he
        refine ⟨some (.exit 2), _, he, wpIn_exit ?_⟩
        exact ⟨l, _, (D :: Ds).map mkD, ⟨hf.fr, by show mkD D :: act.defers = _; rw [hf.ds]; rfl⟩, own_mark (own_put hoW (i := 7) (L := L) rfl _) (A := [_, _, _, _, _]) (B := [_]) rfl, hk2 o ao' cap' D hlast⟩
end
end Go.Proofs.Ytjnopbmanhialaa
