/-
  Law: of each event by itself what is wrong with it is told at its place.
-/
import Derived.Test.YtjnopbmanhialaaHfK
namespace Go.Cru
open Go
theorem RcsAt.of_sqV {w : World} {ao : Option Addr} {cap T : Nat} {xs : List RcV} (h : (sq ao xs.length cap T 3 (rvsC xs)).P (hf w)) (hl : ∀ x ∈ xs, OpsV w x.2 x.1.ops) : RcsAt w ao (xs.map (·.1)) :=
  ⟨by rw [List.length_map]; exact (sq_le h).2, fun j e hj => by
    rw [List.getElem?_map] at hj
    obtain ⟨x, hx, rfl⟩ := Option.map_eq_some_iff.1 hj
    obtain ⟨g, rfl⟩ := sq_some h (by have := ltOf hx; omega)
    exact ⟨_, x.2, rfl, fun i u hu => by rw [add_lit, add_lit, Nat.zero_add]; exact sq_cell h (rvsC_at hx i u hu), hl x (List.mem_of_getElem? hx)⟩⟩
end Go.Cru
namespace Go.Proofs.Ytjnopbmanhialaa
open Go.Cru

theorem snoc_at9 {w : World} {es : List RcD} {e : RcD} {u : Value} {am : Option Addr} {cm T : Nat} {xm : List RcV} {rm : List Res} (hs : (sq am (xm.length + 1) cm T 3 (rvsC xm ++ rcC e u)).P (hf w)) (hb : (bagR rm).P (hf w)) (hm : xm.map (·.1) = es) (hl : ∀ x ∈ xm, Lies 40 rm x) (hu : OpsV w u e.ops) : RcsAt w am (es ++ [e]) := by
  have h1 : RcsAt w am ((xm ++ [(e, u)]).map (·.1)) := RcsAt.of_sqV (T := T) (cap := cm) (by rw [← rvsC_snoc, List.length_append]; exact hs) fun x hx => by
    rcases List.mem_append.1 hx with hx | hx
    · exact (hl x hx).ops hb
    · rw [List.mem_singleton.1 hx]; exact hu
  rw [List.map_append, hm] at h1
  exact h1
theorem HistOne_bad (es : List RcD) (a : Option Addr) (cap : Nat) (e : RcD) (u : Value) (w0 : World) (hx : RcsAt w0 a es) (hu : OpsV w0 u e.ops) (h0 : errC es ≠ 0) :
    Gives Try.prog 11 [.slice a es.length cap, .agg (rcC e u).toArray] w0 [] fun v h => v = .bool true ∧ h = [] := by
  obtain ⟨ae, ce, rfl, hue⟩ := hu
  refine gives_of Try.func11 rfl rfl rfl (Own.start w0) ?_
  refine TC_seq ?_
  refine TC_region ?_
  refine OL_loud rfl rfl rfl (LO.box rfl rfl) ?_
  rintro _ _ ⟨b3, _, rfl, rfl⟩
  refine OL_sil rfl rfl rfl (Sil.assign rfl rfl) ?_
  refine OL_nil ?_
  refine TC_seq ?_
  refine TC_seq ?_
  refine TC_region ?_
  refine OL_pure rfl rfl rfl (LO.pure rfl ent24 rfl (fun w _ => head5_gives w)) ?_
  refine OL_sil rfl rfl rfl (Sil.not rfl rfl) ?_
  refine OL_nil ?_
  refine TC_no rfl ?_
  refine TC_skip ?_
  refine TC_seq ?_
  refine TC_seq ?_
  refine TC_region ?_
  refine OL_sil rfl rfl rfl (Sil.move rfl rfl) ?_
  refine OL_loud rfl rfl rfl (LO.calls rfl ent25 rfl (fun w hw => big5_gives es a cap w (hx.keep hw.keep))) ?_
  rintro _ _ ⟨_, ⟨bb, rfl, _, rfl⟩, rfl⟩
  refine OL_sil rfl rfl rfl (Sil.move rfl rfl) ?_
  refine OL_cases 18 rfl (fun ht18 => ?_) (fun ht18 => ?_)
  · refine OL_skip rfl rfl rfl ?_
    refine OL_skip rfl rfl rfl ?_
    refine OL_skip rfl rfl rfl ?_
    refine OL_skip rfl rfl rfl ?_
    refine OL_sil rfl rfl rfl (Sil.pick1 rfl rfl rfl) ?_
    refine OL_sil rfl rfl rfl (Sil.move rfl rfl) ?_
    refine OL_skip rfl rfl rfl ?_
    refine OL_skip rfl rfl rfl ?_
    refine OL_skip rfl rfl rfl ?_
    refine OL_sil rfl rfl rfl (Sil.pick1 rfl rfl rfl) ?_
    refine OL_nil ?_
    refine TC_yes rfl ?_
    refine TC_seq ?_
    refine TC_region ?_
    refine OL_sil rfl rfl rfl (Sil.assign rfl rfl) ?_
    refine OL_nil ?_
    refine TC_ret ?_
    exact ret1 rfl rfl ⟨rfl, rfl⟩
  · refine OL_sil rfl rfl rfl (Sil.fieldLoc 2 rfl rfl Try.underlying58 rfl rfl) ?_
    refine OL_sil rfl rfl rfl (by exact Sil.ownV rfl rfl (by first | exact at0 | exact at1 | exact at2 | exact at3 | exact at4 | exact at5 | exact at6 | exact at7 | exact at8 | exact at9 | exact at10 | exact at11 | exact at12 | exact at13 | exact at14 | exact at15) Try.underlying41 rfl (by rfl)) ?_
    refine OL_sil rfl rfl rfl (Sil.lenSl rfl rfl Try.underlying41) ?_
    refine OL_sil rfl rfl rfl (Sil.gtr rfl rfl rfl) ?_
    refine OL_sil rfl rfl rfl (Sil.pick0 rfl rfl rfl) ?_
    refine OL_sil rfl rfl rfl (Sil.move rfl rfl) ?_
    refine OL_dec 24 rfl (fun ht24 => ?_) (fun ht24 => ?_)
    · refine OL_skip rfl rfl rfl ?_
      refine OL_skip rfl rfl rfl ?_
      refine OL_skip rfl rfl rfl ?_
      refine OL_sil rfl rfl rfl (Sil.pick1 rfl rfl rfl) ?_
      refine OL_nil ?_
      refine TC_yes rfl ?_
      refine TC_seq ?_
      refine TC_region ?_
      refine OL_sil rfl rfl rfl (Sil.assign rfl rfl) ?_
      refine OL_nil ?_
      refine TC_ret ?_
      exact ret1 rfl rfl ⟨rfl, rfl⟩
    · refine OL_sil rfl rfl rfl (Sil.move rfl rfl) ?_
      refine OL_sil rfl rfl rfl (Sil.lenSl rfl rfl Try.underlying22) ?_
      refine OL_sil rfl rfl rfl (Sil.gtr rfl rfl rfl) ?_
      refine OL_sil rfl rfl rfl (Sil.pick0 rfl rfl rfl) ?_
      refine OL_nil ?_
      refine TC_if rfl (fun ht28 => ?_) (fun ht28 => ?_)
      · refine TC_seq ?_
        refine TC_region ?_
        refine OL_sil rfl rfl rfl (Sil.assign rfl rfl) ?_
        refine OL_nil ?_
        refine TC_ret ?_
        exact ret1 rfl rfl ⟨rfl, rfl⟩
      · refine TC_skip ?_
        refine TC_seq ?_
        refine TC_region ?_
        refine OL_sil rfl rfl rfl (Sil.move rfl rfl) ?_
        refine OL_loud rfl rfl rfl (LO.calls rfl ent27 rfl (fun w hw => (histOf_gives es a cap w (hx.keep hw.keep)).mono (fun v h hR => hR.bad h0))) ?_
        rintro _ _ ⟨_, ⟨rfl, rfl⟩, rfl⟩
        refine OL_sil rfl rfl rfl (Sil.move rfl rfl) ?_
        refine OL_sil rfl rfl rfl (Sil.extract rfl rfl rfl) ?_
        refine OL_sil rfl rfl rfl (Sil.extract rfl rfl rfl) ?_
        refine OL_sil rfl rfl rfl (Sil.extract rfl rfl rfl) ?_
        refine OL_sil rfl rfl rfl (Sil.assign rfl rfl) ?_
        refine OL_sil rfl rfl rfl (Sil.assign rfl rfl) ?_
        refine OL_sil rfl rfl rfl (Sil.assign rfl rfl) ?_
        refine OL_nil ?_
        refine TC_seq ?_
        refine TC_seq ?_
        refine TC_region ?_
        refine OL_sil rfl rfl rfl (Sil.move rfl rfl) ?_
        refine OL_sil rfl rfl rfl (Sil.neq rfl rfl rfl) ?_
        refine OL_nil ?_
        refine TC_ifn rfl (fun ht36 => ?_) (fun ht36 => ?_)
        · refine TC_seq ?_
          refine TC_region ?_
          refine OL_sil rfl rfl rfl (Sil.assign rfl rfl) ?_
          refine OL_nil ?_
          refine TC_ret ?_
          exact ret1 rfl rfl ⟨rfl, rfl⟩
        · exact absurd ht36 h0
theorem HistOne_err (es : List RcD) (a : Option Addr) (cap : Nat) (e : RcD) (u : Value) (w0 : World) (hx : RcsAt w0 a es) (hu : OpsV w0 u e.ops) (h0 : errC es = 0) (h9 : errC (es ++ [e]) ≠ 0) :
    Gives Try.prog 11 [.slice a es.length cap, .agg (rcC e u).toArray] w0 [] fun v h => v = .bool true ∧ h = [] := by
  obtain ⟨ae, ce, rfl, hue⟩ := hu
  obtain ⟨hel, herr⟩ := errC_zero h0
  refine gives_of Try.func11 rfl rfl rfl (Own.start w0) ?_
  refine TC_seq ?_
  refine TC_region ?_
  refine OL_loud rfl rfl rfl (LO.box rfl rfl) ?_
  rintro _ _ ⟨b3, _, rfl, rfl⟩
  refine OL_sil rfl rfl rfl (Sil.assign rfl rfl) ?_
  refine OL_nil ?_
  refine TC_seq ?_
  refine TC_seq ?_
  refine TC_region ?_
  refine OL_pure rfl rfl rfl (LO.pure rfl ent24 rfl (fun w _ => head5_gives w)) ?_
  refine OL_sil rfl rfl rfl (Sil.not rfl rfl) ?_
  refine OL_nil ?_
  refine TC_no rfl ?_
  refine TC_skip ?_
  refine TC_seq ?_
  refine TC_seq ?_
  refine TC_region ?_
  refine OL_sil rfl rfl rfl (Sil.move rfl rfl) ?_
  refine OL_loud rfl rfl rfl (LO.calls rfl ent25 rfl (fun w hw => big5_gives es a cap w (hx.keep hw.keep))) ?_
  rintro _ _ ⟨_, ⟨bb, rfl, hbig, rfl⟩, rfl⟩
  refine OL_sil rfl rfl rfl (Sil.move rfl rfl) ?_
  refine OL_cases 18 rfl (fun ht18 => ?_) (fun ht18 => ?_)
  · refine OL_skip rfl rfl rfl ?_
    refine OL_skip rfl rfl rfl ?_
    refine OL_skip rfl rfl rfl ?_
    refine OL_skip rfl rfl rfl ?_
    refine OL_sil rfl rfl rfl (Sil.pick1 rfl rfl rfl) ?_
    refine OL_sil rfl rfl rfl (Sil.move rfl rfl) ?_
    refine OL_skip rfl rfl rfl ?_
    refine OL_skip rfl rfl rfl ?_
    refine OL_skip rfl rfl rfl ?_
    refine OL_sil rfl rfl rfl (Sil.pick1 rfl rfl rfl) ?_
    refine OL_nil ?_
    refine TC_yes rfl ?_
    refine TC_seq ?_
    refine TC_region ?_
    refine OL_sil rfl rfl rfl (Sil.assign rfl rfl) ?_
    refine OL_nil ?_
    refine TC_ret ?_
    exact ret1 rfl rfl ⟨rfl, rfl⟩
  · obtain ⟨hb1, hb2⟩ := hbig ht18
    refine OL_sil rfl rfl rfl (Sil.fieldLoc 2 rfl rfl Try.underlying58 rfl rfl) ?_
    refine OL_sil rfl rfl rfl (by exact Sil.ownV rfl rfl (by first | exact at0 | exact at1 | exact at2 | exact at3 | exact at4 | exact at5 | exact at6 | exact at7 | exact at8 | exact at9 | exact at10 | exact at11 | exact at12 | exact at13 | exact at14 | exact at15) Try.underlying41 rfl (by rfl)) ?_
    refine OL_sil rfl rfl rfl (Sil.lenSl rfl rfl Try.underlying41) ?_
    refine OL_sil rfl rfl rfl (Sil.gtr rfl rfl rfl) ?_
    refine OL_sil rfl rfl rfl (Sil.pick0 rfl rfl rfl) ?_
    refine OL_sil rfl rfl rfl (Sil.move rfl rfl) ?_
    refine OL_dec 24 rfl (fun ht24 => ?_) (fun ht24 => ?_)
    · refine OL_skip rfl rfl rfl ?_
      refine OL_skip rfl rfl rfl ?_
      refine OL_skip rfl rfl rfl ?_
      refine OL_sil rfl rfl rfl (Sil.pick1 rfl rfl rfl) ?_
      refine OL_nil ?_
      refine TC_yes rfl ?_
      refine TC_seq ?_
      refine TC_region ?_
      refine OL_sil rfl rfl rfl (Sil.assign rfl rfl) ?_
      refine OL_nil ?_
      refine TC_ret ?_
      exact ret1 rfl rfl ⟨rfl, rfl⟩
    · refine OL_sil rfl rfl rfl (Sil.move rfl rfl) ?_
      refine OL_sil rfl rfl rfl (Sil.lenSl rfl rfl Try.underlying22) ?_
      refine OL_sil rfl rfl rfl (Sil.gtr rfl rfl rfl) ?_
      refine OL_sil rfl rfl rfl (Sil.pick0 rfl rfl rfl) ?_
      refine OL_nil ?_
      refine TC_if rfl (fun ht28 => ?_) (fun ht28 => ?_)
      · refine TC_seq ?_
        refine TC_region ?_
        refine OL_sil rfl rfl rfl (Sil.assign rfl rfl) ?_
        refine OL_nil ?_
        refine TC_ret ?_
        exact ret1 rfl rfl ⟨rfl, rfl⟩
      · obtain ⟨g1, g2, g3⟩ := snoc_err h0 e (by omega) h9
        refine TC_skip ?_
        refine TC_seq ?_
        refine TC_region ?_
        refine OL_sil rfl rfl rfl (Sil.move rfl rfl) ?_
        refine OL_loud rfl rfl rfl (LO.calls rfl ent27 rfl (fun w hw => (histOf_gives es a cap w (hx.keep hw.keep)).mono (fun v h hR => hR.ok h0))) ?_
        rintro _ _ ⟨_, ⟨a1, c1, x1, r1, rfl, hx1, rfl, hl1⟩, rfl⟩
        refine OL_sil rfl rfl rfl (Sil.move rfl rfl) ?_
        refine OL_sil rfl rfl rfl (Sil.extract rfl rfl rfl) ?_
        refine OL_sil rfl rfl rfl (Sil.extract rfl rfl rfl) ?_
        refine OL_sil rfl rfl rfl (Sil.extract rfl rfl rfl) ?_
        refine OL_sil rfl rfl rfl (Sil.assign rfl rfl) ?_
        refine OL_sil rfl rfl rfl (Sil.assign rfl rfl) ?_
        refine OL_sil rfl rfl rfl (Sil.assign rfl rfl) ?_
        refine OL_nil ?_
        refine TC_seq ?_
        refine TC_seq ?_
        refine TC_region ?_
        refine OL_sil rfl rfl rfl (Sil.move rfl rfl) ?_
        refine OL_sil rfl rfl rfl (Sil.neq rfl rfl rfl) ?_
        refine OL_nil ?_
        refine TC_ifn rfl (fun ht36 => ?_) (fun ht36 => ?_)
        · exact absurd rfl ht36
        · refine TC_skip ?_
          refine TC_seq ?_
          refine TC_drawS [blk b3 (.cells (rcC e (.slice ae e.ops.length ce)).toArray 58 (0, 0))] (by (repeat' (first | exact all_nil | refine all_cons (by repeat (first | exact List.Mem.head _ | refine List.Mem.tail _ ?_)) ?_))) rfl (fun j => false) ?_
          intro hs0
          refine DL_take 0 rfl (by kernel_rfl) rfl rfl rfl (Sil.move rfl rfl) (by (repeat' (first | exact all_nil | refine all_cons (by repeat (first | exact List.Mem.head _ | refine List.Mem.tail _ ?_)) ?_))) ?_
          refine DL_take 2 rfl (by kernel_rfl) rfl rfl rfl (by first | exact Sil.ownV rfl rfl (by first | exact at0 | exact at1 | exact at2 | exact at3 | exact at4 | exact at5 | exact at6 | exact at7 | exact at8 | exact at9 | exact at10 | exact at11 | exact at12 | exact at13 | exact at14 | exact at15) Try.underlying58 rfl (by rfl) | exact Sil.wholeV rfl rfl (by first | exact at0 | exact at1 | exact at2 | exact at3 | exact at4 | exact at5 | exact at6 | exact at7 | exact at8 | exact at9 | exact at10 | exact at11 | exact at12 | exact at13 | exact at14 | exact at15) ⟨Try.underlying58, rfl⟩ rfl (by rfl)) (by (repeat' (first | exact all_nil | refine all_cons (by repeat (first | exact List.Mem.head _ | refine List.Mem.tail _ ?_)) ?_))) ?_
          refine DL_all [1, 3] (by kernel_rfl) (by simp) ?_
          simp only [List.forall_mem_cons, List.not_mem_nil, false_implies, implies_true, and_true]
          refine ⟨?_, ?_⟩
          · refine DS_loud rfl rfl rfl rfl (LO.calls rfl ent26 rfl (fun w hw => Copy_gives es a cap w (hx.keep hw.keep) (by omega) (fun e he => by have := hb2 e he; omega))) ?_
            rintro _ _ ⟨_, ⟨am, cm, xm, rm, rfl, hxm, rfl, hlm⟩, rfl⟩
            refine ⟨.inr (by (repeat' (first | exact all_nil | refine all_cons (by repeat (first | exact List.Mem.head _ | refine List.Mem.tail _ ?_)) ?_))), ?_⟩
            have hml : xm.length = es.length := by rw [← hxm]; simp
            refine DL_one 3 (by kernel_rfl) ?_
            refine DS_loud rfl rfl rfl rfl (LO.buildSlice1 rfl rfl Try.underlying22 rfl rfl rfl) ?_
            rintro _ _ ⟨tb, rfl, rfl⟩
            refine ⟨.inr (by (repeat' (first | exact all_nil | refine all_cons (by repeat (first | exact List.Mem.head _ | refine List.Mem.tail _ ?_)) ?_))), ?_⟩
            refine DL_one 4 (by kernel_rfl) ?_
            refine DS_loud rfl rfl rfl rfl (LO.append 3 (rcC e (.slice ae e.ops.length ce)) rfl rfl rfl rfl elEv rfl (fun w hw => hw.cells (i := 5) rfl) (by simp [rcC, oneC]) (by unfold maxLen; omega) (by omega)) ?_
            rintro _ _ ⟨ao1, cap3, rfl, rfl⟩
            refine ⟨.inr (by (repeat' (first | exact all_nil | refine all_cons (by repeat (first | exact List.Mem.head _ | refine List.Mem.tail _ ?_)) ?_))), ?_⟩
            refine DL_take 5 rfl (by kernel_rfl) rfl rfl rfl (Sil.assign rfl rfl) (by (repeat' (first | exact all_nil | refine all_cons (by repeat (first | exact List.Mem.head _ | refine List.Mem.tail _ ?_)) ?_))) ?_
            refine DL_done (by kernel_rfl) ?_
            refine TC_own (h' := [blk b3 (.cells (rcC e (.slice ae e.ops.length ce)).toArray 58 (0, 0)), sq a1 x1.length c1 43 3 (rvsC x1), bagR r1, sq ao1 (xm.length + 1) cap3 58 3 (rvsC xm ++ rcC e (.slice ae e.ops.length ce)), bagR rm]) (fun w hw => hw.drop (List.Sublist.cons_cons _ (List.Sublist.cons_cons _ (List.Sublist.cons_cons _ (List.Sublist.cons_cons _ (List.Sublist.cons_cons _ (List.nil_sublist _))))))) ?_
            refine TC_slot 8 (v := .slice ao1 (es ++ [e]).length cap3) rfl (by rw [List.length_append, hml]; rfl) ?_
            refine TC_seq ?_
            refine TC_region ?_
            refine OL_sil rfl rfl rfl (Sil.move rfl rfl) ?_
            refine OL_loud rfl rfl rfl (LO.calls rfl ent27 rfl (fun w hw => (histOf_gives (es ++ [e]) ao1 cap3 w (snoc_at9 (hw.mine _ (List.mem_of_getElem? (i := 3) rfl)) (hw.mine _ (List.mem_of_getElem? (i := 4) rfl)) hxm hlm ⟨ae, ce, rfl, hue.keep hw.keep⟩)).mono (fun v h hR => hR.bad h9))) ?_
            rintro _ _ ⟨_, ⟨rfl, rfl⟩, rfl⟩
            refine OL_sil rfl rfl rfl (Sil.move rfl rfl) ?_
            refine OL_sil rfl rfl rfl (Sil.extract rfl rfl rfl) ?_
            refine OL_sil rfl rfl rfl (Sil.extract rfl rfl rfl) ?_
            refine OL_sil rfl rfl rfl (Sil.extract rfl rfl rfl) ?_
            refine OL_sil rfl rfl rfl (Sil.assign rfl rfl) ?_
            refine OL_sil rfl rfl rfl (Sil.assign rfl rfl) ?_
            refine OL_sil rfl rfl rfl (Sil.assign rfl rfl) ?_
            refine OL_nil ?_
            refine TC_seq ?_
            refine TC_seq ?_
            refine TC_region ?_
            refine OL_sil rfl rfl rfl (Sil.move rfl rfl) ?_
            refine OL_sil rfl rfl rfl (Sil.neq rfl rfl rfl) ?_
            refine OL_nil ?_
            refine TC_ifn rfl (fun ht49 => ?_) (fun ht49 => ?_)
            · refine TC_seq ?_
              refine TC_region ?_
              refine OL_sil rfl rfl rfl (Sil.move rfl rfl) ?_
              refine OL_sil rfl rfl rfl (Sil.move rfl rfl) ?_
              refine OL_sil rfl rfl rfl (Sil.lenSl rfl rfl Try.underlying22) ?_
              refine OL_sil rfl rfl rfl (Sil.eql rfl rfl rfl) ?_
              refine OL_sil rfl rfl rfl (Sil.move rfl rfl) ?_
              refine OL_dec 54 rfl (fun ht54 => ?_) (fun ht54 => ?_)
              · refine OL_sil rfl rfl rfl (Sil.move rfl rfl) ?_
                refine OL_sil rfl rfl rfl (Sil.lenSl rfl rfl Try.underlying25) ?_
                refine OL_sil rfl rfl rfl (Sil.eql rfl rfl rfl) ?_
                refine OL_sil rfl rfl rfl (Sil.pick1 rfl rfl rfl) ?_
                refine OL_sil rfl rfl rfl (Sil.move rfl rfl) ?_
                refine OL_dec 59 rfl (fun ht59 => ?_) (fun ht59 => ?_)
                · refine OL_sil rfl rfl rfl (Sil.move rfl rfl) ?_
                  refine OL_sil rfl rfl rfl (Sil.geq rfl rfl rfl) ?_
                  refine OL_sil rfl rfl rfl (Sil.pick1 rfl rfl rfl) ?_
                  refine OL_sil rfl rfl rfl (Sil.move rfl rfl) ?_
                  refine OL_dec 63 rfl (fun ht63 => ?_) (fun ht63 => ?_)
                  · refine OL_sil rfl rfl rfl (Sil.move rfl rfl) ?_
                    refine OL_sil rfl rfl rfl (Sil.leq rfl rfl rfl) ?_
                    refine OL_sil rfl rfl rfl (Sil.pick1 rfl rfl rfl) ?_
                    refine OL_sil rfl rfl rfl (Sil.assign rfl rfl) ?_
                    refine OL_nil ?_
                    refine TC_ret ?_
                    exact ret1 rfl rfl ⟨congrArg Value.bool (decide_eq_true g3), rfl⟩
                  · exact absurd g2 ht63
                · exact absurd rfl ht59
              · exact absurd g1 ht54
            · exact absurd ht49 h9
          · refine DS_loud rfl rfl rfl rfl (LO.buildSlice1 rfl rfl Try.underlying22 rfl rfl rfl) ?_
            rintro _ _ ⟨tb, rfl, rfl⟩
            refine ⟨.inr (by (repeat' (first | exact all_nil | refine all_cons (by repeat (first | exact List.Mem.head _ | refine List.Mem.tail _ ?_)) ?_))), ?_⟩
            refine DL_one 1 (by kernel_rfl) ?_
            refine DS_loud rfl rfl rfl rfl (LO.calls rfl ent26 rfl (fun w hw => Copy_gives es a cap w (hx.keep hw.keep) (by omega) (fun e he => by have := hb2 e he; omega))) ?_
            rintro _ _ ⟨_, ⟨am, cm, xm, rm, rfl, hxm, rfl, hlm⟩, rfl⟩
            refine ⟨.inr (by (repeat' (first | exact all_nil | refine all_cons (by repeat (first | exact List.Mem.head _ | refine List.Mem.tail _ ?_)) ?_))), ?_⟩
            have hml : xm.length = es.length := by rw [← hxm]; simp
            refine DL_one 4 (by kernel_rfl) ?_
            refine DS_loud rfl rfl rfl rfl (LO.append 4 (rcC e (.slice ae e.ops.length ce)) rfl rfl rfl rfl elEv rfl (fun w hw => hw.cells (i := 3) rfl) (by simp [rcC, oneC]) (by unfold maxLen; omega) (by omega)) ?_
            rintro _ _ ⟨ao1, cap3, rfl, rfl⟩
            refine ⟨.inr (by (repeat' (first | exact all_nil | refine all_cons (by repeat (first | exact List.Mem.head _ | refine List.Mem.tail _ ?_)) ?_))), ?_⟩
            refine DL_take 5 rfl (by kernel_rfl) rfl rfl rfl (Sil.assign rfl rfl) (by (repeat' (first | exact all_nil | refine all_cons (by repeat (first | exact List.Mem.head _ | refine List.Mem.tail _ ?_)) ?_))) ?_
            refine DL_done (by kernel_rfl) ?_
            refine TC_own (h' := [blk b3 (.cells (rcC e (.slice ae e.ops.length ce)).toArray 58 (0, 0)), sq a1 x1.length c1 43 3 (rvsC x1), bagR r1, sq ao1 (xm.length + 1) cap3 58 3 (rvsC xm ++ rcC e (.slice ae e.ops.length ce)), bagR rm]) (fun w hw => hw.drop (List.Sublist.cons_cons _ (List.Sublist.cons_cons _ (List.Sublist.cons_cons _ (List.Sublist.cons _ (List.Sublist.refl _)))))) ?_
            refine TC_slot 8 (v := .slice ao1 (es ++ [e]).length cap3) rfl (by rw [List.length_append, hml]; rfl) ?_
            refine TC_seq ?_
            refine TC_region ?_
            refine OL_sil rfl rfl rfl (Sil.move rfl rfl) ?_
            refine OL_loud rfl rfl rfl (LO.calls rfl ent27 rfl (fun w hw => (histOf_gives (es ++ [e]) ao1 cap3 w (snoc_at9 (hw.mine _ (List.mem_of_getElem? (i := 3) rfl)) (hw.mine _ (List.mem_of_getElem? (i := 4) rfl)) hxm hlm ⟨ae, ce, rfl, hue.keep hw.keep⟩)).mono (fun v h hR => hR.bad h9))) ?_
            rintro _ _ ⟨_, ⟨rfl, rfl⟩, rfl⟩
            refine OL_sil rfl rfl rfl (Sil.move rfl rfl) ?_
            refine OL_sil rfl rfl rfl (Sil.extract rfl rfl rfl) ?_
            refine OL_sil rfl rfl rfl (Sil.extract rfl rfl rfl) ?_
            refine OL_sil rfl rfl rfl (Sil.extract rfl rfl rfl) ?_
            refine OL_sil rfl rfl rfl (Sil.assign rfl rfl) ?_
            refine OL_sil rfl rfl rfl (Sil.assign rfl rfl) ?_
            refine OL_sil rfl rfl rfl (Sil.assign rfl rfl) ?_
            refine OL_nil ?_
            refine TC_seq ?_
            refine TC_seq ?_
            refine TC_region ?_
            refine OL_sil rfl rfl rfl (Sil.move rfl rfl) ?_
            refine OL_sil rfl rfl rfl (Sil.neq rfl rfl rfl) ?_
            refine OL_nil ?_
            refine TC_ifn rfl (fun ht49 => ?_) (fun ht49 => ?_)
            · refine TC_seq ?_
              refine TC_region ?_
              refine OL_sil rfl rfl rfl (Sil.move rfl rfl) ?_
              refine OL_sil rfl rfl rfl (Sil.move rfl rfl) ?_
              refine OL_sil rfl rfl rfl (Sil.lenSl rfl rfl Try.underlying22) ?_
              refine OL_sil rfl rfl rfl (Sil.eql rfl rfl rfl) ?_
              refine OL_sil rfl rfl rfl (Sil.move rfl rfl) ?_
              refine OL_dec 54 rfl (fun ht54 => ?_) (fun ht54 => ?_)
              · refine OL_sil rfl rfl rfl (Sil.move rfl rfl) ?_
                refine OL_sil rfl rfl rfl (Sil.lenSl rfl rfl Try.underlying25) ?_
                refine OL_sil rfl rfl rfl (Sil.eql rfl rfl rfl) ?_
                refine OL_sil rfl rfl rfl (Sil.pick1 rfl rfl rfl) ?_
                refine OL_sil rfl rfl rfl (Sil.move rfl rfl) ?_
                refine OL_dec 59 rfl (fun ht59 => ?_) (fun ht59 => ?_)
                · refine OL_sil rfl rfl rfl (Sil.move rfl rfl) ?_
                  refine OL_sil rfl rfl rfl (Sil.geq rfl rfl rfl) ?_
                  refine OL_sil rfl rfl rfl (Sil.pick1 rfl rfl rfl) ?_
                  refine OL_sil rfl rfl rfl (Sil.move rfl rfl) ?_
                  refine OL_dec 63 rfl (fun ht63 => ?_) (fun ht63 => ?_)
                  · refine OL_sil rfl rfl rfl (Sil.move rfl rfl) ?_
                    refine OL_sil rfl rfl rfl (Sil.leq rfl rfl rfl) ?_
                    refine OL_sil rfl rfl rfl (Sil.pick1 rfl rfl rfl) ?_
                    refine OL_sil rfl rfl rfl (Sil.assign rfl rfl) ?_
                    refine OL_nil ?_
                    refine TC_ret ?_
                    exact ret1 rfl rfl ⟨congrArg Value.bool (decide_eq_true g3), rfl⟩
                  · exact absurd g2 ht63
                · exact absurd rfl ht59
              · exact absurd g1 ht54
            · exact absurd ht49 h9
theorem HistOne_inv (es : List RcD) (a : Option Addr) (cap : Nat) (e : RcD) (u : Value) (w0 : World) (hx : RcsAt w0 a es) (hu : OpsV w0 u e.ops) (h0 : errC es = 0) (h9 : errC (es ++ [e]) = 0) (hp : e.p = 1) :
    Gives Try.prog 11 [.slice a es.length cap, .agg (rcC e u).toArray] w0 [] fun v h => v = .bool true ∧ h = [] := by
  obtain ⟨ae, ce, rfl, hue⟩ := hu
  obtain ⟨hel, herr⟩ := errC_zero h0
  have htx := (snoc_txs e h9).1 hp
  have htl := txs_len es es.length
  refine gives_of Try.func11 rfl rfl rfl (Own.start w0) ?_
  refine TC_seq ?_
  refine TC_region ?_
  refine OL_loud rfl rfl rfl (LO.box rfl rfl) ?_
  rintro _ _ ⟨b3, _, rfl, rfl⟩
  refine OL_sil rfl rfl rfl (Sil.assign rfl rfl) ?_
  refine OL_nil ?_
  refine TC_seq ?_
  refine TC_seq ?_
  refine TC_region ?_
  refine OL_pure rfl rfl rfl (LO.pure rfl ent24 rfl (fun w _ => head5_gives w)) ?_
  refine OL_sil rfl rfl rfl (Sil.not rfl rfl) ?_
  refine OL_nil ?_
  refine TC_no rfl ?_
  refine TC_skip ?_
  refine TC_seq ?_
  refine TC_seq ?_
  refine TC_region ?_
  refine OL_sil rfl rfl rfl (Sil.move rfl rfl) ?_
  refine OL_loud rfl rfl rfl (LO.calls rfl ent25 rfl (fun w hw => big5_gives es a cap w (hx.keep hw.keep))) ?_
  rintro _ _ ⟨_, ⟨bb, rfl, hbig, rfl⟩, rfl⟩
  refine OL_sil rfl rfl rfl (Sil.move rfl rfl) ?_
  refine OL_cases 18 rfl (fun ht18 => ?_) (fun ht18 => ?_)
  · refine OL_skip rfl rfl rfl ?_
    refine OL_skip rfl rfl rfl ?_
    refine OL_skip rfl rfl rfl ?_
    refine OL_skip rfl rfl rfl ?_
    refine OL_sil rfl rfl rfl (Sil.pick1 rfl rfl rfl) ?_
    refine OL_sil rfl rfl rfl (Sil.move rfl rfl) ?_
    refine OL_skip rfl rfl rfl ?_
    refine OL_skip rfl rfl rfl ?_
    refine OL_skip rfl rfl rfl ?_
    refine OL_sil rfl rfl rfl (Sil.pick1 rfl rfl rfl) ?_
    refine OL_nil ?_
    refine TC_yes rfl ?_
    refine TC_seq ?_
    refine TC_region ?_
    refine OL_sil rfl rfl rfl (Sil.assign rfl rfl) ?_
    refine OL_nil ?_
    refine TC_ret ?_
    exact ret1 rfl rfl ⟨rfl, rfl⟩
  · obtain ⟨hb1, hb2⟩ := hbig ht18
    refine OL_sil rfl rfl rfl (Sil.fieldLoc 2 rfl rfl Try.underlying58 rfl rfl) ?_
    refine OL_sil rfl rfl rfl (by exact Sil.ownV rfl rfl (by first | exact at0 | exact at1 | exact at2 | exact at3 | exact at4 | exact at5 | exact at6 | exact at7 | exact at8 | exact at9 | exact at10 | exact at11 | exact at12 | exact at13 | exact at14 | exact at15) Try.underlying41 rfl (by rfl)) ?_
    refine OL_sil rfl rfl rfl (Sil.lenSl rfl rfl Try.underlying41) ?_
    refine OL_sil rfl rfl rfl (Sil.gtr rfl rfl rfl) ?_
    refine OL_sil rfl rfl rfl (Sil.pick0 rfl rfl rfl) ?_
    refine OL_sil rfl rfl rfl (Sil.move rfl rfl) ?_
    refine OL_dec 24 rfl (fun ht24 => ?_) (fun ht24 => ?_)
    · refine OL_skip rfl rfl rfl ?_
      refine OL_skip rfl rfl rfl ?_
      refine OL_skip rfl rfl rfl ?_
      refine OL_sil rfl rfl rfl (Sil.pick1 rfl rfl rfl) ?_
      refine OL_nil ?_
      refine TC_yes rfl ?_
      refine TC_seq ?_
      refine TC_region ?_
      refine OL_sil rfl rfl rfl (Sil.assign rfl rfl) ?_
      refine OL_nil ?_
      refine TC_ret ?_
      exact ret1 rfl rfl ⟨rfl, rfl⟩
    · refine OL_sil rfl rfl rfl (Sil.move rfl rfl) ?_
      refine OL_sil rfl rfl rfl (Sil.lenSl rfl rfl Try.underlying22) ?_
      refine OL_sil rfl rfl rfl (Sil.gtr rfl rfl rfl) ?_
      refine OL_sil rfl rfl rfl (Sil.pick0 rfl rfl rfl) ?_
      refine OL_nil ?_
      refine TC_if rfl (fun ht28 => ?_) (fun ht28 => ?_)
      · refine TC_seq ?_
        refine TC_region ?_
        refine OL_sil rfl rfl rfl (Sil.assign rfl rfl) ?_
        refine OL_nil ?_
        refine TC_ret ?_
        exact ret1 rfl rfl ⟨rfl, rfl⟩
      · refine TC_skip ?_
        refine TC_seq ?_
        refine TC_region ?_
        refine OL_sil rfl rfl rfl (Sil.move rfl rfl) ?_
        refine OL_loud rfl rfl rfl (LO.calls rfl ent27 rfl (fun w hw => (histOf_gives es a cap w (hx.keep hw.keep)).mono (fun v h hR => hR.ok h0))) ?_
        rintro _ _ ⟨_, ⟨a1, c1, x1, r1, rfl, hx1, rfl, hl1⟩, rfl⟩
        refine OL_sil rfl rfl rfl (Sil.move rfl rfl) ?_
        refine OL_sil rfl rfl rfl (Sil.extract rfl rfl rfl) ?_
        refine OL_sil rfl rfl rfl (Sil.extract rfl rfl rfl) ?_
        refine OL_sil rfl rfl rfl (Sil.extract rfl rfl rfl) ?_
        refine OL_sil rfl rfl rfl (Sil.assign rfl rfl) ?_
        refine OL_sil rfl rfl rfl (Sil.assign rfl rfl) ?_
        refine OL_sil rfl rfl rfl (Sil.assign rfl rfl) ?_
        refine OL_nil ?_
        refine TC_seq ?_
        refine TC_seq ?_
        refine TC_region ?_
        refine OL_sil rfl rfl rfl (Sil.move rfl rfl) ?_
        refine OL_sil rfl rfl rfl (Sil.neq rfl rfl rfl) ?_
        refine OL_nil ?_
        refine TC_ifn rfl (fun ht36 => ?_) (fun ht36 => ?_)
        · exact absurd rfl ht36
        · refine TC_skip ?_
          refine TC_seq ?_
          refine TC_drawS [blk b3 (.cells (rcC e (.slice ae e.ops.length ce)).toArray 58 (0, 0))] (by (repeat' (first | exact all_nil | refine all_cons (by repeat (first | exact List.Mem.head _ | refine List.Mem.tail _ ?_)) ?_))) rfl (fun j => false) ?_
          intro hs0
          refine DL_take 0 rfl (by kernel_rfl) rfl rfl rfl (Sil.move rfl rfl) (by (repeat' (first | exact all_nil | refine all_cons (by repeat (first | exact List.Mem.head _ | refine List.Mem.tail _ ?_)) ?_))) ?_
          refine DL_take 2 rfl (by kernel_rfl) rfl rfl rfl (by first | exact Sil.ownV rfl rfl (by first | exact at0 | exact at1 | exact at2 | exact at3 | exact at4 | exact at5 | exact at6 | exact at7 | exact at8 | exact at9 | exact at10 | exact at11 | exact at12 | exact at13 | exact at14 | exact at15) Try.underlying58 rfl (by rfl) | exact Sil.wholeV rfl rfl (by first | exact at0 | exact at1 | exact at2 | exact at3 | exact at4 | exact at5 | exact at6 | exact at7 | exact at8 | exact at9 | exact at10 | exact at11 | exact at12 | exact at13 | exact at14 | exact at15) ⟨Try.underlying58, rfl⟩ rfl (by rfl)) (by (repeat' (first | exact all_nil | refine all_cons (by repeat (first | exact List.Mem.head _ | refine List.Mem.tail _ ?_)) ?_))) ?_
          refine DL_all [1, 3] (by kernel_rfl) (by simp) ?_
          simp only [List.forall_mem_cons, List.not_mem_nil, false_implies, implies_true, and_true]
          refine ⟨?_, ?_⟩
          · refine DS_loud rfl rfl rfl rfl (LO.calls rfl ent26 rfl (fun w hw => Copy_gives es a cap w (hx.keep hw.keep) (by omega) (fun e he => by have := hb2 e he; omega))) ?_
            rintro _ _ ⟨_, ⟨am, cm, xm, rm, rfl, hxm, rfl, hlm⟩, rfl⟩
            refine ⟨.inr (by (repeat' (first | exact all_nil | refine all_cons (by repeat (first | exact List.Mem.head _ | refine List.Mem.tail _ ?_)) ?_))), ?_⟩
            have hml : xm.length = es.length := by rw [← hxm]; simp
            refine DL_one 3 (by kernel_rfl) ?_
            refine DS_loud rfl rfl rfl rfl (LO.buildSlice1 rfl rfl Try.underlying22 rfl rfl rfl) ?_
            rintro _ _ ⟨tb, rfl, rfl⟩
            refine ⟨.inr (by (repeat' (first | exact all_nil | refine all_cons (by repeat (first | exact List.Mem.head _ | refine List.Mem.tail _ ?_)) ?_))), ?_⟩
            refine DL_one 4 (by kernel_rfl) ?_
            refine DS_loud rfl rfl rfl rfl (LO.append 3 (rcC e (.slice ae e.ops.length ce)) rfl rfl rfl rfl elEv rfl (fun w hw => hw.cells (i := 5) rfl) (by simp [rcC, oneC]) (by unfold maxLen; omega) (by omega)) ?_
            rintro _ _ ⟨ao1, cap3, rfl, rfl⟩
            refine ⟨.inr (by (repeat' (first | exact all_nil | refine all_cons (by repeat (first | exact List.Mem.head _ | refine List.Mem.tail _ ?_)) ?_))), ?_⟩
            refine DL_take 5 rfl (by kernel_rfl) rfl rfl rfl (Sil.assign rfl rfl) (by (repeat' (first | exact all_nil | refine all_cons (by repeat (first | exact List.Mem.head _ | refine List.Mem.tail _ ?_)) ?_))) ?_
            refine DL_done (by kernel_rfl) ?_
            refine TC_own (h' := [blk b3 (.cells (rcC e (.slice ae e.ops.length ce)).toArray 58 (0, 0)), sq a1 x1.length c1 43 3 (rvsC x1), bagR r1, sq ao1 (xm.length + 1) cap3 58 3 (rvsC xm ++ rcC e (.slice ae e.ops.length ce)), bagR rm]) (fun w hw => hw.drop (List.Sublist.cons_cons _ (List.Sublist.cons_cons _ (List.Sublist.cons_cons _ (List.Sublist.cons_cons _ (List.Sublist.cons_cons _ (List.nil_sublist _))))))) ?_
            refine TC_slot 8 (v := .slice ao1 (es ++ [e]).length cap3) rfl (by rw [List.length_append, hml]; rfl) ?_
            refine TC_seq ?_
            refine TC_region ?_
            refine OL_sil rfl rfl rfl (Sil.move rfl rfl) ?_
            refine OL_loud rfl rfl rfl (LO.calls rfl ent27 rfl (fun w hw => (histOf_gives (es ++ [e]) ao1 cap3 w (snoc_at9 (hw.mine _ (List.mem_of_getElem? (i := 3) rfl)) (hw.mine _ (List.mem_of_getElem? (i := 4) rfl)) hxm hlm ⟨ae, ce, rfl, hue.keep hw.keep⟩)).mono (fun v h hR => hR.ok h9))) ?_
            rintro _ _ ⟨_, ⟨a2, c2, x2, r2, rfl, hx2, rfl, hl2⟩, rfl⟩
            refine OL_sil rfl rfl rfl (Sil.move rfl rfl) ?_
            refine OL_sil rfl rfl rfl (Sil.extract rfl rfl rfl) ?_
            refine OL_sil rfl rfl rfl (Sil.extract rfl rfl rfl) ?_
            refine OL_sil rfl rfl rfl (Sil.extract rfl rfl rfl) ?_
            refine OL_sil rfl rfl rfl (Sil.assign rfl rfl) ?_
            refine OL_sil rfl rfl rfl (Sil.assign rfl rfl) ?_
            refine OL_sil rfl rfl rfl (Sil.assign rfl rfl) ?_
            refine OL_nil ?_
            rw [htx, List.map_append] at hx2
            have hn1 : x1.length = (txsM es es.length).length := by have := congrArg List.length hx1; simpa using this
            have hn2 : x2.length = x1.length + 1 := by have := congrArg List.length hx2; simp at this; omega
            obtain ⟨u9, hu9⟩ := at_map hx2 (k := x1.length) (r := ⟨e.q, 0, e.ops⟩) (by rw [List.getElem?_append_right (by simp [hn1])]; simp [hn1])
            have hlu := hl2 _ (List.mem_of_getElem? hu9)
            obtain ⟨a9, c9, hf9⟩ := Lies.form hlu
            have hf9 : u9 = .slice a9 e.ops.length c9 := hf9
            subst hf9
            refine TC_know (fun w hw => hw.sqSome (i := 5) rfl (by omega)) (fun hsome => ?_)
            obtain ⟨g5, rfl⟩ := hsome
            refine TC_seq ?_
            refine TC_seq ?_
            refine TC_region ?_
            refine OL_sil rfl rfl rfl (Sil.move rfl rfl) ?_
            refine OL_sil rfl rfl rfl (Sil.neq rfl rfl rfl) ?_
            refine OL_nil ?_
            refine TC_ifn rfl (fun ht49 => ?_) (fun ht49 => ?_)
            · exact absurd rfl ht49
            · refine TC_skip ?_
              refine TC_seq ?_
              refine TC_seq ?_
              refine TC_region ?_
              refine OL_sil rfl rfl rfl (Sil.fieldLoc 0 rfl rfl Try.underlying58 rfl rfl) ?_
              refine OL_sil rfl rfl rfl (by exact Sil.ownV rfl rfl (by first | exact at0 | exact at1 | exact at2 | exact at3 | exact at4 | exact at5 | exact at6 | exact at7 | exact at8 | exact at9 | exact at10 | exact at11 | exact at12 | exact at13 | exact at14 | exact at15) Try.underlying3 rfl (by rfl)) ?_
              refine OL_sil rfl rfl rfl (Sil.eql rfl rfl rfl) ?_
              refine OL_nil ?_
              refine TC_if rfl (fun ht69 => ?_) (fun ht69 => ?_)
              · refine TC_seq ?_
                refine TC_drawS [blk b3 (.cells (rcC e (.slice ae e.ops.length ce)).toArray 58 (0, 0)), sq (some ⟨g5, 0, none⟩) x2.length c2 43 3 (rvsC x2)] (by (repeat' (first | exact all_nil | refine all_cons (by repeat (first | exact List.Mem.head _ | refine List.Mem.tail _ ?_)) ?_))) rfl (fun j => false) ?_
                intro hs0
                refine DL_take 0 rfl (by kernel_rfl) rfl rfl rfl (Sil.move rfl rfl) (by (repeat' (first | exact all_nil | refine all_cons (by repeat (first | exact List.Mem.head _ | refine List.Mem.tail _ ?_)) ?_))) ?_
                refine DL_take 1 rfl (by kernel_rfl) rfl rfl rfl (Sil.lenSl rfl rfl Try.underlying25) (by (repeat' (first | exact all_nil | refine all_cons (by repeat (first | exact List.Mem.head _ | refine List.Mem.tail _ ?_)) ?_))) ?_
                refine DL_take 2 rfl (by kernel_rfl) rfl rfl rfl (Sil.move rfl rfl) (by (repeat' (first | exact all_nil | refine all_cons (by repeat (first | exact List.Mem.head _ | refine List.Mem.tail _ ?_)) ?_))) ?_
                refine DL_take 3 rfl (by kernel_rfl) rfl rfl rfl (Sil.lenSl rfl rfl Try.underlying25) (by (repeat' (first | exact all_nil | refine all_cons (by repeat (first | exact List.Mem.head _ | refine List.Mem.tail _ ?_)) ?_))) ?_
                refine DL_take 4 rfl (by kernel_rfl) rfl rfl rfl (Sil.add rfl rfl rfl (by omega) (by omega)) (by (repeat' (first | exact all_nil | refine all_cons (by repeat (first | exact List.Mem.head _ | refine List.Mem.tail _ ?_)) ?_))) ?_
                refine DL_take 5 rfl (by kernel_rfl) rfl rfl rfl (Sil.eql rfl rfl rfl) (by (repeat' (first | exact all_nil | refine all_cons (by repeat (first | exact List.Mem.head _ | refine List.Mem.tail _ ?_)) ?_))) ?_
                refine DL_take 6 rfl (by kernel_rfl) rfl rfl rfl (Sil.move rfl rfl) (by (repeat' (first | exact all_nil | refine all_cons (by repeat (first | exact List.Mem.head _ | refine List.Mem.tail _ ?_)) ?_))) ?_
                refine DL_dec 76 rfl (fun ht76 => ?_) (fun ht76 => ?_)
                · refine DL_take 7 rfl (by kernel_rfl) rfl rfl rfl (Sil.move rfl rfl) (by (repeat' (first | exact all_nil | refine all_cons (by repeat (first | exact List.Mem.head _ | refine List.Mem.tail _ ?_)) ?_))) ?_
                  refine DL_take 8 rfl (by kernel_rfl) rfl rfl rfl (Sil.move rfl rfl) (by (repeat' (first | exact all_nil | refine all_cons (by repeat (first | exact List.Mem.head _ | refine List.Mem.tail _ ?_)) ?_))) ?_
                  refine DL_take 9 rfl (by kernel_rfl) rfl rfl rfl (Sil.lenSl rfl rfl Try.underlying25) (by (repeat' (first | exact all_nil | refine all_cons (by repeat (first | exact List.Mem.head _ | refine List.Mem.tail _ ?_)) ?_))) ?_
                  refine DL_take 10 rfl (by kernel_rfl) rfl rfl rfl (Sil.indexOwn x1.length rfl rfl rfl Try.underlying25 rfl rfl (by omega)) (by (repeat' (first | exact all_nil | refine all_cons (by repeat (first | exact List.Mem.head _ | refine List.Mem.tail _ ?_)) ?_))) ?_
                  refine DL_take 11 rfl (by kernel_rfl) rfl rfl rfl (Sil.fieldLoc 0 rfl rfl Try.underlying43 rfl rfl) (by (repeat' (first | exact all_nil | refine all_cons (by repeat (first | exact List.Mem.head _ | refine List.Mem.tail _ ?_)) ?_))) ?_
                  refine DL_take 12 rfl (by kernel_rfl) rfl rfl rfl (Sil.sqLoad 1 rfl rfl rfl Try.underlying3 rfl (rvsC_at hu9 0 _ rfl)) (by (repeat' (first | exact all_nil | refine all_cons (by repeat (first | exact List.Mem.head _ | refine List.Mem.tail _ ?_)) ?_))) ?_
                  refine DL_take 13 rfl (by kernel_rfl) rfl rfl rfl (Sil.fieldLoc 1 rfl rfl Try.underlying58 rfl rfl) (by (repeat' (first | exact all_nil | refine all_cons (by repeat (first | exact List.Mem.head _ | refine List.Mem.tail _ ?_)) ?_))) ?_
                  refine DL_take 14 rfl (by kernel_rfl) rfl rfl rfl (by exact Sil.ownV rfl rfl (by first | exact at0 | exact at1 | exact at2 | exact at3 | exact at4 | exact at5 | exact at6 | exact at7 | exact at8 | exact at9 | exact at10 | exact at11 | exact at12 | exact at13 | exact at14 | exact at15) Try.underlying3 rfl (by rfl)) (by (repeat' (first | exact all_nil | refine all_cons (by repeat (first | exact List.Mem.head _ | refine List.Mem.tail _ ?_)) ?_))) ?_
                  refine DL_take 15 rfl (by kernel_rfl) rfl rfl rfl (Sil.eql rfl rfl rfl) (by (repeat' (first | exact all_nil | refine all_cons (by repeat (first | exact List.Mem.head _ | refine List.Mem.tail _ ?_)) ?_))) ?_
                  refine DL_take 16 rfl (by kernel_rfl) rfl rfl rfl (Sil.pick1 rfl rfl rfl) (by (repeat' (first | exact all_nil | refine all_cons (by repeat (first | exact List.Mem.head _ | refine List.Mem.tail _ ?_)) ?_))) ?_
                  refine DL_take 17 rfl (by kernel_rfl) rfl rfl rfl (Sil.move rfl rfl) (by (repeat' (first | exact all_nil | refine all_cons (by repeat (first | exact List.Mem.head _ | refine List.Mem.tail _ ?_)) ?_))) ?_
                  refine DL_dec 87 rfl (fun ht87 => ?_) (fun ht87 => ?_)
                  · refine DL_take 18 rfl (by kernel_rfl) rfl rfl rfl (Sil.move rfl rfl) (by (repeat' (first | exact all_nil | refine all_cons (by repeat (first | exact List.Mem.head _ | refine List.Mem.tail _ ?_)) ?_))) ?_
                    refine DL_take 19 rfl (by kernel_rfl) rfl rfl rfl (Sil.move rfl rfl) (by (repeat' (first | exact all_nil | refine all_cons (by repeat (first | exact List.Mem.head _ | refine List.Mem.tail _ ?_)) ?_))) ?_
                    refine DL_take 20 rfl (by kernel_rfl) rfl rfl rfl (Sil.lenSl rfl rfl Try.underlying25) (by (repeat' (first | exact all_nil | refine all_cons (by repeat (first | exact List.Mem.head _ | refine List.Mem.tail _ ?_)) ?_))) ?_
                    refine DL_take 21 rfl (by kernel_rfl) rfl rfl rfl (Sil.indexOwn x1.length rfl rfl rfl Try.underlying25 rfl rfl (by omega)) (by (repeat' (first | exact all_nil | refine all_cons (by repeat (first | exact List.Mem.head _ | refine List.Mem.tail _ ?_)) ?_))) ?_
                    refine DL_take 22 rfl (by kernel_rfl) rfl rfl rfl (Sil.fieldLoc 1 rfl rfl Try.underlying43 rfl rfl) (by (repeat' (first | exact all_nil | refine all_cons (by repeat (first | exact List.Mem.head _ | refine List.Mem.tail _ ?_)) ?_))) ?_
                    refine DL_take 23 rfl (by kernel_rfl) rfl rfl rfl (Sil.sqLoad 1 rfl rfl rfl Try.underlying3 rfl (rvsC_at hu9 1 _ rfl)) (by (repeat' (first | exact all_nil | refine all_cons (by repeat (first | exact List.Mem.head _ | refine List.Mem.tail _ ?_)) ?_))) ?_
                    refine DL_take 24 rfl (by kernel_rfl) rfl rfl rfl (Sil.eql rfl rfl rfl) (by (repeat' (first | exact all_nil | refine all_cons (by repeat (first | exact List.Mem.head _ | refine List.Mem.tail _ ?_)) ?_))) ?_
                    refine DL_take 25 rfl (by kernel_rfl) rfl rfl rfl (Sil.pick1 rfl rfl rfl) (by (repeat' (first | exact all_nil | refine all_cons (by repeat (first | exact List.Mem.head _ | refine List.Mem.tail _ ?_)) ?_))) ?_
                    refine DL_take 26 rfl (by kernel_rfl) rfl rfl rfl (Sil.move rfl rfl) (by (repeat' (first | exact all_nil | refine all_cons (by repeat (first | exact List.Mem.head _ | refine List.Mem.tail _ ?_)) ?_))) ?_
                    refine DL_dec 96 rfl (fun ht96 => ?_) (fun ht96 => ?_)
                    · refine DL_take 27 rfl (by kernel_rfl) rfl rfl rfl (Sil.move rfl rfl) (by (repeat' (first | exact all_nil | refine all_cons (by repeat (first | exact List.Mem.head _ | refine List.Mem.tail _ ?_)) ?_))) ?_
                      refine DL_take 28 rfl (by kernel_rfl) rfl rfl rfl (Sil.move rfl rfl) (by (repeat' (first | exact all_nil | refine all_cons (by repeat (first | exact List.Mem.head _ | refine List.Mem.tail _ ?_)) ?_))) ?_
                      refine DL_take 29 rfl (by kernel_rfl) rfl rfl rfl (Sil.lenSl rfl rfl Try.underlying25) (by (repeat' (first | exact all_nil | refine all_cons (by repeat (first | exact List.Mem.head _ | refine List.Mem.tail _ ?_)) ?_))) ?_
                      refine DL_take 30 rfl (by kernel_rfl) rfl rfl rfl (Sil.indexOwn x1.length rfl rfl rfl Try.underlying25 rfl rfl (by omega)) (by (repeat' (first | exact all_nil | refine all_cons (by repeat (first | exact List.Mem.head _ | refine List.Mem.tail _ ?_)) ?_))) ?_
                      refine DL_take 31 rfl (by kernel_rfl) rfl rfl rfl (Sil.fieldLoc 2 rfl rfl Try.underlying43 rfl rfl) (by (repeat' (first | exact all_nil | refine all_cons (by repeat (first | exact List.Mem.head _ | refine List.Mem.tail _ ?_)) ?_))) ?_
                      refine DL_take 32 rfl (by kernel_rfl) rfl rfl rfl (Sil.sqLoad 1 rfl rfl rfl Try.underlying41 rfl (rvsC_at hu9 2 _ rfl)) (by (repeat' (first | exact all_nil | refine all_cons (by repeat (first | exact List.Mem.head _ | refine List.Mem.tail _ ?_)) ?_))) ?_
                      refine DL_take 33 rfl (by kernel_rfl) rfl rfl rfl (Sil.fieldLoc 2 rfl rfl Try.underlying58 rfl rfl) (by (repeat' (first | exact all_nil | refine all_cons (by repeat (first | exact List.Mem.head _ | refine List.Mem.tail _ ?_)) ?_))) ?_
                      refine DL_take 34 rfl (by kernel_rfl) rfl rfl rfl (by exact Sil.ownV rfl rfl (by first | exact at0 | exact at1 | exact at2 | exact at3 | exact at4 | exact at5 | exact at6 | exact at7 | exact at8 | exact at9 | exact at10 | exact at11 | exact at12 | exact at13 | exact at14 | exact at15) Try.underlying41 rfl (by rfl)) (by (repeat' (first | exact all_nil | refine all_cons (by repeat (first | exact List.Mem.head _ | refine List.Mem.tail _ ?_)) ?_))) ?_
                      refine DL_one 35 (by kernel_rfl) ?_
                      refine DS_loud rfl rfl rfl rfl (LO.pure rfl ent30 rfl (fun w hw => Same_true e.ops e.ops a9 ae c9 ce w (OpsV.at (hlu.ops (hw.mine _ (List.mem_of_getElem? (i := 6) rfl)))) (hue.keep hw.keep) rfl)) ?_
                      rintro _ _ ⟨rfl, rfl⟩
                      refine ⟨.inr (by (repeat' (first | exact all_nil | refine all_cons (by repeat (first | exact List.Mem.head _ | refine List.Mem.tail _ ?_)) ?_))), ?_⟩
                      refine DL_take 36 rfl (by kernel_rfl) rfl rfl rfl (Sil.pick1 rfl rfl rfl) (by (repeat' (first | exact all_nil | refine all_cons (by repeat (first | exact List.Mem.head _ | refine List.Mem.tail _ ?_)) ?_))) ?_
                      refine DL_take 37 rfl (by kernel_rfl) rfl rfl rfl (Sil.assign rfl rfl) (by (repeat' (first | exact all_nil | refine all_cons (by repeat (first | exact List.Mem.head _ | refine List.Mem.tail _ ?_)) ?_))) ?_
                      refine DL_done (by kernel_rfl) ?_
                      refine TC_ret ?_
                      exact ret1 rfl rfl ⟨rfl, rfl⟩
                    · exact absurd rfl ht96
                  · exact absurd rfl ht87
                · omega
              · exact absurd hp ht69
          · refine DS_loud rfl rfl rfl rfl (LO.buildSlice1 rfl rfl Try.underlying22 rfl rfl rfl) ?_
            rintro _ _ ⟨tb, rfl, rfl⟩
            refine ⟨.inr (by (repeat' (first | exact all_nil | refine all_cons (by repeat (first | exact List.Mem.head _ | refine List.Mem.tail _ ?_)) ?_))), ?_⟩
            refine DL_one 1 (by kernel_rfl) ?_
            refine DS_loud rfl rfl rfl rfl (LO.calls rfl ent26 rfl (fun w hw => Copy_gives es a cap w (hx.keep hw.keep) (by omega) (fun e he => by have := hb2 e he; omega))) ?_
            rintro _ _ ⟨_, ⟨am, cm, xm, rm, rfl, hxm, rfl, hlm⟩, rfl⟩
            refine ⟨.inr (by (repeat' (first | exact all_nil | refine all_cons (by repeat (first | exact List.Mem.head _ | refine List.Mem.tail _ ?_)) ?_))), ?_⟩
            have hml : xm.length = es.length := by rw [← hxm]; simp
            refine DL_one 4 (by kernel_rfl) ?_
            refine DS_loud rfl rfl rfl rfl (LO.append 4 (rcC e (.slice ae e.ops.length ce)) rfl rfl rfl rfl elEv rfl (fun w hw => hw.cells (i := 3) rfl) (by simp [rcC, oneC]) (by unfold maxLen; omega) (by omega)) ?_
            rintro _ _ ⟨ao1, cap3, rfl, rfl⟩
            refine ⟨.inr (by (repeat' (first | exact all_nil | refine all_cons (by repeat (first | exact List.Mem.head _ | refine List.Mem.tail _ ?_)) ?_))), ?_⟩
            refine DL_take 5 rfl (by kernel_rfl) rfl rfl rfl (Sil.assign rfl rfl) (by (repeat' (first | exact all_nil | refine all_cons (by repeat (first | exact List.Mem.head _ | refine List.Mem.tail _ ?_)) ?_))) ?_
            refine DL_done (by kernel_rfl) ?_
            refine TC_own (h' := [blk b3 (.cells (rcC e (.slice ae e.ops.length ce)).toArray 58 (0, 0)), sq a1 x1.length c1 43 3 (rvsC x1), bagR r1, sq ao1 (xm.length + 1) cap3 58 3 (rvsC xm ++ rcC e (.slice ae e.ops.length ce)), bagR rm]) (fun w hw => hw.drop (List.Sublist.cons_cons _ (List.Sublist.cons_cons _ (List.Sublist.cons_cons _ (List.Sublist.cons _ (List.Sublist.refl _)))))) ?_
            refine TC_slot 8 (v := .slice ao1 (es ++ [e]).length cap3) rfl (by rw [List.length_append, hml]; rfl) ?_
            refine TC_seq ?_
            refine TC_region ?_
            refine OL_sil rfl rfl rfl (Sil.move rfl rfl) ?_
            refine OL_loud rfl rfl rfl (LO.calls rfl ent27 rfl (fun w hw => (histOf_gives (es ++ [e]) ao1 cap3 w (snoc_at9 (hw.mine _ (List.mem_of_getElem? (i := 3) rfl)) (hw.mine _ (List.mem_of_getElem? (i := 4) rfl)) hxm hlm ⟨ae, ce, rfl, hue.keep hw.keep⟩)).mono (fun v h hR => hR.ok h9))) ?_
            rintro _ _ ⟨_, ⟨a2, c2, x2, r2, rfl, hx2, rfl, hl2⟩, rfl⟩
            refine OL_sil rfl rfl rfl (Sil.move rfl rfl) ?_
            refine OL_sil rfl rfl rfl (Sil.extract rfl rfl rfl) ?_
            refine OL_sil rfl rfl rfl (Sil.extract rfl rfl rfl) ?_
            refine OL_sil rfl rfl rfl (Sil.extract rfl rfl rfl) ?_
            refine OL_sil rfl rfl rfl (Sil.assign rfl rfl) ?_
            refine OL_sil rfl rfl rfl (Sil.assign rfl rfl) ?_
            refine OL_sil rfl rfl rfl (Sil.assign rfl rfl) ?_
            refine OL_nil ?_
            rw [htx, List.map_append] at hx2
            have hn1 : x1.length = (txsM es es.length).length := by have := congrArg List.length hx1; simpa using this
            have hn2 : x2.length = x1.length + 1 := by have := congrArg List.length hx2; simp at this; omega
            obtain ⟨u9, hu9⟩ := at_map hx2 (k := x1.length) (r := ⟨e.q, 0, e.ops⟩) (by rw [List.getElem?_append_right (by simp [hn1])]; simp [hn1])
            have hlu := hl2 _ (List.mem_of_getElem? hu9)
            obtain ⟨a9, c9, hf9⟩ := Lies.form hlu
            have hf9 : u9 = .slice a9 e.ops.length c9 := hf9
            subst hf9
            refine TC_know (fun w hw => hw.sqSome (i := 5) rfl (by omega)) (fun hsome => ?_)
            obtain ⟨g5, rfl⟩ := hsome
            refine TC_seq ?_
            refine TC_seq ?_
            refine TC_region ?_
            refine OL_sil rfl rfl rfl (Sil.move rfl rfl) ?_
            refine OL_sil rfl rfl rfl (Sil.neq rfl rfl rfl) ?_
            refine OL_nil ?_
            refine TC_ifn rfl (fun ht49 => ?_) (fun ht49 => ?_)
            · exact absurd rfl ht49
            · refine TC_skip ?_
              refine TC_seq ?_
              refine TC_seq ?_
              refine TC_region ?_
              refine OL_sil rfl rfl rfl (Sil.fieldLoc 0 rfl rfl Try.underlying58 rfl rfl) ?_
              refine OL_sil rfl rfl rfl (by exact Sil.ownV rfl rfl (by first | exact at0 | exact at1 | exact at2 | exact at3 | exact at4 | exact at5 | exact at6 | exact at7 | exact at8 | exact at9 | exact at10 | exact at11 | exact at12 | exact at13 | exact at14 | exact at15) Try.underlying3 rfl (by rfl)) ?_
              refine OL_sil rfl rfl rfl (Sil.eql rfl rfl rfl) ?_
              refine OL_nil ?_
              refine TC_if rfl (fun ht69 => ?_) (fun ht69 => ?_)
              · refine TC_seq ?_
                refine TC_drawS [blk b3 (.cells (rcC e (.slice ae e.ops.length ce)).toArray 58 (0, 0)), sq (some ⟨g5, 0, none⟩) x2.length c2 43 3 (rvsC x2)] (by (repeat' (first | exact all_nil | refine all_cons (by repeat (first | exact List.Mem.head _ | refine List.Mem.tail _ ?_)) ?_))) rfl (fun j => false) ?_
                intro hs0
                refine DL_take 0 rfl (by kernel_rfl) rfl rfl rfl (Sil.move rfl rfl) (by (repeat' (first | exact all_nil | refine all_cons (by repeat (first | exact List.Mem.head _ | refine List.Mem.tail _ ?_)) ?_))) ?_
                refine DL_take 1 rfl (by kernel_rfl) rfl rfl rfl (Sil.lenSl rfl rfl Try.underlying25) (by (repeat' (first | exact all_nil | refine all_cons (by repeat (first | exact List.Mem.head _ | refine List.Mem.tail _ ?_)) ?_))) ?_
                refine DL_take 2 rfl (by kernel_rfl) rfl rfl rfl (Sil.move rfl rfl) (by (repeat' (first | exact all_nil | refine all_cons (by repeat (first | exact List.Mem.head _ | refine List.Mem.tail _ ?_)) ?_))) ?_
                refine DL_take 3 rfl (by kernel_rfl) rfl rfl rfl (Sil.lenSl rfl rfl Try.underlying25) (by (repeat' (first | exact all_nil | refine all_cons (by repeat (first | exact List.Mem.head _ | refine List.Mem.tail _ ?_)) ?_))) ?_
                refine DL_take 4 rfl (by kernel_rfl) rfl rfl rfl (Sil.add rfl rfl rfl (by omega) (by omega)) (by (repeat' (first | exact all_nil | refine all_cons (by repeat (first | exact List.Mem.head _ | refine List.Mem.tail _ ?_)) ?_))) ?_
                refine DL_take 5 rfl (by kernel_rfl) rfl rfl rfl (Sil.eql rfl rfl rfl) (by (repeat' (first | exact all_nil | refine all_cons (by repeat (first | exact List.Mem.head _ | refine List.Mem.tail _ ?_)) ?_))) ?_
                refine DL_take 6 rfl (by kernel_rfl) rfl rfl rfl (Sil.move rfl rfl) (by (repeat' (first | exact all_nil | refine all_cons (by repeat (first | exact List.Mem.head _ | refine List.Mem.tail _ ?_)) ?_))) ?_
                refine DL_dec 76 rfl (fun ht76 => ?_) (fun ht76 => ?_)
                · refine DL_take 7 rfl (by kernel_rfl) rfl rfl rfl (Sil.move rfl rfl) (by (repeat' (first | exact all_nil | refine all_cons (by repeat (first | exact List.Mem.head _ | refine List.Mem.tail _ ?_)) ?_))) ?_
                  refine DL_take 8 rfl (by kernel_rfl) rfl rfl rfl (Sil.move rfl rfl) (by (repeat' (first | exact all_nil | refine all_cons (by repeat (first | exact List.Mem.head _ | refine List.Mem.tail _ ?_)) ?_))) ?_
                  refine DL_take 9 rfl (by kernel_rfl) rfl rfl rfl (Sil.lenSl rfl rfl Try.underlying25) (by (repeat' (first | exact all_nil | refine all_cons (by repeat (first | exact List.Mem.head _ | refine List.Mem.tail _ ?_)) ?_))) ?_
                  refine DL_take 10 rfl (by kernel_rfl) rfl rfl rfl (Sil.indexOwn x1.length rfl rfl rfl Try.underlying25 rfl rfl (by omega)) (by (repeat' (first | exact all_nil | refine all_cons (by repeat (first | exact List.Mem.head _ | refine List.Mem.tail _ ?_)) ?_))) ?_
                  refine DL_take 11 rfl (by kernel_rfl) rfl rfl rfl (Sil.fieldLoc 0 rfl rfl Try.underlying43 rfl rfl) (by (repeat' (first | exact all_nil | refine all_cons (by repeat (first | exact List.Mem.head _ | refine List.Mem.tail _ ?_)) ?_))) ?_
                  refine DL_take 12 rfl (by kernel_rfl) rfl rfl rfl (Sil.sqLoad 1 rfl rfl rfl Try.underlying3 rfl (rvsC_at hu9 0 _ rfl)) (by (repeat' (first | exact all_nil | refine all_cons (by repeat (first | exact List.Mem.head _ | refine List.Mem.tail _ ?_)) ?_))) ?_
                  refine DL_take 13 rfl (by kernel_rfl) rfl rfl rfl (Sil.fieldLoc 1 rfl rfl Try.underlying58 rfl rfl) (by (repeat' (first | exact all_nil | refine all_cons (by repeat (first | exact List.Mem.head _ | refine List.Mem.tail _ ?_)) ?_))) ?_
                  refine DL_take 14 rfl (by kernel_rfl) rfl rfl rfl (by exact Sil.ownV rfl rfl (by first | exact at0 | exact at1 | exact at2 | exact at3 | exact at4 | exact at5 | exact at6 | exact at7 | exact at8 | exact at9 | exact at10 | exact at11 | exact at12 | exact at13 | exact at14 | exact at15) Try.underlying3 rfl (by rfl)) (by (repeat' (first | exact all_nil | refine all_cons (by repeat (first | exact List.Mem.head _ | refine List.Mem.tail _ ?_)) ?_))) ?_
                  refine DL_take 15 rfl (by kernel_rfl) rfl rfl rfl (Sil.eql rfl rfl rfl) (by (repeat' (first | exact all_nil | refine all_cons (by repeat (first | exact List.Mem.head _ | refine List.Mem.tail _ ?_)) ?_))) ?_
                  refine DL_take 16 rfl (by kernel_rfl) rfl rfl rfl (Sil.pick1 rfl rfl rfl) (by (repeat' (first | exact all_nil | refine all_cons (by repeat (first | exact List.Mem.head _ | refine List.Mem.tail _ ?_)) ?_))) ?_
                  refine DL_take 17 rfl (by kernel_rfl) rfl rfl rfl (Sil.move rfl rfl) (by (repeat' (first | exact all_nil | refine all_cons (by repeat (first | exact List.Mem.head _ | refine List.Mem.tail _ ?_)) ?_))) ?_
                  refine DL_dec 87 rfl (fun ht87 => ?_) (fun ht87 => ?_)
                  · refine DL_take 18 rfl (by kernel_rfl) rfl rfl rfl (Sil.move rfl rfl) (by (repeat' (first | exact all_nil | refine all_cons (by repeat (first | exact List.Mem.head _ | refine List.Mem.tail _ ?_)) ?_))) ?_
                    refine DL_take 19 rfl (by kernel_rfl) rfl rfl rfl (Sil.move rfl rfl) (by (repeat' (first | exact all_nil | refine all_cons (by repeat (first | exact List.Mem.head _ | refine List.Mem.tail _ ?_)) ?_))) ?_
                    refine DL_take 20 rfl (by kernel_rfl) rfl rfl rfl (Sil.lenSl rfl rfl Try.underlying25) (by (repeat' (first | exact all_nil | refine all_cons (by repeat (first | exact List.Mem.head _ | refine List.Mem.tail _ ?_)) ?_))) ?_
                    refine DL_take 21 rfl (by kernel_rfl) rfl rfl rfl (Sil.indexOwn x1.length rfl rfl rfl Try.underlying25 rfl rfl (by omega)) (by (repeat' (first | exact all_nil | refine all_cons (by repeat (first | exact List.Mem.head _ | refine List.Mem.tail _ ?_)) ?_))) ?_
                    refine DL_take 22 rfl (by kernel_rfl) rfl rfl rfl (Sil.fieldLoc 1 rfl rfl Try.underlying43 rfl rfl) (by (repeat' (first | exact all_nil | refine all_cons (by repeat (first | exact List.Mem.head _ | refine List.Mem.tail _ ?_)) ?_))) ?_
                    refine DL_take 23 rfl (by kernel_rfl) rfl rfl rfl (Sil.sqLoad 1 rfl rfl rfl Try.underlying3 rfl (rvsC_at hu9 1 _ rfl)) (by (repeat' (first | exact all_nil | refine all_cons (by repeat (first | exact List.Mem.head _ | refine List.Mem.tail _ ?_)) ?_))) ?_
                    refine DL_take 24 rfl (by kernel_rfl) rfl rfl rfl (Sil.eql rfl rfl rfl) (by (repeat' (first | exact all_nil | refine all_cons (by repeat (first | exact List.Mem.head _ | refine List.Mem.tail _ ?_)) ?_))) ?_
                    refine DL_take 25 rfl (by kernel_rfl) rfl rfl rfl (Sil.pick1 rfl rfl rfl) (by (repeat' (first | exact all_nil | refine all_cons (by repeat (first | exact List.Mem.head _ | refine List.Mem.tail _ ?_)) ?_))) ?_
                    refine DL_take 26 rfl (by kernel_rfl) rfl rfl rfl (Sil.move rfl rfl) (by (repeat' (first | exact all_nil | refine all_cons (by repeat (first | exact List.Mem.head _ | refine List.Mem.tail _ ?_)) ?_))) ?_
                    refine DL_dec 96 rfl (fun ht96 => ?_) (fun ht96 => ?_)
                    · refine DL_take 27 rfl (by kernel_rfl) rfl rfl rfl (Sil.move rfl rfl) (by (repeat' (first | exact all_nil | refine all_cons (by repeat (first | exact List.Mem.head _ | refine List.Mem.tail _ ?_)) ?_))) ?_
                      refine DL_take 28 rfl (by kernel_rfl) rfl rfl rfl (Sil.move rfl rfl) (by (repeat' (first | exact all_nil | refine all_cons (by repeat (first | exact List.Mem.head _ | refine List.Mem.tail _ ?_)) ?_))) ?_
                      refine DL_take 29 rfl (by kernel_rfl) rfl rfl rfl (Sil.lenSl rfl rfl Try.underlying25) (by (repeat' (first | exact all_nil | refine all_cons (by repeat (first | exact List.Mem.head _ | refine List.Mem.tail _ ?_)) ?_))) ?_
                      refine DL_take 30 rfl (by kernel_rfl) rfl rfl rfl (Sil.indexOwn x1.length rfl rfl rfl Try.underlying25 rfl rfl (by omega)) (by (repeat' (first | exact all_nil | refine all_cons (by repeat (first | exact List.Mem.head _ | refine List.Mem.tail _ ?_)) ?_))) ?_
                      refine DL_take 31 rfl (by kernel_rfl) rfl rfl rfl (Sil.fieldLoc 2 rfl rfl Try.underlying43 rfl rfl) (by (repeat' (first | exact all_nil | refine all_cons (by repeat (first | exact List.Mem.head _ | refine List.Mem.tail _ ?_)) ?_))) ?_
                      refine DL_take 32 rfl (by kernel_rfl) rfl rfl rfl (Sil.sqLoad 1 rfl rfl rfl Try.underlying41 rfl (rvsC_at hu9 2 _ rfl)) (by (repeat' (first | exact all_nil | refine all_cons (by repeat (first | exact List.Mem.head _ | refine List.Mem.tail _ ?_)) ?_))) ?_
                      refine DL_take 33 rfl (by kernel_rfl) rfl rfl rfl (Sil.fieldLoc 2 rfl rfl Try.underlying58 rfl rfl) (by (repeat' (first | exact all_nil | refine all_cons (by repeat (first | exact List.Mem.head _ | refine List.Mem.tail _ ?_)) ?_))) ?_
                      refine DL_take 34 rfl (by kernel_rfl) rfl rfl rfl (by exact Sil.ownV rfl rfl (by first | exact at0 | exact at1 | exact at2 | exact at3 | exact at4 | exact at5 | exact at6 | exact at7 | exact at8 | exact at9 | exact at10 | exact at11 | exact at12 | exact at13 | exact at14 | exact at15) Try.underlying41 rfl (by rfl)) (by (repeat' (first | exact all_nil | refine all_cons (by repeat (first | exact List.Mem.head _ | refine List.Mem.tail _ ?_)) ?_))) ?_
                      refine DL_one 35 (by kernel_rfl) ?_
                      refine DS_loud rfl rfl rfl rfl (LO.pure rfl ent30 rfl (fun w hw => Same_true e.ops e.ops a9 ae c9 ce w (OpsV.at (hlu.ops (hw.mine _ (List.mem_of_getElem? (i := 6) rfl)))) (hue.keep hw.keep) rfl)) ?_
                      rintro _ _ ⟨rfl, rfl⟩
                      refine ⟨.inr (by (repeat' (first | exact all_nil | refine all_cons (by repeat (first | exact List.Mem.head _ | refine List.Mem.tail _ ?_)) ?_))), ?_⟩
                      refine DL_take 36 rfl (by kernel_rfl) rfl rfl rfl (Sil.pick1 rfl rfl rfl) (by (repeat' (first | exact all_nil | refine all_cons (by repeat (first | exact List.Mem.head _ | refine List.Mem.tail _ ?_)) ?_))) ?_
                      refine DL_take 37 rfl (by kernel_rfl) rfl rfl rfl (Sil.assign rfl rfl) (by (repeat' (first | exact all_nil | refine all_cons (by repeat (first | exact List.Mem.head _ | refine List.Mem.tail _ ?_)) ?_))) ?_
                      refine DL_done (by kernel_rfl) ?_
                      refine TC_ret ?_
                      exact ret1 rfl rfl ⟨rfl, rfl⟩
                    · exact absurd rfl ht96
                  · exact absurd rfl ht87
                · omega
              · exact absurd hp ht69
/-- The places ahead of i at which the state is another one. -/
def difN (x2 x1 : List RcD) : Nat → Nat
  | 0 => 0
  | i + 1 => difN x2 x1 i + (if (x2[i]?).map RcD.q = (x1[i]?).map RcD.q then 0 else 1)
theorem difN_set {ts : List (RcD × Nat)} {m : Nat} {t t' : RcD × Nat} (ht : ts[m]? = some t) : ∀ i, difN ((ts.set m t').map (·.1)) (ts.map (·.1)) i = if m < i ∧ t'.1.q ≠ t.1.q then 1 else 0
  | 0 => by rw [if_neg (by omega)]; rfl
  | i + 1 => by
    rw [difN, difN_set ht i]
    by_cases e : m = i
    · subst e
      simp only [List.getElem?_map, List.getElem?_set_self (ltOf ht), ht, Option.map_some, Option.some.injEq]
      by_cases h : t'.1.q = t.1.q
      · simp [h]
      · simp [h]
    · simp only [List.getElem?_map, List.getElem?_set_ne e]
      rw [if_pos trivial, Nat.add_zero]
      by_cases h : t'.1.q = t.1.q
      · simp [h]
      · by_cases h2 : m < i
        · rw [if_pos ⟨h2, h⟩, if_pos ⟨by omega, h⟩]
        · rw [if_neg (fun hh => h2 hh.1), if_neg (fun hh => h2 (by omega))]
theorem HistOne_end (es : List RcD) (a : Option Addr) (cap : Nat) (e : RcD) (u : Value) (w0 : World) (hx : RcsAt w0 a es) (hu : OpsV w0 u e.ops) (h0 : errC es = 0) (h9 : errC (es ++ [e]) = 0) (hp : ¬ e.p = 1) :
    Gives Try.prog 11 [.slice a es.length cap, .agg (rcC e u).toArray] w0 [] fun v h => v = .bool true ∧ h = [] := by
  obtain ⟨ae, ce, rfl, hue⟩ := hu
  obtain ⟨hel, herr⟩ := errC_zero h0
  obtain ⟨m, t, t', ht, htx, ht4, htn4, hp1, hp4⟩ := (snoc_txs e h9).2 hp
  have htl := txs_len es es.length
  have hml9 := ltOf ht
  have hdif := difN_set (t' := t') ht
  rw [← htx] at hdif
  refine gives_of Try.func11 rfl rfl rfl (Own.start w0) ?_
  refine TC_seq ?_
  refine TC_region ?_
  refine OL_loud rfl rfl rfl (LO.box rfl rfl) ?_
  rintro _ _ ⟨b3, _, rfl, rfl⟩
  refine OL_sil rfl rfl rfl (Sil.assign rfl rfl) ?_
  refine OL_nil ?_
  refine TC_seq ?_
  refine TC_seq ?_
  refine TC_region ?_
  refine OL_pure rfl rfl rfl (LO.pure rfl ent24 rfl (fun w _ => head5_gives w)) ?_
  refine OL_sil rfl rfl rfl (Sil.not rfl rfl) ?_
  refine OL_nil ?_
  refine TC_no rfl ?_
  refine TC_skip ?_
  refine TC_seq ?_
  refine TC_seq ?_
  refine TC_region ?_
  refine OL_sil rfl rfl rfl (Sil.move rfl rfl) ?_
  refine OL_loud rfl rfl rfl (LO.calls rfl ent25 rfl (fun w hw => big5_gives es a cap w (hx.keep hw.keep))) ?_
  rintro _ _ ⟨_, ⟨bb, rfl, hbig, rfl⟩, rfl⟩
  refine OL_sil rfl rfl rfl (Sil.move rfl rfl) ?_
  refine OL_cases 18 rfl (fun ht18 => ?_) (fun ht18 => ?_)
  · refine OL_skip rfl rfl rfl ?_
    refine OL_skip rfl rfl rfl ?_
    refine OL_skip rfl rfl rfl ?_
    refine OL_skip rfl rfl rfl ?_
    refine OL_sil rfl rfl rfl (Sil.pick1 rfl rfl rfl) ?_
    refine OL_sil rfl rfl rfl (Sil.move rfl rfl) ?_
    refine OL_skip rfl rfl rfl ?_
    refine OL_skip rfl rfl rfl ?_
    refine OL_skip rfl rfl rfl ?_
    refine OL_sil rfl rfl rfl (Sil.pick1 rfl rfl rfl) ?_
    refine OL_nil ?_
    refine TC_yes rfl ?_
    refine TC_seq ?_
    refine TC_region ?_
    refine OL_sil rfl rfl rfl (Sil.assign rfl rfl) ?_
    refine OL_nil ?_
    refine TC_ret ?_
    exact ret1 rfl rfl ⟨rfl, rfl⟩
  · obtain ⟨hb1, hb2⟩ := hbig ht18
    refine OL_sil rfl rfl rfl (Sil.fieldLoc 2 rfl rfl Try.underlying58 rfl rfl) ?_
    refine OL_sil rfl rfl rfl (by exact Sil.ownV rfl rfl (by first | exact at0 | exact at1 | exact at2 | exact at3 | exact at4 | exact at5 | exact at6 | exact at7 | exact at8 | exact at9 | exact at10 | exact at11 | exact at12 | exact at13 | exact at14 | exact at15) Try.underlying41 rfl (by rfl)) ?_
    refine OL_sil rfl rfl rfl (Sil.lenSl rfl rfl Try.underlying41) ?_
    refine OL_sil rfl rfl rfl (Sil.gtr rfl rfl rfl) ?_
    refine OL_sil rfl rfl rfl (Sil.pick0 rfl rfl rfl) ?_
    refine OL_sil rfl rfl rfl (Sil.move rfl rfl) ?_
    refine OL_dec 24 rfl (fun ht24 => ?_) (fun ht24 => ?_)
    · refine OL_skip rfl rfl rfl ?_
      refine OL_skip rfl rfl rfl ?_
      refine OL_skip rfl rfl rfl ?_
      refine OL_sil rfl rfl rfl (Sil.pick1 rfl rfl rfl) ?_
      refine OL_nil ?_
      refine TC_yes rfl ?_
      refine TC_seq ?_
      refine TC_region ?_
      refine OL_sil rfl rfl rfl (Sil.assign rfl rfl) ?_
      refine OL_nil ?_
      refine TC_ret ?_
      exact ret1 rfl rfl ⟨rfl, rfl⟩
    · refine OL_sil rfl rfl rfl (Sil.move rfl rfl) ?_
      refine OL_sil rfl rfl rfl (Sil.lenSl rfl rfl Try.underlying22) ?_
      refine OL_sil rfl rfl rfl (Sil.gtr rfl rfl rfl) ?_
      refine OL_sil rfl rfl rfl (Sil.pick0 rfl rfl rfl) ?_
      refine OL_nil ?_
      refine TC_if rfl (fun ht28 => ?_) (fun ht28 => ?_)
      · refine TC_seq ?_
        refine TC_region ?_
        refine OL_sil rfl rfl rfl (Sil.assign rfl rfl) ?_
        refine OL_nil ?_
        refine TC_ret ?_
        exact ret1 rfl rfl ⟨rfl, rfl⟩
      · refine TC_skip ?_
        refine TC_seq ?_
        refine TC_region ?_
        refine OL_sil rfl rfl rfl (Sil.move rfl rfl) ?_
        refine OL_loud rfl rfl rfl (LO.calls rfl ent27 rfl (fun w hw => (histOf_gives es a cap w (hx.keep hw.keep)).mono (fun v h hR => hR.ok h0))) ?_
        rintro _ _ ⟨_, ⟨a1, c1, x1, r1, rfl, hx1, rfl, hl1⟩, rfl⟩
        refine OL_sil rfl rfl rfl (Sil.move rfl rfl) ?_
        refine OL_sil rfl rfl rfl (Sil.extract rfl rfl rfl) ?_
        refine OL_sil rfl rfl rfl (Sil.extract rfl rfl rfl) ?_
        refine OL_sil rfl rfl rfl (Sil.extract rfl rfl rfl) ?_
        refine OL_sil rfl rfl rfl (Sil.assign rfl rfl) ?_
        refine OL_sil rfl rfl rfl (Sil.assign rfl rfl) ?_
        refine OL_sil rfl rfl rfl (Sil.assign rfl rfl) ?_
        refine OL_nil ?_
        refine TC_seq ?_
        refine TC_seq ?_
        refine TC_region ?_
        refine OL_sil rfl rfl rfl (Sil.move rfl rfl) ?_
        refine OL_sil rfl rfl rfl (Sil.neq rfl rfl rfl) ?_
        refine OL_nil ?_
        refine TC_ifn rfl (fun ht36 => ?_) (fun ht36 => ?_)
        · exact absurd rfl ht36
        · refine TC_skip ?_
          refine TC_seq ?_
          refine TC_drawS [blk b3 (.cells (rcC e (.slice ae e.ops.length ce)).toArray 58 (0, 0))] (by (repeat' (first | exact all_nil | refine all_cons (by repeat (first | exact List.Mem.head _ | refine List.Mem.tail _ ?_)) ?_))) rfl (fun j => false) ?_
          intro hs0
          refine DL_take 0 rfl (by kernel_rfl) rfl rfl rfl (Sil.move rfl rfl) (by (repeat' (first | exact all_nil | refine all_cons (by repeat (first | exact List.Mem.head _ | refine List.Mem.tail _ ?_)) ?_))) ?_
          refine DL_take 2 rfl (by kernel_rfl) rfl rfl rfl (by first | exact Sil.ownV rfl rfl (by first | exact at0 | exact at1 | exact at2 | exact at3 | exact at4 | exact at5 | exact at6 | exact at7 | exact at8 | exact at9 | exact at10 | exact at11 | exact at12 | exact at13 | exact at14 | exact at15) Try.underlying58 rfl (by rfl) | exact Sil.wholeV rfl rfl (by first | exact at0 | exact at1 | exact at2 | exact at3 | exact at4 | exact at5 | exact at6 | exact at7 | exact at8 | exact at9 | exact at10 | exact at11 | exact at12 | exact at13 | exact at14 | exact at15) ⟨Try.underlying58, rfl⟩ rfl (by rfl)) (by (repeat' (first | exact all_nil | refine all_cons (by repeat (first | exact List.Mem.head _ | refine List.Mem.tail _ ?_)) ?_))) ?_
          refine DL_all [1, 3] (by kernel_rfl) (by simp) ?_
          simp only [List.forall_mem_cons, List.not_mem_nil, false_implies, implies_true, and_true]
          refine ⟨?_, ?_⟩
          · refine DS_loud rfl rfl rfl rfl (LO.calls rfl ent26 rfl (fun w hw => Copy_gives es a cap w (hx.keep hw.keep) (by omega) (fun e he => by have := hb2 e he; omega))) ?_
            rintro _ _ ⟨_, ⟨am, cm, xm, rm, rfl, hxm, rfl, hlm⟩, rfl⟩
            refine ⟨.inr (by (repeat' (first | exact all_nil | refine all_cons (by repeat (first | exact List.Mem.head _ | refine List.Mem.tail _ ?_)) ?_))), ?_⟩
            have hml : xm.length = es.length := by rw [← hxm]; simp
            refine DL_one 3 (by kernel_rfl) ?_
            refine DS_loud rfl rfl rfl rfl (LO.buildSlice1 rfl rfl Try.underlying22 rfl rfl rfl) ?_
            rintro _ _ ⟨tb, rfl, rfl⟩
            refine ⟨.inr (by (repeat' (first | exact all_nil | refine all_cons (by repeat (first | exact List.Mem.head _ | refine List.Mem.tail _ ?_)) ?_))), ?_⟩
            refine DL_one 4 (by kernel_rfl) ?_
            refine DS_loud rfl rfl rfl rfl (LO.append 3 (rcC e (.slice ae e.ops.length ce)) rfl rfl rfl rfl elEv rfl (fun w hw => hw.cells (i := 5) rfl) (by simp [rcC, oneC]) (by unfold maxLen; omega) (by omega)) ?_
            rintro _ _ ⟨ao1, cap3, rfl, rfl⟩
            refine ⟨.inr (by (repeat' (first | exact all_nil | refine all_cons (by repeat (first | exact List.Mem.head _ | refine List.Mem.tail _ ?_)) ?_))), ?_⟩
            refine DL_take 5 rfl (by kernel_rfl) rfl rfl rfl (Sil.assign rfl rfl) (by (repeat' (first | exact all_nil | refine all_cons (by repeat (first | exact List.Mem.head _ | refine List.Mem.tail _ ?_)) ?_))) ?_
            refine DL_done (by kernel_rfl) ?_
            refine TC_own (h' := [blk b3 (.cells (rcC e (.slice ae e.ops.length ce)).toArray 58 (0, 0)), sq a1 x1.length c1 43 3 (rvsC x1), bagR r1, sq ao1 (xm.length + 1) cap3 58 3 (rvsC xm ++ rcC e (.slice ae e.ops.length ce)), bagR rm]) (fun w hw => hw.drop (List.Sublist.cons_cons _ (List.Sublist.cons_cons _ (List.Sublist.cons_cons _ (List.Sublist.cons_cons _ (List.Sublist.cons_cons _ (List.nil_sublist _))))))) ?_
            refine TC_slot 8 (v := .slice ao1 (es ++ [e]).length cap3) rfl (by rw [List.length_append, hml]; rfl) ?_
            refine TC_seq ?_
            refine TC_region ?_
            refine OL_sil rfl rfl rfl (Sil.move rfl rfl) ?_
            refine OL_loud rfl rfl rfl (LO.calls rfl ent27 rfl (fun w hw => (histOf_gives (es ++ [e]) ao1 cap3 w (snoc_at9 (hw.mine _ (List.mem_of_getElem? (i := 3) rfl)) (hw.mine _ (List.mem_of_getElem? (i := 4) rfl)) hxm hlm ⟨ae, ce, rfl, hue.keep hw.keep⟩)).mono (fun v h hR => hR.ok h9))) ?_
            rintro _ _ ⟨_, ⟨a2, c2, x2, r2, rfl, hx2, rfl, hl2⟩, rfl⟩
            refine OL_sil rfl rfl rfl (Sil.move rfl rfl) ?_
            refine OL_sil rfl rfl rfl (Sil.extract rfl rfl rfl) ?_
            refine OL_sil rfl rfl rfl (Sil.extract rfl rfl rfl) ?_
            refine OL_sil rfl rfl rfl (Sil.extract rfl rfl rfl) ?_
            refine OL_sil rfl rfl rfl (Sil.assign rfl rfl) ?_
            refine OL_sil rfl rfl rfl (Sil.assign rfl rfl) ?_
            refine OL_sil rfl rfl rfl (Sil.assign rfl rfl) ?_
            refine OL_nil ?_
            have hn1 : x1.length = (txsM es es.length).length := by have := congrArg List.length hx1; simpa using this
            have hn2 : x2.length = x1.length := by have := congrArg List.length hx2; rw [htx] at this; simp at this; omega
            refine TC_seq ?_
            refine TC_seq ?_
            refine TC_region ?_
            refine OL_sil rfl rfl rfl (Sil.move rfl rfl) ?_
            refine OL_sil rfl rfl rfl (Sil.neq rfl rfl rfl) ?_
            refine OL_nil ?_
            refine TC_ifn rfl (fun ht49 => ?_) (fun ht49 => ?_)
            · exact absurd rfl ht49
            · refine TC_skip ?_
              refine TC_seq ?_
              refine TC_seq ?_
              refine TC_region ?_
              refine OL_sil rfl rfl rfl (Sil.fieldLoc 0 rfl rfl Try.underlying58 rfl rfl) ?_
              refine OL_sil rfl rfl rfl (by exact Sil.ownV rfl rfl (by first | exact at0 | exact at1 | exact at2 | exact at3 | exact at4 | exact at5 | exact at6 | exact at7 | exact at8 | exact at9 | exact at10 | exact at11 | exact at12 | exact at13 | exact at14 | exact at15) Try.underlying3 rfl (by rfl)) ?_
              refine OL_sil rfl rfl rfl (Sil.eql rfl rfl rfl) ?_
              refine OL_nil ?_
              refine TC_if rfl (fun ht69 => ?_) (fun ht69 => ?_)
              · exact absurd ht69 hp
              · refine TC_skip ?_
                refine TC_seq ?_
                refine TC_region ?_
                refine OL_sil rfl rfl rfl (Sil.assign rfl rfl) ?_
                refine OL_nil ?_
                refine TC_seq ?_
                refine TC_seq ?_
                refine TC_region ?_
                refine OL_sil rfl rfl rfl (Sil.move rfl rfl) ?_
                refine OL_sil rfl rfl rfl (Sil.lenSl rfl rfl Try.underlying25) ?_
                refine OL_sil rfl rfl rfl (Sil.move rfl rfl) ?_
                refine OL_nil ?_
                refine TC_block ?_
                refine TC_loop (fun i : Nat => [(3, .pointer (some ⟨b3, 0, none⟩)), (5, .slice a1 x1.length c1), (9, .slice a2 x2.length c2), (12, .int .i64 (difN (x2.map (·.1)) (x1.map (·.1)) i : Nat)), (108, .int .i64 x2.length), (109, .int .i64 i)]) (fun _ => [blk b3 (.cells (rcC e (.slice ae e.ops.length ce)).toArray 58 (0, 0)), sq a1 x1.length c1 43 3 (rvsC x1), sq a2 x2.length c2 43 3 (rvsC x2)]) (fun i => i ≤ x2.length) (fun i => x2.length - i) 0 ?_ ?_
                · exact ⟨Nat.zero_le _, ⟨rfl, rfl, rfl, rfl, rfl, rfl, trivial⟩, List.Sublist.cons_cons _ (List.Sublist.cons_cons _ (List.Sublist.cons _ (List.Sublist.cons _ (List.Sublist.cons _ (List.Sublist.cons_cons _ (List.nil_sublist _))))))⟩
                · intro i hi
                  refine TC_seq ?_
                  refine TC_region ?_
                  refine OL_sil rfl rfl rfl (Sil.lss rfl rfl rfl) ?_
                  refine OL_nil ?_
                  refine TC_seq ?_
                  refine TC_if rfl (fun ht110 => ?_) (fun ht110 => ?_)
                  · obtain ⟨y1, hy1⟩ : ∃ y, x1[i]? = some y := ⟨_, List.getElem?_eq_getElem (by omega)⟩
                    obtain ⟨y2, hy2⟩ : ∃ y, x2[i]? = some y := ⟨_, List.getElem?_eq_getElem (by omega)⟩
                    have hds : difN (x2.map (·.1)) (x1.map (·.1)) (i + 1) = difN (x2.map (·.1)) (x1.map (·.1)) i + (if y2.1.q = y1.1.q then 0 else 1) := by rw [difN, List.getElem?_map, List.getElem?_map, hy1, hy2]; simp
                    have hdl : difN (x2.map (·.1)) (x1.map (·.1)) i ≤ 1 := by rw [hx1, hx2, hdif]; split <;> omega
                    refine TC_know (fun w hw => hw.sqSome (i := 1) rfl (by omega)) (fun hsome => ?_)
                    obtain ⟨g5, rfl⟩ := hsome
                    refine TC_know (fun w hw => hw.sqSome (i := 2) rfl (by omega)) (fun hsome => ?_)
                    obtain ⟨g6, rfl⟩ := hsome
                    refine TC_skip ?_
                    refine TC_seq ?_
                    refine TC_block ?_
                    refine TC_seq ?_
                    refine TC_region ?_
                    refine OL_sil rfl rfl rfl (Sil.move rfl rfl) ?_
                    refine OL_sil rfl rfl rfl (Sil.assign rfl rfl) ?_
                    refine OL_nil ?_
                    refine TC_seq ?_
                    refine TC_draw rfl (fun j => false) ?_
                    refine DL_take 0 rfl (by kernel_rfl) rfl rfl rfl (Sil.move rfl rfl) (fun _ hr => hr) ?_
                    refine DL_take 1 rfl (by kernel_rfl) rfl rfl rfl (Sil.move rfl rfl) (fun _ hr => hr) ?_
                    refine DL_take 2 rfl (by kernel_rfl) rfl rfl rfl (Sil.indexOwn i rfl rfl rfl Try.underlying25 rfl rfl (by omega)) (fun _ hr => hr) ?_
                    refine DL_take 3 rfl (by kernel_rfl) rfl rfl rfl (Sil.fieldLoc 1 rfl rfl Try.underlying43 rfl rfl) (fun _ hr => hr) ?_
                    refine DL_take 4 rfl (by kernel_rfl) rfl rfl rfl (Sil.sqLoad 2 rfl rfl rfl Try.underlying3 rfl (rvsC_at hy2 1 _ rfl)) (fun _ hr => hr) ?_
                    refine DL_take 5 rfl (by kernel_rfl) rfl rfl rfl (Sil.move rfl rfl) (fun _ hr => hr) ?_
                    refine DL_take 6 rfl (by kernel_rfl) rfl rfl rfl (Sil.move rfl rfl) (fun _ hr => hr) ?_
                    refine DL_take 7 rfl (by kernel_rfl) rfl rfl rfl (Sil.indexOwn i rfl rfl rfl Try.underlying25 rfl rfl (by omega)) (fun _ hr => hr) ?_
                    refine DL_take 8 rfl (by kernel_rfl) rfl rfl rfl (Sil.fieldLoc 1 rfl rfl Try.underlying43 rfl rfl) (fun _ hr => hr) ?_
                    refine DL_take 9 rfl (by kernel_rfl) rfl rfl rfl (Sil.sqLoad 1 rfl rfl rfl Try.underlying3 rfl (rvsC_at hy1 1 _ rfl)) (fun _ hr => hr) ?_
                    refine DL_take 10 rfl (by kernel_rfl) rfl rfl rfl (Sil.neq rfl rfl rfl) (fun _ hr => hr) ?_
                    refine DL_done (by kernel_rfl) ?_
                    refine TC_ifn rfl (fun ht122 => ?_) (fun ht122 => ?_)
                    · refine TC_region ?_
                      refine OL_sil rfl rfl rfl (Sil.move rfl rfl) ?_
                      refine OL_sil rfl rfl rfl (Sil.add rfl rfl rfl (by omega) (by omega)) ?_
                      refine OL_sil rfl rfl rfl (Sil.assign rfl rfl) ?_
                      refine OL_nil ?_
                      refine TC_region ?_
                      refine OL_sil rfl rfl rfl (Sil.add rfl rfl rfl (by omega) (by omega)) ?_
                      refine OL_sil rfl rfl rfl (Sil.move rfl rfl) ?_
                      refine OL_nil ?_
                      rw [if_neg ht122] at hds
                      exact ⟨i + 1, ⟨by omega, ⟨rfl, rfl, rfl, slotI rfl (by omega), rfl, rfl, trivial⟩, List.Sublist.refl _⟩, by omega⟩
                    · refine TC_skip ?_
                      refine TC_region ?_
                      refine OL_sil rfl rfl rfl (Sil.add rfl rfl rfl (by omega) (by omega)) ?_
                      refine OL_sil rfl rfl rfl (Sil.move rfl rfl) ?_
                      refine OL_nil ?_
                      rw [if_pos ht122] at hds
                      exact ⟨i + 1, ⟨by omega, ⟨rfl, rfl, rfl, slotI rfl (by omega), rfl, rfl, trivial⟩, List.Sublist.refl _⟩, by omega⟩
                  · have hdf : difN (x2.map (·.1)) (x1.map (·.1)) i = if e.p = 4 then 0 else 1 := by
                      rw [hx1, hx2, hdif]
                      by_cases h4 : e.p = 4
                      · rw [if_pos h4, ht4 h4, if_neg (fun h => h.2 rfl)]
                      · rw [if_neg h4, if_pos ⟨by omega, htn4 h4⟩]
                    refine TC_exit ?_
                    refine TC_seq ?_
                    refine TC_region ?_
                    refine OL_sil rfl rfl rfl (Sil.move rfl rfl) ?_
                    refine OL_sil rfl rfl rfl (Sil.lenSl rfl rfl Try.underlying25) ?_
                    refine OL_sil rfl rfl rfl (Sil.move rfl rfl) ?_
                    refine OL_sil rfl rfl rfl (Sil.lenSl rfl rfl Try.underlying25) ?_
                    refine OL_sil rfl rfl rfl (Sil.eql rfl rfl rfl) ?_
                    refine OL_sil rfl rfl rfl (Sil.move rfl rfl) ?_
                    refine OL_dec 131 rfl (fun ht131 => ?_) (fun ht131 => ?_)
                    · refine OL_sil rfl rfl rfl (Sil.fieldLoc 0 rfl rfl Try.underlying58 rfl rfl) ?_
                      refine OL_sil rfl rfl rfl (by exact Sil.ownV rfl rfl (by first | exact at0 | exact at1 | exact at2 | exact at3 | exact at4 | exact at5 | exact at6 | exact at7 | exact at8 | exact at9 | exact at10 | exact at11 | exact at12 | exact at13 | exact at14 | exact at15) Try.underlying3 rfl (by rfl)) ?_
                      refine OL_sil rfl rfl rfl (Sil.eql rfl rfl rfl) ?_
                      refine OL_sil rfl rfl rfl (Sil.move rfl rfl) ?_
                      refine OL_dec 135 rfl (fun ht135 => ?_) (fun ht135 => ?_)
                      · rw [if_pos ht135] at hdf
                        refine OL_sil rfl rfl rfl (Sil.move rfl rfl) ?_
                        refine OL_sil rfl rfl rfl (Sil.eql rfl rfl rfl) ?_
                        refine OL_sil rfl rfl rfl (Sil.pick1 rfl rfl rfl) ?_
                        refine OL_sil rfl rfl rfl (Sil.move rfl rfl) ?_
                        refine OL_dec 139 rfl (fun ht139 => ?_) (fun ht139 => ?_)
                        · refine OL_skip rfl rfl rfl ?_
                          refine OL_skip rfl rfl rfl ?_
                          refine OL_skip rfl rfl rfl ?_
                          refine OL_skip rfl rfl rfl ?_
                          refine OL_skip rfl rfl rfl ?_
                          refine OL_skip rfl rfl rfl ?_
                          refine OL_skip rfl rfl rfl ?_
                          refine OL_sil rfl rfl rfl (Sil.pick1 rfl rfl rfl) ?_
                          refine OL_sil rfl rfl rfl (Sil.pick1 rfl rfl rfl) ?_
                          refine OL_sil rfl rfl rfl (Sil.assign rfl rfl) ?_
                          refine OL_nil ?_
                          refine TC_ret ?_
                          first | exact ret1 rfl rfl ⟨rfl, rfl⟩ | exact ret1 rfl rfl ⟨congrArg Value.bool (decide_eq_true (by omega)), rfl⟩
                        · omega
                      · rw [if_neg ht135] at hdf
                        refine OL_skip rfl rfl rfl ?_
                        refine OL_skip rfl rfl rfl ?_
                        refine OL_sil rfl rfl rfl (Sil.pick0 rfl rfl rfl) ?_
                        refine OL_sil rfl rfl rfl (Sil.move rfl rfl) ?_
                        refine OL_sil rfl rfl rfl (Sil.fieldLoc 0 rfl rfl Try.underlying58 rfl rfl) ?_
                        refine OL_sil rfl rfl rfl (by exact Sil.ownV rfl rfl (by first | exact at0 | exact at1 | exact at2 | exact at3 | exact at4 | exact at5 | exact at6 | exact at7 | exact at8 | exact at9 | exact at10 | exact at11 | exact at12 | exact at13 | exact at14 | exact at15) Try.underlying3 rfl (by rfl)) ?_
                        refine OL_sil rfl rfl rfl (Sil.neq rfl rfl rfl) ?_
                        refine OL_sil rfl rfl rfl (Sil.move rfl rfl) ?_
                        refine OL_decn 143 rfl (fun ht143 => ?_) (fun ht143 => ?_)
                        · refine OL_sil rfl rfl rfl (Sil.move rfl rfl) ?_
                          refine OL_sil rfl rfl rfl (Sil.eql rfl rfl rfl) ?_
                          refine OL_sil rfl rfl rfl (Sil.pick1 rfl rfl rfl) ?_
                          refine OL_sil rfl rfl rfl (Sil.pick0 rfl rfl rfl) ?_
                          refine OL_sil rfl rfl rfl (Sil.pick1 rfl rfl rfl) ?_
                          refine OL_sil rfl rfl rfl (Sil.assign rfl rfl) ?_
                          refine OL_nil ?_
                          refine TC_ret ?_
                          first | exact ret1 rfl rfl ⟨rfl, rfl⟩ | exact ret1 rfl rfl ⟨congrArg Value.bool (decide_eq_true (by omega)), rfl⟩
                        · first | exact absurd ht143 ht135 | omega
                    · omega
          · refine DS_loud rfl rfl rfl rfl (LO.buildSlice1 rfl rfl Try.underlying22 rfl rfl rfl) ?_
            rintro _ _ ⟨tb, rfl, rfl⟩
            refine ⟨.inr (by (repeat' (first | exact all_nil | refine all_cons (by repeat (first | exact List.Mem.head _ | refine List.Mem.tail _ ?_)) ?_))), ?_⟩
            refine DL_one 1 (by kernel_rfl) ?_
            refine DS_loud rfl rfl rfl rfl (LO.calls rfl ent26 rfl (fun w hw => Copy_gives es a cap w (hx.keep hw.keep) (by omega) (fun e he => by have := hb2 e he; omega))) ?_
            rintro _ _ ⟨_, ⟨am, cm, xm, rm, rfl, hxm, rfl, hlm⟩, rfl⟩
            refine ⟨.inr (by (repeat' (first | exact all_nil | refine all_cons (by repeat (first | exact List.Mem.head _ | refine List.Mem.tail _ ?_)) ?_))), ?_⟩
            have hml : xm.length = es.length := by rw [← hxm]; simp
            refine DL_one 4 (by kernel_rfl) ?_
            refine DS_loud rfl rfl rfl rfl (LO.append 4 (rcC e (.slice ae e.ops.length ce)) rfl rfl rfl rfl elEv rfl (fun w hw => hw.cells (i := 3) rfl) (by simp [rcC, oneC]) (by unfold maxLen; omega) (by omega)) ?_
            rintro _ _ ⟨ao1, cap3, rfl, rfl⟩
            refine ⟨.inr (by (repeat' (first | exact all_nil | refine all_cons (by repeat (first | exact List.Mem.head _ | refine List.Mem.tail _ ?_)) ?_))), ?_⟩
            refine DL_take 5 rfl (by kernel_rfl) rfl rfl rfl (Sil.assign rfl rfl) (by (repeat' (first | exact all_nil | refine all_cons (by repeat (first | exact List.Mem.head _ | refine List.Mem.tail _ ?_)) ?_))) ?_
            refine DL_done (by kernel_rfl) ?_
            refine TC_own (h' := [blk b3 (.cells (rcC e (.slice ae e.ops.length ce)).toArray 58 (0, 0)), sq a1 x1.length c1 43 3 (rvsC x1), bagR r1, sq ao1 (xm.length + 1) cap3 58 3 (rvsC xm ++ rcC e (.slice ae e.ops.length ce)), bagR rm]) (fun w hw => hw.drop (List.Sublist.cons_cons _ (List.Sublist.cons_cons _ (List.Sublist.cons_cons _ (List.Sublist.cons _ (List.Sublist.refl _)))))) ?_
            refine TC_slot 8 (v := .slice ao1 (es ++ [e]).length cap3) rfl (by rw [List.length_append, hml]; rfl) ?_
            refine TC_seq ?_
            refine TC_region ?_
            refine OL_sil rfl rfl rfl (Sil.move rfl rfl) ?_
            refine OL_loud rfl rfl rfl (LO.calls rfl ent27 rfl (fun w hw => (histOf_gives (es ++ [e]) ao1 cap3 w (snoc_at9 (hw.mine _ (List.mem_of_getElem? (i := 3) rfl)) (hw.mine _ (List.mem_of_getElem? (i := 4) rfl)) hxm hlm ⟨ae, ce, rfl, hue.keep hw.keep⟩)).mono (fun v h hR => hR.ok h9))) ?_
            rintro _ _ ⟨_, ⟨a2, c2, x2, r2, rfl, hx2, rfl, hl2⟩, rfl⟩
            refine OL_sil rfl rfl rfl (Sil.move rfl rfl) ?_
            refine OL_sil rfl rfl rfl (Sil.extract rfl rfl rfl) ?_
            refine OL_sil rfl rfl rfl (Sil.extract rfl rfl rfl) ?_
            refine OL_sil rfl rfl rfl (Sil.extract rfl rfl rfl) ?_
            refine OL_sil rfl rfl rfl (Sil.assign rfl rfl) ?_
            refine OL_sil rfl rfl rfl (Sil.assign rfl rfl) ?_
            refine OL_sil rfl rfl rfl (Sil.assign rfl rfl) ?_
            refine OL_nil ?_
            have hn1 : x1.length = (txsM es es.length).length := by have := congrArg List.length hx1; simpa using this
            have hn2 : x2.length = x1.length := by have := congrArg List.length hx2; rw [htx] at this; simp at this; omega
            refine TC_seq ?_
            refine TC_seq ?_
            refine TC_region ?_
            refine OL_sil rfl rfl rfl (Sil.move rfl rfl) ?_
            refine OL_sil rfl rfl rfl (Sil.neq rfl rfl rfl) ?_
            refine OL_nil ?_
            refine TC_ifn rfl (fun ht49 => ?_) (fun ht49 => ?_)
            · exact absurd rfl ht49
            · refine TC_skip ?_
              refine TC_seq ?_
              refine TC_seq ?_
              refine TC_region ?_
              refine OL_sil rfl rfl rfl (Sil.fieldLoc 0 rfl rfl Try.underlying58 rfl rfl) ?_
              refine OL_sil rfl rfl rfl (by exact Sil.ownV rfl rfl (by first | exact at0 | exact at1 | exact at2 | exact at3 | exact at4 | exact at5 | exact at6 | exact at7 | exact at8 | exact at9 | exact at10 | exact at11 | exact at12 | exact at13 | exact at14 | exact at15) Try.underlying3 rfl (by rfl)) ?_
              refine OL_sil rfl rfl rfl (Sil.eql rfl rfl rfl) ?_
              refine OL_nil ?_
              refine TC_if rfl (fun ht69 => ?_) (fun ht69 => ?_)
              · exact absurd ht69 hp
              · refine TC_skip ?_
                refine TC_seq ?_
                refine TC_region ?_
                refine OL_sil rfl rfl rfl (Sil.assign rfl rfl) ?_
                refine OL_nil ?_
                refine TC_seq ?_
                refine TC_seq ?_
                refine TC_region ?_
                refine OL_sil rfl rfl rfl (Sil.move rfl rfl) ?_
                refine OL_sil rfl rfl rfl (Sil.lenSl rfl rfl Try.underlying25) ?_
                refine OL_sil rfl rfl rfl (Sil.move rfl rfl) ?_
                refine OL_nil ?_
                refine TC_block ?_
                refine TC_loop (fun i : Nat => [(3, .pointer (some ⟨b3, 0, none⟩)), (5, .slice a1 x1.length c1), (9, .slice a2 x2.length c2), (12, .int .i64 (difN (x2.map (·.1)) (x1.map (·.1)) i : Nat)), (108, .int .i64 x2.length), (109, .int .i64 i)]) (fun _ => [blk b3 (.cells (rcC e (.slice ae e.ops.length ce)).toArray 58 (0, 0)), sq a1 x1.length c1 43 3 (rvsC x1), sq a2 x2.length c2 43 3 (rvsC x2)]) (fun i => i ≤ x2.length) (fun i => x2.length - i) 0 ?_ ?_
                · exact ⟨Nat.zero_le _, ⟨rfl, rfl, rfl, rfl, rfl, rfl, trivial⟩, List.Sublist.cons_cons _ (List.Sublist.cons_cons _ (List.Sublist.cons _ (List.Sublist.cons _ (List.Sublist.cons _ (List.Sublist.cons_cons _ (List.nil_sublist _))))))⟩
                · intro i hi
                  refine TC_seq ?_
                  refine TC_region ?_
                  refine OL_sil rfl rfl rfl (Sil.lss rfl rfl rfl) ?_
                  refine OL_nil ?_
                  refine TC_seq ?_
                  refine TC_if rfl (fun ht110 => ?_) (fun ht110 => ?_)
                  · obtain ⟨y1, hy1⟩ : ∃ y, x1[i]? = some y := ⟨_, List.getElem?_eq_getElem (by omega)⟩
                    obtain ⟨y2, hy2⟩ : ∃ y, x2[i]? = some y := ⟨_, List.getElem?_eq_getElem (by omega)⟩
                    have hds : difN (x2.map (·.1)) (x1.map (·.1)) (i + 1) = difN (x2.map (·.1)) (x1.map (·.1)) i + (if y2.1.q = y1.1.q then 0 else 1) := by rw [difN, List.getElem?_map, List.getElem?_map, hy1, hy2]; simp
                    have hdl : difN (x2.map (·.1)) (x1.map (·.1)) i ≤ 1 := by rw [hx1, hx2, hdif]; split <;> omega
                    refine TC_know (fun w hw => hw.sqSome (i := 1) rfl (by omega)) (fun hsome => ?_)
                    obtain ⟨g5, rfl⟩ := hsome
                    refine TC_know (fun w hw => hw.sqSome (i := 2) rfl (by omega)) (fun hsome => ?_)
                    obtain ⟨g6, rfl⟩ := hsome
                    refine TC_skip ?_
                    refine TC_seq ?_
                    refine TC_block ?_
                    refine TC_seq ?_
                    refine TC_region ?_
                    refine OL_sil rfl rfl rfl (Sil.move rfl rfl) ?_
                    refine OL_sil rfl rfl rfl (Sil.assign rfl rfl) ?_
                    refine OL_nil ?_
                    refine TC_seq ?_
                    refine TC_draw rfl (fun j => false) ?_
                    refine DL_take 0 rfl (by kernel_rfl) rfl rfl rfl (Sil.move rfl rfl) (fun _ hr => hr) ?_
                    refine DL_take 1 rfl (by kernel_rfl) rfl rfl rfl (Sil.move rfl rfl) (fun _ hr => hr) ?_
                    refine DL_take 2 rfl (by kernel_rfl) rfl rfl rfl (Sil.indexOwn i rfl rfl rfl Try.underlying25 rfl rfl (by omega)) (fun _ hr => hr) ?_
                    refine DL_take 3 rfl (by kernel_rfl) rfl rfl rfl (Sil.fieldLoc 1 rfl rfl Try.underlying43 rfl rfl) (fun _ hr => hr) ?_
                    refine DL_take 4 rfl (by kernel_rfl) rfl rfl rfl (Sil.sqLoad 2 rfl rfl rfl Try.underlying3 rfl (rvsC_at hy2 1 _ rfl)) (fun _ hr => hr) ?_
                    refine DL_take 5 rfl (by kernel_rfl) rfl rfl rfl (Sil.move rfl rfl) (fun _ hr => hr) ?_
                    refine DL_take 6 rfl (by kernel_rfl) rfl rfl rfl (Sil.move rfl rfl) (fun _ hr => hr) ?_
                    refine DL_take 7 rfl (by kernel_rfl) rfl rfl rfl (Sil.indexOwn i rfl rfl rfl Try.underlying25 rfl rfl (by omega)) (fun _ hr => hr) ?_
                    refine DL_take 8 rfl (by kernel_rfl) rfl rfl rfl (Sil.fieldLoc 1 rfl rfl Try.underlying43 rfl rfl) (fun _ hr => hr) ?_
                    refine DL_take 9 rfl (by kernel_rfl) rfl rfl rfl (Sil.sqLoad 1 rfl rfl rfl Try.underlying3 rfl (rvsC_at hy1 1 _ rfl)) (fun _ hr => hr) ?_
                    refine DL_take 10 rfl (by kernel_rfl) rfl rfl rfl (Sil.neq rfl rfl rfl) (fun _ hr => hr) ?_
                    refine DL_done (by kernel_rfl) ?_
                    refine TC_ifn rfl (fun ht122 => ?_) (fun ht122 => ?_)
                    · refine TC_region ?_
                      refine OL_sil rfl rfl rfl (Sil.move rfl rfl) ?_
                      refine OL_sil rfl rfl rfl (Sil.add rfl rfl rfl (by omega) (by omega)) ?_
                      refine OL_sil rfl rfl rfl (Sil.assign rfl rfl) ?_
                      refine OL_nil ?_
                      refine TC_region ?_
                      refine OL_sil rfl rfl rfl (Sil.add rfl rfl rfl (by omega) (by omega)) ?_
                      refine OL_sil rfl rfl rfl (Sil.move rfl rfl) ?_
                      refine OL_nil ?_
                      rw [if_neg ht122] at hds
                      exact ⟨i + 1, ⟨by omega, ⟨rfl, rfl, rfl, slotI rfl (by omega), rfl, rfl, trivial⟩, List.Sublist.refl _⟩, by omega⟩
                    · refine TC_skip ?_
                      refine TC_region ?_
                      refine OL_sil rfl rfl rfl (Sil.add rfl rfl rfl (by omega) (by omega)) ?_
                      refine OL_sil rfl rfl rfl (Sil.move rfl rfl) ?_
                      refine OL_nil ?_
                      rw [if_pos ht122] at hds
                      exact ⟨i + 1, ⟨by omega, ⟨rfl, rfl, rfl, slotI rfl (by omega), rfl, rfl, trivial⟩, List.Sublist.refl _⟩, by omega⟩
                  · have hdf : difN (x2.map (·.1)) (x1.map (·.1)) i = if e.p = 4 then 0 else 1 := by
                      rw [hx1, hx2, hdif]
                      by_cases h4 : e.p = 4
                      · rw [if_pos h4, ht4 h4, if_neg (fun h => h.2 rfl)]
                      · rw [if_neg h4, if_pos ⟨by omega, htn4 h4⟩]
                    refine TC_exit ?_
                    refine TC_seq ?_
                    refine TC_region ?_
                    refine OL_sil rfl rfl rfl (Sil.move rfl rfl) ?_
                    refine OL_sil rfl rfl rfl (Sil.lenSl rfl rfl Try.underlying25) ?_
                    refine OL_sil rfl rfl rfl (Sil.move rfl rfl) ?_
                    refine OL_sil rfl rfl rfl (Sil.lenSl rfl rfl Try.underlying25) ?_
                    refine OL_sil rfl rfl rfl (Sil.eql rfl rfl rfl) ?_
                    refine OL_sil rfl rfl rfl (Sil.move rfl rfl) ?_
                    refine OL_dec 131 rfl (fun ht131 => ?_) (fun ht131 => ?_)
                    · refine OL_sil rfl rfl rfl (Sil.fieldLoc 0 rfl rfl Try.underlying58 rfl rfl) ?_
                      refine OL_sil rfl rfl rfl (by exact Sil.ownV rfl rfl (by first | exact at0 | exact at1 | exact at2 | exact at3 | exact at4 | exact at5 | exact at6 | exact at7 | exact at8 | exact at9 | exact at10 | exact at11 | exact at12 | exact at13 | exact at14 | exact at15) Try.underlying3 rfl (by rfl)) ?_
                      refine OL_sil rfl rfl rfl (Sil.eql rfl rfl rfl) ?_
                      refine OL_sil rfl rfl rfl (Sil.move rfl rfl) ?_
                      refine OL_dec 135 rfl (fun ht135 => ?_) (fun ht135 => ?_)
                      · rw [if_pos ht135] at hdf
                        refine OL_sil rfl rfl rfl (Sil.move rfl rfl) ?_
                        refine OL_sil rfl rfl rfl (Sil.eql rfl rfl rfl) ?_
                        refine OL_sil rfl rfl rfl (Sil.pick1 rfl rfl rfl) ?_
                        refine OL_sil rfl rfl rfl (Sil.move rfl rfl) ?_
                        refine OL_dec 139 rfl (fun ht139 => ?_) (fun ht139 => ?_)
                        · refine OL_skip rfl rfl rfl ?_
                          refine OL_skip rfl rfl rfl ?_
                          refine OL_skip rfl rfl rfl ?_
                          refine OL_skip rfl rfl rfl ?_
                          refine OL_skip rfl rfl rfl ?_
                          refine OL_skip rfl rfl rfl ?_
                          refine OL_skip rfl rfl rfl ?_
                          refine OL_sil rfl rfl rfl (Sil.pick1 rfl rfl rfl) ?_
                          refine OL_sil rfl rfl rfl (Sil.pick1 rfl rfl rfl) ?_
                          refine OL_sil rfl rfl rfl (Sil.assign rfl rfl) ?_
                          refine OL_nil ?_
                          refine TC_ret ?_
                          first | exact ret1 rfl rfl ⟨rfl, rfl⟩ | exact ret1 rfl rfl ⟨congrArg Value.bool (decide_eq_true (by omega)), rfl⟩
                        · refine OL_sil rfl rfl rfl (Sil.fieldLoc 0 rfl rfl Try.underlying58 rfl rfl) ?_
                          refine OL_sil rfl rfl rfl (by exact Sil.ownV rfl rfl (by first | exact at0 | exact at1 | exact at2 | exact at3 | exact at4 | exact at5 | exact at6 | exact at7 | exact at8 | exact at9 | exact at10 | exact at11 | exact at12 | exact at13 | exact at14 | exact at15) Try.underlying3 rfl (by rfl)) ?_
                          refine OL_sil rfl rfl rfl (Sil.neq rfl rfl rfl) ?_
                          refine OL_sil rfl rfl rfl (Sil.move rfl rfl) ?_
                          refine OL_decn 143 rfl (fun ht143 => ?_) (fun ht143 => ?_)
                          · refine OL_sil rfl rfl rfl (Sil.move rfl rfl) ?_
                            refine OL_sil rfl rfl rfl (Sil.eql rfl rfl rfl) ?_
                            refine OL_sil rfl rfl rfl (Sil.pick1 rfl rfl rfl) ?_
                            refine OL_sil rfl rfl rfl (Sil.pick0 rfl rfl rfl) ?_
                            refine OL_sil rfl rfl rfl (Sil.pick1 rfl rfl rfl) ?_
                            refine OL_sil rfl rfl rfl (Sil.assign rfl rfl) ?_
                            refine OL_nil ?_
                            refine TC_ret ?_
                            first | exact ret1 rfl rfl ⟨rfl, rfl⟩ | exact ret1 rfl rfl ⟨congrArg Value.bool (decide_eq_true (by omega)), rfl⟩
                          · first | exact absurd ht143 ht135 | omega
                      · rw [if_neg ht135] at hdf
                        refine OL_skip rfl rfl rfl ?_
                        refine OL_skip rfl rfl rfl ?_
                        refine OL_sil rfl rfl rfl (Sil.pick0 rfl rfl rfl) ?_
                        refine OL_sil rfl rfl rfl (Sil.move rfl rfl) ?_
                        refine OL_sil rfl rfl rfl (Sil.fieldLoc 0 rfl rfl Try.underlying58 rfl rfl) ?_
                        refine OL_sil rfl rfl rfl (by exact Sil.ownV rfl rfl (by first | exact at0 | exact at1 | exact at2 | exact at3 | exact at4 | exact at5 | exact at6 | exact at7 | exact at8 | exact at9 | exact at10 | exact at11 | exact at12 | exact at13 | exact at14 | exact at15) Try.underlying3 rfl (by rfl)) ?_
                        refine OL_sil rfl rfl rfl (Sil.neq rfl rfl rfl) ?_
                        refine OL_sil rfl rfl rfl (Sil.move rfl rfl) ?_
                        refine OL_decn 143 rfl (fun ht143 => ?_) (fun ht143 => ?_)
                        · refine OL_sil rfl rfl rfl (Sil.move rfl rfl) ?_
                          refine OL_sil rfl rfl rfl (Sil.eql rfl rfl rfl) ?_
                          refine OL_sil rfl rfl rfl (Sil.pick1 rfl rfl rfl) ?_
                          refine OL_sil rfl rfl rfl (Sil.pick0 rfl rfl rfl) ?_
                          refine OL_sil rfl rfl rfl (Sil.pick1 rfl rfl rfl) ?_
                          refine OL_sil rfl rfl rfl (Sil.assign rfl rfl) ?_
                          refine OL_nil ?_
                          refine TC_ret ?_
                          first | exact ret1 rfl rfl ⟨rfl, rfl⟩ | exact ret1 rfl rfl ⟨congrArg Value.bool (decide_eq_true (by omega)), rfl⟩
                        · first | exact absurd ht143 ht135 | omega
                    · omega
theorem HistOne_gives (es : List RcD) (a : Option Addr) (cap : Nat) (e : RcD) (u : Value) (w0 : World) (hx : RcsAt w0 a es) (hu : OpsV w0 u e.ops) :
    Gives Try.prog 11 [.slice a es.length cap, .agg (rcC e u).toArray] w0 [] fun v h => v = .bool true ∧ h = [] := by
  by_cases h0 : errC es = 0
  · by_cases h9 : errC (es ++ [e]) = 0
    · by_cases hp : e.p = 1
      · exact HistOne_inv es a cap e u w0 hx hu h0 h9 hp
      · exact HistOne_end es a cap e u w0 hx hu h0 h9 hp
    · exact HistOne_err es a cap e u w0 hx hu h0 h9
  · exact HistOne_bad es a cap e u w0 hx hu h0
end Go.Proofs.Ytjnopbmanhialaa
