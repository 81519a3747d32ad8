/-
  Walks: slices.Backward and what it hands back.
-/
import Derived.Test.YtjnopbmanhialaaHfC
import Derived.Test.YtjnopbmanhialaaKitS
namespace Go.Proofs.Ytjnopbmanhialaa
open Go.Cru

theorem Backward_gives (a : Option Addr) (len cap : Nat) (w0 : World) : Gives Try.prog 45 [.slice a len cap] w0 [] fun v h => ∃ b, v = .func (.func 46) #[] #[.pointer (some ⟨b, 0, none⟩)] ∧ h = [blk b (.cells #[.slice a len cap] 41 (0, 0))] := by
  refine gives_of Try.func45 rfl rfl rfl (Own.start w0) ?_
  refine TC_seq ?_
  refine TC_region ?_
  refine OL_loud rfl rfl rfl (LO.box rfl rfl) ?_
  rintro _ _ ⟨b1, _, rfl, rfl⟩
  refine OL_sil rfl rfl rfl (Sil.assign rfl rfl) ?_
  refine OL_nil ?_
  refine TC_seq ?_
  refine TC_region ?_
  refine OL_sil rfl rfl rfl (Sil.of (v := .func (.func 46) #[] #[.pointer (some ⟨b1, 0, none⟩)]) (s := Pure.pure (.func (.func 46) #[] #[.pointer (some ⟨b1, 0, none⟩)])) (fun a' hf => by have h1 : a'.eval (.tmp 1) = .pointer (some ⟨b1, 0, none⟩) := hf.eval rfl; unfold execOp; simp only [List.map_toArray, List.map_cons, List.map_nil, h1]; rfl) (fun w _ => rfl)) ?_
  refine OL_sil rfl rfl rfl (Sil.assign rfl rfl) ?_
  refine OL_nil ?_
  refine TC_ret ?_
  exact ret1h rfl rfl (List.Sublist.refl _) ⟨b1, rfl, rfl⟩

/-- The iterator: operations from the last to the first, as long as yield says true; J i: those from i on have come. -/
theorem back_in (L bx : Nat) (a : Option Addr) (ops : List OpD) (cap : Nat) (hl : ops.length ≤ 1000) (J : Nat → World → Prop) (Jx : World → Prop)
    (hr : ∀ i w, J i w → w.cell? ⟨bx, 0, none⟩ = some (.slice a ops.length cap) ∧ OpsAt w a ops)
    (hY : ∀ i o w, J (i + 1) w → ops[i]? = some o → YieldAt FW 4 Try.prog L #[.int .i64 i, agI o.is] w fun e w' => (e = .returned (.bool true) ∧ J i w') ∨ (e = .returned (.bool false) ∧ Jx w'))
    (W : World) (h0 : J ops.length W) :
    CallsIn FW 5 Try.prog 46 #[.func (.yield L) #[] #[], .pointer (some ⟨bx, 0, none⟩)] W fun e w' => (∃ v, e = .returned v) ∧ (J 0 w' ∨ Jx w') := by
  have hcell : ∀ i w, J i w → w.cell? ⟨bx, 0, none⟩ = some (.slice a ops.length cap) := fun i w h => (hr i w h).1
  refine calls_W (vs := [.func (.yield L) #[] #[], .pointer (some ⟨bx, 0, none⟩)]) (Φ := J ops.length) Try.func46 rfl rfl rfl rfl h0 ?_
  refine TW_seq ?_
  refine TW_region ?_
  refine OW_sil rfl rfl rfl rfl (fun w hw => Sil.old rfl rfl Try.underlying41 rfl (hcell _ w hw) (by simp)) ?_
  refine OW_sil rfl rfl rfl rfl (fun w hw => Sil.lenSl rfl rfl Try.underlying41) ?_
  refine OW_sil rfl rfl rfl rfl (fun w hw => Sil.sub rfl rfl rfl (by omega) (by omega)) ?_
  refine OW_sil rfl rfl rfl rfl (fun w hw => Sil.assign rfl rfl) ?_
  refine OW_nil ?_
  refine TW_block ?_
  refine TW_loop (fun i : Nat => [(0, .func (.yield L) #[] #[]), (1, .pointer (some ⟨bx, 0, none⟩)), (3, .int .i64 ((i : Int) - 1))]) (fun i => J i) (fun i => i ≤ ops.length) (fun i => i) ops.length (Nat.le_refl _) ⟨rfl, rfl, rfl, trivial⟩ (fun w hw => hw) ?_
  intro i hi
  refine TW_seq ?_
  refine TW_seq ?_
  refine TW_region ?_
  refine OW_sil rfl rfl rfl rfl (fun w hw => Sil.move rfl rfl) ?_
  refine OW_sil rfl rfl rfl rfl (fun w hw => Sil.geq rfl rfl rfl) ?_
  refine OW_nil ?_
  refine TW_if rfl (fun ht => ?_) (fun ht => ?_)
  · obtain ⟨i, rfl⟩ : ∃ j, i = j + 1 := ⟨i - 1, by omega⟩
    obtain ⟨o, ho⟩ : ∃ o, ops[i]? = some o := ⟨_, List.getElem?_eq_getElem (by omega)⟩
    refine TW_skip ?_
    refine TW_seq ?_
    refine TW_block ?_
    refine TW_seq ?_
    refine TW_region ?_
    refine OW_sil rfl rfl rfl rfl (fun w hw => Sil.move rfl rfl) ?_
    refine OW_sil rfl rfl rfl rfl (v := .int .i64 (i : Int)) (fun w hw => Sil.move rfl (slotI rfl (by omega))) ?_
    refine OW_sil rfl rfl rfl rfl (fun w hw => Sil.old rfl rfl Try.underlying41 rfl (hcell _ w hw) (by simp)) ?_
    refine OW_sil rfl rfl rfl rfl (v := .int .i64 (i : Int)) (fun w hw => Sil.move rfl (slotI rfl (by omega))) ?_
    obtain ⟨x, rfl⟩ | hno : (∃ x, a = some x) ∨ ∀ w, ¬ J (i + 1) w := by
      cases a with
      | some x => exact .inl ⟨x, rfl⟩
      | none => exact .inr fun w hw => by obtain ⟨x, e, _⟩ := (hr _ w hw).2.2 i o ho; cases e
    · refine OW_sil rfl rfl rfl rfl (fun w hw => Sil.indexSl i rfl rfl rfl Try.underlying41 rfl rfl (by omega)) ?_
      refine OW_sil rfl rfl rfl rfl (v := agI o.is) (fun w hw => by
        obtain ⟨x', e, hc⟩ := (hr _ w hw).2.2 i o ho
        cases e
        exact Sil.oldS rfl rfl hc Try.underlying40 rfl rfl rfl) ?_
      refine OW_yield rfl rfl rfl rfl rfl (vs := [.int .i64 i, agI o.is]) rfl (fun w hw => hY i o w hw ho) ?_ ?_
      · refine OW_sil rfl rfl rfl rfl (fun w hw => Sil.not (b := true) rfl rfl) ?_
        refine OW_nil ?_
        refine TW_no rfl ?_
        refine TW_skip ?_
        refine TW_region ?_
        refine OW_sil rfl rfl rfl rfl (fun w hw => Sil.move rfl rfl) ?_
        refine OW_sil rfl rfl rfl rfl (fun w hw => Sil.sub rfl rfl rfl (by omega) (by omega)) ?_
        refine OW_sil rfl rfl rfl rfl (fun w hw => Sil.assign rfl rfl) ?_
        refine OW_nil ?_
        exact ⟨i, by omega, ⟨rfl, rfl, slotI rfl (by omega), trivial⟩, fun w hw => hw, by omega⟩
      · refine OW_sil rfl rfl rfl rfl (fun w hw => Sil.not (b := false) rfl rfl) ?_
        refine OW_nil ?_
        refine TW_yes rfl ?_
        refine TW_ret ?_
        exact fun w hw => .inr hw
    · exact fun a w hf hw => absurd hw (hno w)
  · obtain rfl : i = 0 := by omega
    refine TW_exit ?_
    exact fun w hw => .inl hw
end Go.Proofs.Ytjnopbmanhialaa
