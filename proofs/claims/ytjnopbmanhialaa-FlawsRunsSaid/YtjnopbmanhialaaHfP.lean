/-
  Walk: hist.Writes, whole.
-/
import Derived.Test.YtjnopbmanhialaaHfO
namespace Go.Proofs.Ytjnopbmanhialaa
open Go.Cru

theorem wrN_miss {ops : List OpD} {k : Nat} (h : lastOp ops k ops.length = none) : wrN ops (k + 1) = wrN ops k := by rw [wrN, h]; simp
theorem wrN_hit {ops : List OpD} {k : Nat} {o : OpD} (h : lastOp ops k ops.length = some o) : wrN ops (k + 1) = wrN ops k ++ [o] := by rw [wrN, h]; rfl

theorem Writes_gives (t : RcD) (u : Value) (w0 : World) (hu : OpsV w0 u t.ops) (hl : t.ops.length ≤ 1000) :
    Gives Try.prog 33 [.agg (rcC t u).toArray] w0 [] fun v h => ∃ ao cap, v = .slice ao (wrN t.ops 16).length cap ∧ h = [sq ao (wrN t.ops 16).length cap 40 3 (opsC (wrN t.ops 16))] := by
  obtain ⟨a, c, rfl, hx⟩ := hu
  refine gives_marks (n := 30) Try.func33 rfl rfl rfl (own_bagFront (Own.start w0)) ?_
  refine TCD_seq ?_
  refine TCD_region ?_
  refine OLD_loud rfl rfl rfl (LO.box rfl rfl) ?_
  rintro _ _ ⟨b1, _, rfl, rfl⟩
  refine OLD_sil rfl rfl rfl (Sil.assign rfl rfl) ?_
  refine OLD_nil ?_
  refine TCD_seq ?_
  refine TCD_region ?_
  refine OLD_loud rfl rfl rfl (LO.alloc rfl rfl) ?_
  rintro _ _ ⟨b3, _, rfl, rfl⟩
  refine OLD_nil ?_
  refine TCD_own (fun w ho => ho.nil 40 3) ?_
  refine TCD_seq ?_
  refine TCD_seq ?_
  refine TCD_region ?_
  refine OLD_sil rfl rfl rfl (Sil.move rfl rfl) ?_
  refine OLD_nil ?_
  refine TCD_block ?_
  refine TCD_loop (σ := Nat × Option Addr × Nat × List Nat) (fun x => [(1, .pointer (some ⟨b1, 0, none⟩)), (3, .pointer (some ⟨b3, 0, none⟩)), (7, .int .i64 x.1)])
    (fun x => [bagR (x.2.2.2.map mkR), blk b1 (.cells (rcC t (.slice a t.ops.length c)).toArray 43 (0, 0)), blk b3 (.cells #[.slice x.2.1 (wrN t.ops x.1).length x.2.2.1] 41 (0, 0)), sq x.2.1 (wrN t.ops x.1).length x.2.2.1 40 3 (opsC (wrN t.ops x.1))])
    (fun x => x.2.2.2.map mkD) (fun x => x.1 ≤ 16) (fun x => 16 - x.1) (0, none, 0, []) ⟨Nat.zero_le _, ⟨rfl, rfl, rfl, trivial⟩, List.Sublist.refl _, rfl⟩ ?_
  rintro ⟨k, ao, cap, Ds⟩ hk
  replace hk : k ≤ 16 := hk
  refine TCD_seq ?_
  refine TCD_region ?_
  refine OLD_sil rfl rfl rfl (Sil.lss rfl rfl rfl) ?_
  refine OLD_nil ?_
  refine TCD_seq ?_
  refine TCD_if rfl (fun ht => ?_) (fun ht => ?_)
  · refine TCD_skip ?_
    refine TCD_seq ?_
    refine TCD_block ?_
    refine TCD_seq ?_
    refine TCD_region ?_
    refine OLD_sil rfl rfl rfl (Sil.move rfl rfl) ?_
    refine OLD_loud rfl rfl rfl (LO.alloc rfl rfl) ?_
    rintro _ _ ⟨b4, _, rfl, rfl⟩
    refine OLD_loud0 rfl rfl (by exact LO.store1V rfl rfl rfl (by first | exact at0 | exact at1 | exact at2 | exact at3 | exact at4 | exact at5 | exact at6 | exact at7 | exact at8 | exact at9 | exact at10 | exact at11 | exact at12 | exact at13 | exact at14 | exact at15) (by rfl) (by rfl) (by rfl)) ?_
    rintro _ _ ⟨rfl, rfl⟩
    refine OLD_nil ?_
    refine TCD_seq ?_
    refine TCD_region ?_
    refine OLD_sil rfl rfl rfl (Sil.fieldLoc 2 rfl rfl Try.underlying43 rfl rfl) ?_
    refine OLD_sil rfl rfl rfl (Sil.ownL 1 rfl rfl rfl Try.underlying41 rfl rfl) ?_
    refine OLD_loud rfl rfl rfl (LO.calls rfl ent45 rfl fun w hw => Backward_gives a t.ops.length c w) ?_
    rintro _ _ ⟨_, ⟨bx, rfl, rfl⟩, rfl⟩
    refine OLD_nil ?_
    refine TCD_block ?_
    have hm := wrN_len t.ops k
    refine range_w (tu := rcC t (.slice a t.ops.length c)) (out := wrN t.ops k) (k := k) hl hx (by omega) rfl rfl rfl ?_ ?_
    · intro hno D
      refine TCD_region ?_
      refine OLD_sil rfl rfl rfl (Sil.add rfl rfl rfl (by omega) (by omega)) ?_
      refine OLD_sil rfl rfl rfl (Sil.move rfl rfl) ?_
      refine OLD_nil ?_
      refine ⟨(k + 1, ao, cap, D :: Ds), ⟨by show k + 1 ≤ 16; omega, ⟨rfl, rfl, slotI rfl (by push_cast; rfl), trivial⟩, ?_, rfl⟩, by show 16 - (k + 1) < 16 - k; omega⟩
      show List.Sublist [_, _, _, _] _
      rw [wrN_miss hno]
      exact List.Sublist.cons_cons _ (List.Sublist.cons_cons _ (List.Sublist.cons_cons _ (List.Sublist.cons_cons _ (List.nil_sublist _))))
    · intro o ao' cap' D ho
      refine TCD_region ?_
      refine OLD_sil rfl rfl rfl (Sil.add rfl rfl rfl (by omega) (by omega)) ?_
      refine OLD_sil rfl rfl rfl (Sil.move rfl rfl) ?_
      refine OLD_nil ?_
      refine ⟨(k + 1, ao', cap', D :: Ds), ⟨by show k + 1 ≤ 16; omega, ⟨rfl, rfl, slotI rfl (by push_cast; rfl), trivial⟩, ?_, rfl⟩, by show 16 - (k + 1) < 16 - k; omega⟩
      show List.Sublist [_, _, _, _] _
      rw [wrN_hit ho, ← opsC_snoc, List.length_append]
      exact List.Sublist.cons_cons _ (List.Sublist.cons_cons _ (List.Sublist.cons_cons _ (List.Sublist.cons_cons _ (List.nil_sublist _))))
  · obtain rfl : k = 16 := by omega
    refine TCD_exit ?_
    refine TCD_seq ?_
    refine TCD_region ?_
    refine OLD_sil rfl rfl rfl (Sil.own 2 rfl rfl rfl Try.underlying41 rfl rfl) ?_
    refine OLD_sil rfl rfl rfl (Sil.assign rfl rfl) ?_
    refine OLD_nil ?_
    refine TCD_ret ?_
    exact ⟨2, _, Ds, _, _, rfl, rfl, rfl, rfl, List.Sublist.cons _ (List.Sublist.cons _ (List.Sublist.refl _)), ao, cap, rfl, rfl⟩
end Go.Proofs.Ytjnopbmanhialaa
