/-
  Walks: a copy of events.
-/
import Derived.Test.YtjnopbmanhialaaHfB
namespace Go.Proofs.Ytjnopbmanhialaa
open Go.Cru

theorem elOp : El Try.prog 41 40 (.agg #[.int .i64 0, .int .i64 0, .int .i64 0]) 3 24 := ⟨Try.underlying41, rfl, rfl, by decide⟩
theorem elEv : El Try.prog 22 58 (.agg #[.int .i64 0, .int .i64 0, .slice none 0 0]) 3 40 := ⟨Try.underlying22, rfl, rfl, by decide⟩
theorem elTx : El Try.prog 25 43 (.agg #[.int .i64 0, .int .i64 0, .slice none 0 0]) 3 40 := ⟨Try.underlying25, rfl, rfl, by decide⟩
theorem elI : El Try.prog 37 3 (.int .i64 0) 1 8 := ⟨Try.underlying37, rfl, rfl, by decide⟩
/-- What appending looks at, of old memory. -/
theorem newsOps {w0 : World} {h : Mem} {a : Option Addr} {xs : List OpD} (hx : OpsAt w0 a xs) : ∀ w, Own w0 [] h w → ∀ j u, (opsC xs)[j]? = some u → ∃ ad, a = some ad ∧ w.cell? (ad.add j) = some u := by
  intro w hw j u hu
  have hj := (List.getElem?_eq_some_iff.1 hu).1
  rw [opsC_length] at hj
  obtain ⟨o, ho⟩ : ∃ o, xs[j / 3]? = some o := ⟨_, List.getElem?_eq_getElem (by omega)⟩
  obtain ⟨x, e, hc⟩ := hx.2 _ o ho
  refine ⟨x, e, ?_⟩
  have hlt : j % 3 < (iv o.is).length := by show j % 3 < 3; omega
  have h1 : (iv o.is)[j % 3]? = some (iv o.is)[j % 3] := List.getElem?_eq_getElem hlt
  have h2 := opsC_at ho _ _ h1
  rw [show j / 3 * 3 + j % 3 = j from by omega, hu] at h2
  have h3 := (hc.keep hw.keep) _ _ h1
  rw [add_add, show j / 3 * 3 + j % 3 = j from by omega] at h3
  rw [h3, ← h2]
theorem lies_of {T : TypeId} {p q : Int} {ops : List OpD} {ao : Option Addr} {c : Nat} {w : World} {rs : List Res} (hw : (sq ao (0 + ops.length) c T 3 ([] ++ opsC ops)).P (hf w)) : Lies T (rs ++ [sq ao (0 + ops.length) c T 3 ([] ++ opsC ops)]) (⟨p, q, ops⟩, .slice ao (0 + ops.length) c) := by
  by_cases e : ops = []
  · subst e; exact .inl ⟨rfl, ao, c, rfl⟩
  · have : 0 < ops.length := List.length_pos_iff.2 e
    obtain ⟨g, rfl⟩ := sq_some hw (by omega)
    refine .inr ⟨g, c, by rw [Nat.zero_add], ?_⟩
    rw [Nat.zero_add]
    simp

theorem Copy_gives (es : List RcD) (a : Option Addr) (cap : Nat) (w0 : World) (hx : RcsAt w0 a es) (hl : es.length ≤ 1000) (ho : ∀ e ∈ es, e.ops.length ≤ 1000) :
    Gives Try.prog 26 [.slice a es.length cap] w0 [] fun v h => ∃ ao cap' xs rs, v = .slice ao xs.length cap' ∧ xs.map (·.1) = es ∧ h = [sq ao xs.length cap' 58 3 (rvsC xs), bagR rs] ∧ ∀ x ∈ xs, Lies 40 rs x := by
  refine gives_of Try.func26 rfl rfl rfl (Own.start w0) ?_
  refine TC_seq ?_
  refine TC_region ?_
  refine OL_sil rfl rfl rfl (Sil.assign rfl rfl) ?_
  refine OL_nil ?_
  refine TC_seq ?_
  refine TC_region ?_
  refine OL_loud rfl rfl rfl (LO.buildSlice0 (s := 3) rfl Try.underlying22 rfl) ?_
  rintro _ _ ⟨g0, rfl, rfl⟩
  refine OL_own (fun w hw => hw.bag0) ?_
  refine OL_sil rfl rfl rfl (Sil.assign rfl rfl) ?_
  refine OL_nil ?_
  refine TC_seq ?_
  refine TC_seq ?_
  refine TC_region ?_
  refine OL_sil rfl rfl rfl (Sil.move rfl rfl) ?_
  refine OL_sil rfl rfl rfl (Sil.lenSl rfl rfl Try.underlying22) ?_
  refine OL_sil rfl rfl rfl (Sil.move rfl rfl) ?_
  refine OL_nil ?_
  refine TC_block ?_
  refine TC_loop (fun ((ao, cap', xs, rs) : Option Addr × Nat × List RcV × List Res) => [(3, .slice ao xs.length cap'), (7, .slice a es.length cap), (8, .int .i64 es.length), (9, .int .i64 xs.length)]) (fun (ao, cap', xs, rs) => [sq ao xs.length cap' 58 3 (rvsC xs), bagR rs]) (fun (ao, cap', xs, rs) => xs.map (·.1) = es.take xs.length ∧ xs.length ≤ es.length ∧ ∀ x ∈ xs, Lies 40 rs x) (fun (ao, cap', xs, rs) => es.length - xs.length) (some ⟨g0, 0, none⟩, 0, [], []) ?_ ?_
  · exact ⟨⟨rfl, Nat.zero_le _, fun x hx => by cases hx⟩, ⟨rfl, rfl, rfl, rfl, trivial⟩, List.Sublist.refl _⟩
  · rintro ⟨ao, cap', xs, rs⟩ ⟨hxs, hle, hli⟩
    refine TC_seq ?_
    refine TC_region ?_
    refine OL_sil rfl rfl rfl (Sil.lss rfl rfl rfl) ?_
    refine OL_nil ?_
    refine TC_seq ?_
    refine TC_if rfl (fun ht10 => ?_) (fun ht10 => ?_)
    · obtain ⟨e, he⟩ := nthSome ht10
      obtain ⟨x, u, rfl, hcx, a1, cap1, rfl, hu⟩ := hx.2 _ e he
      have hu1 := ho e (List.mem_of_getElem? he)
      refine TC_skip ?_
      refine TC_seq ?_
      refine TC_block ?_
      refine TC_seq ?_
      refine TC_region ?_
      refine OL_sil rfl rfl rfl (Sil.indexSl xs.length rfl rfl rfl Try.underlying22 rfl rfl (by omega)) ?_
      refine OL_sil rfl rfl rfl (Sil.oldS rfl rfl hcx Try.underlying58 rfl rfl rfl) ?_
      refine OL_loud rfl rfl rfl (LO.alloc rfl rfl) ?_
      rintro _ _ ⟨b5, _, rfl, rfl⟩
      refine OL_loud0 rfl rfl (by first | exact LO.storeAllV rfl rfl rfl (by first | exact at0 | exact at1 | exact at2 | exact at3 | exact at4 | exact at5 | exact at6 | exact at7 | exact at8 | exact at9 | exact at10 | exact at11 | exact at12 | exact at13 | exact at14 | exact at15) (by rfl) (by rfl) (by rfl) (by rfl) | exact LO.store1V rfl rfl rfl (by first | exact at0 | exact at1 | exact at2 | exact at3 | exact at4 | exact at5 | exact at6 | exact at7 | exact at8 | exact at9 | exact at10 | exact at11 | exact at12 | exact at13 | exact at14 | exact at15) (by rfl) (by rfl) (by rfl)) ?_
      rintro _ _ ⟨rfl, rfl⟩
      refine OL_nil ?_
      refine TC_drawS [blk b5 (.cells (rcC e (.slice a1 e.ops.length cap1)).toArray 58 (0, 0))] (by (repeat' (first | exact all_nil | refine all_cons (by repeat (first | exact List.Mem.head _ | refine List.Mem.tail _ ?_)) ?_))) rfl (fun j => false) ?_
      intro hs0
      refine DL_take 0 rfl (by kernel_rfl) rfl rfl rfl (Sil.move rfl rfl) (by (repeat' (first | exact all_nil | refine all_cons (by repeat (first | exact List.Mem.head _ | refine List.Mem.tail _ ?_)) ?_))) ?_
      refine DL_take 1 rfl (by kernel_rfl) rfl rfl rfl (Sil.fieldLoc 0 rfl rfl Try.underlying58 rfl rfl) (by (repeat' (first | exact all_nil | refine all_cons (by repeat (first | exact List.Mem.head _ | refine List.Mem.tail _ ?_)) ?_))) ?_
      refine DL_take 2 rfl (by kernel_rfl) rfl rfl rfl (by exact Sil.ownV rfl rfl (by first | exact at0 | exact at1 | exact at2 | exact at3 | exact at4 | exact at5 | exact at6 | exact at7 | exact at8 | exact at9 | exact at10 | exact at11 | exact at12 | exact at13 | exact at14 | exact at15) Try.underlying3 rfl (by rfl)) (by (repeat' (first | exact all_nil | refine all_cons (by repeat (first | exact List.Mem.head _ | refine List.Mem.tail _ ?_)) ?_))) ?_
      refine DL_take 3 rfl (by kernel_rfl) rfl rfl rfl (Sil.fieldLoc 1 rfl rfl Try.underlying58 rfl rfl) (by (repeat' (first | exact all_nil | refine all_cons (by repeat (first | exact List.Mem.head _ | refine List.Mem.tail _ ?_)) ?_))) ?_
      refine DL_take 4 rfl (by kernel_rfl) rfl rfl rfl (by exact Sil.ownV rfl rfl (by first | exact at0 | exact at1 | exact at2 | exact at3 | exact at4 | exact at5 | exact at6 | exact at7 | exact at8 | exact at9 | exact at10 | exact at11 | exact at12 | exact at13 | exact at14 | exact at15) Try.underlying3 rfl (by rfl)) (by (repeat' (first | exact all_nil | refine all_cons (by repeat (first | exact List.Mem.head _ | refine List.Mem.tail _ ?_)) ?_))) ?_
      refine DL_take 6 rfl (by kernel_rfl) rfl rfl rfl (Sil.fieldLoc 2 rfl rfl Try.underlying58 rfl rfl) (by (repeat' (first | exact all_nil | refine all_cons (by repeat (first | exact List.Mem.head _ | refine List.Mem.tail _ ?_)) ?_))) ?_
      refine DL_take 7 rfl (by kernel_rfl) rfl rfl rfl (by exact Sil.ownV rfl rfl (by first | exact at0 | exact at1 | exact at2 | exact at3 | exact at4 | exact at5 | exact at6 | exact at7 | exact at8 | exact at9 | exact at10 | exact at11 | exact at12 | exact at13 | exact at14 | exact at15) Try.underlying41 rfl (by rfl)) (by (repeat' (first | exact all_nil | refine all_cons (by repeat (first | exact List.Mem.head _ | refine List.Mem.tail _ ?_)) ?_))) ?_
      refine DL_one 5 (by kernel_rfl) ?_
      refine DS_loud rfl rfl rfl rfl (LO.buildSlice0 (s := 3) rfl Try.underlying41 rfl) ?_
      rintro _ _ ⟨g1, rfl, rfl⟩
      refine ⟨.inr (by (repeat' (first | exact all_nil | refine all_cons (by repeat (first | exact List.Mem.head _ | refine List.Mem.tail _ ?_)) ?_))), ?_⟩
      refine DL_one 8 (by kernel_rfl) ?_
      refine DS_loud rfl rfl rfl rfl (LO.appendV 3 (opsC e.ops) rfl rfl rfl rfl elOp (opsC_length _) (newsOps hu) (opsC_one _) (by unfold maxLen; omega) (by omega)) ?_
      rintro _ _ ⟨g2, cap2, rfl, rfl⟩
      refine ⟨.inr (by (repeat' (first | exact all_nil | refine all_cons (by repeat (first | exact List.Mem.head _ | refine List.Mem.tail _ ?_)) ?_))), ?_⟩
      refine DL_take 9 rfl (by kernel_rfl) rfl rfl rfl (Sil.buildAll [(0, _), (1, _), (2, _)] rfl rfl Try.underlying58 rfl rfl rfl) (by (repeat' (first | exact all_nil | refine all_cons (by repeat (first | exact List.Mem.head _ | refine List.Mem.tail _ ?_)) ?_))) ?_
      refine DL_one 10 (by kernel_rfl) ?_
      refine DS_loud rfl rfl rfl rfl (LO.buildSlice1 rfl rfl Try.underlying22 rfl rfl rfl) ?_
      rintro _ _ ⟨tb, rfl, rfl⟩
      refine ⟨.inr (by (repeat' (first | exact all_nil | refine all_cons (by repeat (first | exact List.Mem.head _ | refine List.Mem.tail _ ?_)) ?_))), ?_⟩
      refine DL_one 11 (by kernel_rfl) ?_
      refine DS_loud rfl rfl rfl rfl (LO.append 0 (rcC e (.slice g2 (0 + e.ops.length) cap2)) rfl rfl rfl rfl elEv rfl (fun w hw => hw.cells (i := 4) rfl) (by simp [rcC, oneC]) (by unfold maxLen; omega) (by omega)) ?_
      rintro _ _ ⟨ao1, cap3, rfl, rfl⟩
      refine ⟨.inr (by (repeat' (first | exact all_nil | refine all_cons (by repeat (first | exact List.Mem.head _ | refine List.Mem.tail _ ?_)) ?_))), ?_⟩
      refine DL_take 12 rfl (by kernel_rfl) rfl rfl rfl (Sil.assign rfl rfl) (by (repeat' (first | exact all_nil | refine all_cons (by repeat (first | exact List.Mem.head _ | refine List.Mem.tail _ ?_)) ?_))) ?_
      refine DL_done (by kernel_rfl) ?_
      refine TC_know (fun w hw => lies_of (p := e.p) (q := e.q) (rs := rs) (hw.mine _ (List.mem_of_getElem? (i := 3) rfl))) (fun hlies => ?_)
      refine TC_own (fun w hw => hw.bagPut (A := [_]) (B := [_]) (C := [_]) rfl) ?_
      refine TC_region ?_
      refine OL_sil rfl rfl rfl (Sil.add rfl rfl rfl (by omega) (by omega)) ?_
      refine OL_sil rfl rfl rfl (Sil.move rfl rfl) ?_
      refine OL_nil ?_
      refine ⟨(ao1, cap3, xs ++ [(e, .slice g2 (0 + e.ops.length) cap2)], rs ++ [sq g2 (0 + e.ops.length) cap2 40 3 ([] ++ opsC e.ops)]), ⟨⟨?_, ?_, ?_⟩, ⟨slotV rfl (by simp), rfl, rfl, slotI rfl (by simp), trivial⟩, ?_⟩, ?_⟩
      · simp only [List.map_append, hxs, List.length_append, List.map_cons, List.map_nil, List.length_singleton, List.take_add_one, he, Option.toList]
      · simp; omega
      · intro y hy
        rcases List.mem_append.1 hy with hy | hy
        · exact (hli y hy).mono fun r hr => List.mem_append_left _ hr
        · rw [List.mem_singleton.1 hy]; exact hlies
      · show List.Sublist [sq ao1 (xs ++ [_]).length cap3 _ 3 (rvsC (xs ++ [_])), bagR _] _
        rw [← rvsC_snoc, List.length_append]
        exact List.Sublist.cons_cons _ (List.Sublist.cons_cons _ (List.nil_sublist _))
      · show es.length - (xs ++ [_]).length < es.length - xs.length
        simp; omega
    · have hlen : xs.length = es.length := by omega
      have hxe : xs.map (·.1) = es := by rw [hxs, hlen, List.take_length]
      refine TC_exit ?_
      refine TC_seq ?_
      refine TC_region ?_
      refine OL_sil rfl rfl rfl (Sil.move rfl rfl) ?_
      refine OL_sil rfl rfl rfl (Sil.assign rfl rfl) ?_
      refine OL_nil ?_
      refine TC_ret ?_
      exact ret1h rfl rfl (List.Sublist.refl _) ⟨_, _, xs, rs, rfl, hxe, rfl, hli⟩
end Go.Proofs.Ytjnopbmanhialaa
