/-
  Walks: the same transactions, the same events; a history that is too big; the document's example; whatever events: the transactions that they are.
-/
import Derived.Test.YtjnopbmanhialaaHfH
namespace Go.Cru
open Go
section
variable {P : Program} {n : Nat} {w0 : World} {bor : List Nat} {l : Env} {h hs : Mem} {o : Oper} {v : Value}
/-- A cell of a slice that lies in the bag. -/
theorem Sil.bagLoad {x : Operand} {T : TypeId} {d : TypeDesc} {g m cap T' sz off : Nat} {xs : List Value} {rs : List Res} (i : Nat) (hr : sq (some ⟨g, 0, none⟩) m cap T' sz xs ∈ rs) (ho : o.op = .load T x) (hx : ev l x = some (.pointer (some ⟨g, off, none⟩))) (hi : hs[i]? = some (bagR rs))
    (hT : P.underlying T = some d) (hd : aggB d = false) (hc : xs[off]? = some v) : Sil P n w0 bor hs l o v :=
  Sil.load ho hx hT hd fun _ hS => sq_cell (hS.mine _ (List.mem_of_getElem? hi) _ hr) hc
end
theorem RcsAt.nil (w : World) : RcsAt w none [] := ⟨Nat.zero_le _, fun j e h => by cases h⟩
theorem OpsAt.of_blk {w : World} {b T : Nat} {xs : List OpD} (h : (blk b (.cells (opsC xs).toArray T (0, 0))).P (hf w)) (hl : xs.length ≤ maxLen) : OpsAt w (some ⟨b, 0, none⟩) xs :=
  ⟨hl, fun j o hj => ⟨_, rfl, fun i u hu => by
    have h' : hf w b = _ := h
    rw [add_lit, add_lit, Nat.zero_add, cell_hf, cellF, h']
    have := opsC_at hj i u hu
    simpa using this⟩⟩
theorem RcsAt.of_blk {w : World} {b T : Nat} {xs : List RcV} (h : (blk b (.cells (rvsC xs).toArray T (0, 0))).P (hf w)) (hl : xs.length ≤ maxLen) (ho : ∀ x ∈ xs, OpsV w x.2 x.1.ops) : RcsAt w (some ⟨b, 0, none⟩) (xs.map (·.1)) :=
  ⟨by rw [List.length_map]; exact hl, fun j e hj => by
    rw [List.getElem?_map] at hj
    obtain ⟨x, hx, rfl⟩ := Option.map_eq_some_iff.1 hj
    exact ⟨_, x.2, rfl, fun i u hu => by
      have h' : hf w b = _ := h
      rw [add_lit, add_lit, Nat.zero_add, cell_hf, cellF, h']
      have := rvsC_at hx i u hu
      simpa using this, ho x (List.mem_of_getElem? hx)⟩⟩
end Go.Cru
namespace Go.Proofs.Ytjnopbmanhialaa
open Go.Cru

theorem Same_true (xs ys : List OpD) (a b : Option Addr) (cap cap' : Nat) (w0 : World) (hx : OpsAt w0 a xs) (hy : OpsAt w0 b ys) (he : xs = ys) :
    Gives Try.prog 30 [.slice a xs.length cap, .slice b ys.length cap'] w0 [] fun v h => v = .bool true ∧ h = [] :=
  (Same_gives xs ys a b cap cap' w0 hx hy).mono fun v h ⟨e1, e2⟩ => ⟨by rw [e1, decide_eq_true he], e2⟩

theorem sameTx_true (ts : List RcD) (a b : Option Addr) (cap cap' : Nat) (w0 : World) (hx : RcsAt w0 a ts) (hy : RcsAt w0 b ts) :
    Gives Try.prog 28 [.slice a ts.length cap, .slice b ts.length cap'] w0 [] fun v h => v = .bool true ∧ h = [] := by
  have hm := hx.1
  unfold maxLen at hm
  refine gives_of Try.func28 rfl rfl rfl (Own.start w0) ?_
  refine TC_seq ?_
  refine TC_region ?_
  refine OL_sil rfl rfl rfl (Sil.assign rfl rfl) ?_
  refine OL_nil ?_
  refine TC_seq ?_
  refine TC_seq ?_
  refine TC_region ?_
  refine OL_sil rfl rfl rfl (Sil.move rfl rfl) ?_
  refine OL_sil rfl rfl rfl (Sil.lenSl rfl rfl Try.underlying25) ?_
  refine OL_sil rfl rfl rfl (Sil.move rfl rfl) ?_
  refine OL_sil rfl rfl rfl (Sil.lenSl rfl rfl Try.underlying25) ?_
  refine OL_sil rfl rfl rfl (Sil.neq rfl rfl rfl) ?_
  refine OL_nil ?_
  refine TC_ifn rfl (fun ht10 => ?_) (fun ht10 => ?_)
  · exact absurd rfl ht10
  · refine TC_skip ?_
    refine TC_seq ?_
    refine TC_seq ?_
    refine TC_region ?_
    refine OL_sil rfl rfl rfl (Sil.move rfl rfl) ?_
    refine OL_sil rfl rfl rfl (Sil.lenSl rfl rfl Try.underlying25) ?_
    refine OL_sil rfl rfl rfl (Sil.move rfl rfl) ?_
    refine OL_nil ?_
    refine TC_block ?_
    refine TC_loop (fun i : Nat => [(0, .slice a ts.length cap), (1, .slice b ts.length cap'), (12, .int .i64 ts.length), (13, .int .i64 i)]) (fun _ => []) (fun i => i ≤ ts.length) (fun i => ts.length - i) 0 ?_ ?_
    · exact ⟨Nat.zero_le _, ⟨rfl, rfl, rfl, rfl, trivial⟩, List.Sublist.refl _⟩
    · intro i hi
      refine TC_seq ?_
      refine TC_region ?_
      refine OL_sil rfl rfl rfl (Sil.lss rfl rfl rfl) ?_
      refine OL_nil ?_
      refine TC_seq ?_
      refine TC_if rfl (fun ht14 => ?_) (fun ht14 => ?_)
      · obtain ⟨t, ht⟩ := nthSome ht14
        obtain ⟨x, u, rfl, hcx, a1, c1, rfl, hu⟩ := hx.2 i t ht
        obtain ⟨y, u2, rfl, hcy, a2, c2, rfl, hu2⟩ := hy.2 i t ht
        refine TC_skip ?_
        refine TC_seq ?_
        refine TC_block ?_
        refine TC_seq ?_
        refine TC_region ?_
        refine OL_sil rfl rfl rfl (Sil.move rfl rfl) ?_
        refine OL_sil rfl rfl rfl (Sil.assign rfl rfl) ?_
        refine OL_nil ?_
        refine TC_seq ?_
        refine TC_draw rfl (fun j => false) ?_
        refine DL_take 0 rfl (by kernel_rfl) rfl rfl rfl (Sil.move rfl rfl) (fun _ hr => hr) ?_
        refine DL_take 1 rfl (by kernel_rfl) rfl rfl rfl (Sil.move rfl rfl) (fun _ hr => hr) ?_
        refine DL_take 2 rfl (by kernel_rfl) rfl rfl rfl (Sil.indexSl i rfl rfl rfl Try.underlying25 rfl rfl (by omega)) (fun _ hr => hr) ?_
        refine DL_take 3 rfl (by kernel_rfl) rfl rfl rfl (Sil.fieldAdd 0 rfl rfl Try.underlying43 rfl rfl) (fun _ hr => hr) ?_
        refine DL_take 4 rfl (by kernel_rfl) rfl rfl rfl (Sil.oldF 0 rfl (by rw [← add_add]; rfl) hcx Try.underlying3 rfl rfl) (fun _ hr => hr) ?_
        refine DL_take 5 rfl (by kernel_rfl) rfl rfl rfl (Sil.move rfl rfl) (fun _ hr => hr) ?_
        refine DL_take 6 rfl (by kernel_rfl) rfl rfl rfl (Sil.move rfl rfl) (fun _ hr => hr) ?_
        refine DL_take 7 rfl (by kernel_rfl) rfl rfl rfl (Sil.indexSl i rfl rfl rfl Try.underlying25 rfl rfl (by omega)) (fun _ hr => hr) ?_
        refine DL_take 8 rfl (by kernel_rfl) rfl rfl rfl (Sil.fieldAdd 0 rfl rfl Try.underlying43 rfl rfl) (fun _ hr => hr) ?_
        refine DL_take 9 rfl (by kernel_rfl) rfl rfl rfl (Sil.oldF 0 rfl (by rw [← add_add]; rfl) hcy Try.underlying3 rfl rfl) (fun _ hr => hr) ?_
        refine DL_take 10 rfl (by kernel_rfl) rfl rfl rfl (Sil.neq rfl rfl rfl) (fun _ hr => hr) ?_
        refine DL_take 11 rfl (by kernel_rfl) rfl rfl rfl (Sil.move rfl rfl) (fun _ hr => hr) ?_
        refine DL_decn 27 rfl (fun ht27 => ?_) (fun ht27 => ?_)
        · exact absurd rfl ht27
        · refine DL_take 12 rfl (by kernel_rfl) rfl rfl rfl (Sil.move rfl rfl) (fun _ hr => hr) ?_
          refine DL_take 13 rfl (by kernel_rfl) rfl rfl rfl (Sil.move rfl rfl) (fun _ hr => hr) ?_
          refine DL_take 14 rfl (by kernel_rfl) rfl rfl rfl (Sil.indexSl i rfl rfl rfl Try.underlying25 rfl rfl (by omega)) (fun _ hr => hr) ?_
          refine DL_take 15 rfl (by kernel_rfl) rfl rfl rfl (Sil.fieldAdd 1 rfl rfl Try.underlying43 rfl rfl) (fun _ hr => hr) ?_
          refine DL_take 16 rfl (by kernel_rfl) rfl rfl rfl (Sil.oldF 1 rfl (by rw [← add_add]; rfl) hcx Try.underlying3 rfl rfl) (fun _ hr => hr) ?_
          refine DL_take 17 rfl (by kernel_rfl) rfl rfl rfl (Sil.move rfl rfl) (fun _ hr => hr) ?_
          refine DL_take 18 rfl (by kernel_rfl) rfl rfl rfl (Sil.move rfl rfl) (fun _ hr => hr) ?_
          refine DL_take 19 rfl (by kernel_rfl) rfl rfl rfl (Sil.indexSl i rfl rfl rfl Try.underlying25 rfl rfl (by omega)) (fun _ hr => hr) ?_
          refine DL_take 20 rfl (by kernel_rfl) rfl rfl rfl (Sil.fieldAdd 1 rfl rfl Try.underlying43 rfl rfl) (fun _ hr => hr) ?_
          refine DL_take 21 rfl (by kernel_rfl) rfl rfl rfl (Sil.oldF 1 rfl (by rw [← add_add]; rfl) hcy Try.underlying3 rfl rfl) (fun _ hr => hr) ?_
          refine DL_take 22 rfl (by kernel_rfl) rfl rfl rfl (Sil.neq rfl rfl rfl) (fun _ hr => hr) ?_
          refine DL_take 23 rfl (by kernel_rfl) rfl rfl rfl (Sil.pick0 rfl rfl rfl) (fun _ hr => hr) ?_
          refine DL_take 24 rfl (by kernel_rfl) rfl rfl rfl (Sil.move rfl rfl) (fun _ hr => hr) ?_
          refine DL_decn 40 rfl (fun ht40 => ?_) (fun ht40 => ?_)
          · exact absurd rfl ht40
          · refine DL_take 25 rfl (by kernel_rfl) rfl rfl rfl (Sil.move rfl rfl) (fun _ hr => hr) ?_
            refine DL_take 26 rfl (by kernel_rfl) rfl rfl rfl (Sil.move rfl rfl) (fun _ hr => hr) ?_
            refine DL_take 27 rfl (by kernel_rfl) rfl rfl rfl (Sil.indexSl i rfl rfl rfl Try.underlying25 rfl rfl (by omega)) (fun _ hr => hr) ?_
            refine DL_take 28 rfl (by kernel_rfl) rfl rfl rfl (Sil.fieldAdd 2 rfl rfl Try.underlying43 rfl rfl) (fun _ hr => hr) ?_
            refine DL_take 29 rfl (by kernel_rfl) rfl rfl rfl (Sil.oldF 2 rfl (by rw [← add_add]; rfl) hcx Try.underlying41 rfl rfl) (fun _ hr => hr) ?_
            refine DL_take 30 rfl (by kernel_rfl) rfl rfl rfl (Sil.move rfl rfl) (fun _ hr => hr) ?_
            refine DL_take 31 rfl (by kernel_rfl) rfl rfl rfl (Sil.move rfl rfl) (fun _ hr => hr) ?_
            refine DL_take 32 rfl (by kernel_rfl) rfl rfl rfl (Sil.indexSl i rfl rfl rfl Try.underlying25 rfl rfl (by omega)) (fun _ hr => hr) ?_
            refine DL_take 33 rfl (by kernel_rfl) rfl rfl rfl (Sil.fieldAdd 2 rfl rfl Try.underlying43 rfl rfl) (fun _ hr => hr) ?_
            refine DL_take 34 rfl (by kernel_rfl) rfl rfl rfl (Sil.oldF 2 rfl (by rw [← add_add]; rfl) hcy Try.underlying41 rfl rfl) (fun _ hr => hr) ?_
            refine DL_one 35 (by kernel_rfl) ?_
            refine DS_loud rfl rfl rfl rfl (LO.pure rfl ent30 rfl (fun w hw => Same_true t.ops t.ops a1 a2 c1 c2 w (hu.keep hw.keep) (hu2.keep hw.keep) rfl)) ?_
            rintro _ _ ⟨rfl, rfl⟩
            refine ⟨.inr (fun _ hr => hr), ?_⟩
            refine DL_take 36 rfl (by kernel_rfl) rfl rfl rfl (Sil.not rfl rfl) (fun _ hr => hr) ?_
            refine DL_take 37 rfl (by kernel_rfl) rfl rfl rfl (Sil.pick0 rfl rfl rfl) (fun _ hr => hr) ?_
            refine DL_done (by kernel_rfl) ?_
            refine TC_no rfl ?_
            refine TC_skip ?_
            refine TC_region ?_
            refine OL_sil rfl rfl rfl (Sil.add rfl rfl rfl (by omega) (by omega)) ?_
            refine OL_sil rfl rfl rfl (Sil.move rfl rfl) ?_
            refine OL_nil ?_
            exact ⟨i + 1, ⟨by omega, ⟨rfl, rfl, rfl, rfl, trivial⟩, List.Sublist.refl _⟩, by omega⟩
      · refine TC_exit ?_
        refine TC_seq ?_
        refine TC_region ?_
        refine OL_sil rfl rfl rfl (Sil.assign rfl rfl) ?_
        refine OL_nil ?_
        refine TC_ret ?_
        exact ret1 rfl rfl ⟨rfl, rfl⟩
theorem sameEv_true (ts : List RcD) (a b : Option Addr) (cap cap' : Nat) (w0 : World) (hx : RcsAt w0 a ts) (hy : RcsAt w0 b ts) :
    Gives Try.prog 29 [.slice a ts.length cap, .slice b ts.length cap'] w0 [] fun v h => v = .bool true ∧ h = [] := by
  have hm := hx.1
  unfold maxLen at hm
  refine gives_of Try.func29 rfl rfl rfl (Own.start w0) ?_
  refine TC_seq ?_
  refine TC_region ?_
  refine OL_sil rfl rfl rfl (Sil.assign rfl rfl) ?_
  refine OL_nil ?_
  refine TC_seq ?_
  refine TC_seq ?_
  refine TC_region ?_
  refine OL_sil rfl rfl rfl (Sil.move rfl rfl) ?_
  refine OL_sil rfl rfl rfl (Sil.lenSl rfl rfl Try.underlying22) ?_
  refine OL_sil rfl rfl rfl (Sil.move rfl rfl) ?_
  refine OL_sil rfl rfl rfl (Sil.lenSl rfl rfl Try.underlying22) ?_
  refine OL_sil rfl rfl rfl (Sil.neq rfl rfl rfl) ?_
  refine OL_nil ?_
  refine TC_ifn rfl (fun ht10 => ?_) (fun ht10 => ?_)
  · exact absurd rfl ht10
  · refine TC_skip ?_
    refine TC_seq ?_
    refine TC_seq ?_
    refine TC_region ?_
    refine OL_sil rfl rfl rfl (Sil.move rfl rfl) ?_
    refine OL_sil rfl rfl rfl (Sil.lenSl rfl rfl Try.underlying22) ?_
    refine OL_sil rfl rfl rfl (Sil.move rfl rfl) ?_
    refine OL_nil ?_
    refine TC_block ?_
    refine TC_loop (fun i : Nat => [(0, .slice a ts.length cap), (1, .slice b ts.length cap'), (12, .int .i64 ts.length), (13, .int .i64 i)]) (fun _ => []) (fun i => i ≤ ts.length) (fun i => ts.length - i) 0 ?_ ?_
    · exact ⟨Nat.zero_le _, ⟨rfl, rfl, rfl, rfl, trivial⟩, List.Sublist.refl _⟩
    · intro i hi
      refine TC_seq ?_
      refine TC_region ?_
      refine OL_sil rfl rfl rfl (Sil.lss rfl rfl rfl) ?_
      refine OL_nil ?_
      refine TC_seq ?_
      refine TC_if rfl (fun ht14 => ?_) (fun ht14 => ?_)
      · obtain ⟨t, ht⟩ := nthSome ht14
        obtain ⟨x, u, rfl, hcx, a1, c1, rfl, hu⟩ := hx.2 i t ht
        obtain ⟨y, u2, rfl, hcy, a2, c2, rfl, hu2⟩ := hy.2 i t ht
        refine TC_skip ?_
        refine TC_seq ?_
        refine TC_block ?_
        refine TC_seq ?_
        refine TC_region ?_
        refine OL_sil rfl rfl rfl (Sil.move rfl rfl) ?_
        refine OL_sil rfl rfl rfl (Sil.assign rfl rfl) ?_
        refine OL_nil ?_
        refine TC_seq ?_
        refine TC_draw rfl (fun j => false) ?_
        refine DL_take 0 rfl (by kernel_rfl) rfl rfl rfl (Sil.move rfl rfl) (fun _ hr => hr) ?_
        refine DL_take 1 rfl (by kernel_rfl) rfl rfl rfl (Sil.move rfl rfl) (fun _ hr => hr) ?_
        refine DL_take 2 rfl (by kernel_rfl) rfl rfl rfl (Sil.indexSl i rfl rfl rfl Try.underlying22 rfl rfl (by omega)) (fun _ hr => hr) ?_
        refine DL_take 3 rfl (by kernel_rfl) rfl rfl rfl (Sil.fieldAdd 0 rfl rfl Try.underlying58 rfl rfl) (fun _ hr => hr) ?_
        refine DL_take 4 rfl (by kernel_rfl) rfl rfl rfl (Sil.oldF 0 rfl (by rw [← add_add]; rfl) hcx Try.underlying3 rfl rfl) (fun _ hr => hr) ?_
        refine DL_take 5 rfl (by kernel_rfl) rfl rfl rfl (Sil.move rfl rfl) (fun _ hr => hr) ?_
        refine DL_take 6 rfl (by kernel_rfl) rfl rfl rfl (Sil.move rfl rfl) (fun _ hr => hr) ?_
        refine DL_take 7 rfl (by kernel_rfl) rfl rfl rfl (Sil.indexSl i rfl rfl rfl Try.underlying22 rfl rfl (by omega)) (fun _ hr => hr) ?_
        refine DL_take 8 rfl (by kernel_rfl) rfl rfl rfl (Sil.fieldAdd 0 rfl rfl Try.underlying58 rfl rfl) (fun _ hr => hr) ?_
        refine DL_take 9 rfl (by kernel_rfl) rfl rfl rfl (Sil.oldF 0 rfl (by rw [← add_add]; rfl) hcy Try.underlying3 rfl rfl) (fun _ hr => hr) ?_
        refine DL_take 10 rfl (by kernel_rfl) rfl rfl rfl (Sil.neq rfl rfl rfl) (fun _ hr => hr) ?_
        refine DL_take 11 rfl (by kernel_rfl) rfl rfl rfl (Sil.move rfl rfl) (fun _ hr => hr) ?_
        refine DL_decn 27 rfl (fun ht27 => ?_) (fun ht27 => ?_)
        · exact absurd rfl ht27
        · refine DL_take 12 rfl (by kernel_rfl) rfl rfl rfl (Sil.move rfl rfl) (fun _ hr => hr) ?_
          refine DL_take 13 rfl (by kernel_rfl) rfl rfl rfl (Sil.move rfl rfl) (fun _ hr => hr) ?_
          refine DL_take 14 rfl (by kernel_rfl) rfl rfl rfl (Sil.indexSl i rfl rfl rfl Try.underlying22 rfl rfl (by omega)) (fun _ hr => hr) ?_
          refine DL_take 15 rfl (by kernel_rfl) rfl rfl rfl (Sil.fieldAdd 1 rfl rfl Try.underlying58 rfl rfl) (fun _ hr => hr) ?_
          refine DL_take 16 rfl (by kernel_rfl) rfl rfl rfl (Sil.oldF 1 rfl (by rw [← add_add]; rfl) hcx Try.underlying3 rfl rfl) (fun _ hr => hr) ?_
          refine DL_take 17 rfl (by kernel_rfl) rfl rfl rfl (Sil.move rfl rfl) (fun _ hr => hr) ?_
          refine DL_take 18 rfl (by kernel_rfl) rfl rfl rfl (Sil.move rfl rfl) (fun _ hr => hr) ?_
          refine DL_take 19 rfl (by kernel_rfl) rfl rfl rfl (Sil.indexSl i rfl rfl rfl Try.underlying22 rfl rfl (by omega)) (fun _ hr => hr) ?_
          refine DL_take 20 rfl (by kernel_rfl) rfl rfl rfl (Sil.fieldAdd 1 rfl rfl Try.underlying58 rfl rfl) (fun _ hr => hr) ?_
          refine DL_take 21 rfl (by kernel_rfl) rfl rfl rfl (Sil.oldF 1 rfl (by rw [← add_add]; rfl) hcy Try.underlying3 rfl rfl) (fun _ hr => hr) ?_
          refine DL_take 22 rfl (by kernel_rfl) rfl rfl rfl (Sil.neq rfl rfl rfl) (fun _ hr => hr) ?_
          refine DL_take 23 rfl (by kernel_rfl) rfl rfl rfl (Sil.pick0 rfl rfl rfl) (fun _ hr => hr) ?_
          refine DL_take 24 rfl (by kernel_rfl) rfl rfl rfl (Sil.move rfl rfl) (fun _ hr => hr) ?_
          refine DL_decn 40 rfl (fun ht40 => ?_) (fun ht40 => ?_)
          · exact absurd rfl ht40
          · refine DL_take 25 rfl (by kernel_rfl) rfl rfl rfl (Sil.move rfl rfl) (fun _ hr => hr) ?_
            refine DL_take 26 rfl (by kernel_rfl) rfl rfl rfl (Sil.move rfl rfl) (fun _ hr => hr) ?_
            refine DL_take 27 rfl (by kernel_rfl) rfl rfl rfl (Sil.indexSl i rfl rfl rfl Try.underlying22 rfl rfl (by omega)) (fun _ hr => hr) ?_
            refine DL_take 28 rfl (by kernel_rfl) rfl rfl rfl (Sil.fieldAdd 2 rfl rfl Try.underlying58 rfl rfl) (fun _ hr => hr) ?_
            refine DL_take 29 rfl (by kernel_rfl) rfl rfl rfl (Sil.oldF 2 rfl (by rw [← add_add]; rfl) hcx Try.underlying41 rfl rfl) (fun _ hr => hr) ?_
            refine DL_take 30 rfl (by kernel_rfl) rfl rfl rfl (Sil.move rfl rfl) (fun _ hr => hr) ?_
            refine DL_take 31 rfl (by kernel_rfl) rfl rfl rfl (Sil.move rfl rfl) (fun _ hr => hr) ?_
            refine DL_take 32 rfl (by kernel_rfl) rfl rfl rfl (Sil.indexSl i rfl rfl rfl Try.underlying22 rfl rfl (by omega)) (fun _ hr => hr) ?_
            refine DL_take 33 rfl (by kernel_rfl) rfl rfl rfl (Sil.fieldAdd 2 rfl rfl Try.underlying58 rfl rfl) (fun _ hr => hr) ?_
            refine DL_take 34 rfl (by kernel_rfl) rfl rfl rfl (Sil.oldF 2 rfl (by rw [← add_add]; rfl) hcy Try.underlying41 rfl rfl) (fun _ hr => hr) ?_
            refine DL_one 35 (by kernel_rfl) ?_
            refine DS_loud rfl rfl rfl rfl (LO.pure rfl ent30 rfl (fun w hw => Same_true t.ops t.ops a1 a2 c1 c2 w (hu.keep hw.keep) (hu2.keep hw.keep) rfl)) ?_
            rintro _ _ ⟨rfl, rfl⟩
            refine ⟨.inr (fun _ hr => hr), ?_⟩
            refine DL_take 36 rfl (by kernel_rfl) rfl rfl rfl (Sil.not rfl rfl) (fun _ hr => hr) ?_
            refine DL_take 37 rfl (by kernel_rfl) rfl rfl rfl (Sil.pick0 rfl rfl rfl) (fun _ hr => hr) ?_
            refine DL_done (by kernel_rfl) ?_
            refine TC_no rfl ?_
            refine TC_skip ?_
            refine TC_region ?_
            refine OL_sil rfl rfl rfl (Sil.add rfl rfl rfl (by omega) (by omega)) ?_
            refine OL_sil rfl rfl rfl (Sil.move rfl rfl) ?_
            refine OL_nil ?_
            exact ⟨i + 1, ⟨by omega, ⟨rfl, rfl, rfl, rfl, trivial⟩, List.Sublist.refl _⟩, by omega⟩
      · refine TC_exit ?_
        refine TC_seq ?_
        refine TC_region ?_
        refine OL_sil rfl rfl rfl (Sil.assign rfl rfl) ?_
        refine OL_nil ?_
        refine TC_ret ?_
        exact ret1 rfl rfl ⟨rfl, rfl⟩

theorem big5_gives (es : List RcD) (a : Option Addr) (cap : Nat) (w0 : World) (hx : RcsAt w0 a es) :
    Gives Try.prog 25 [.slice a es.length cap] w0 [] fun v h => ∃ b : Bool, v = .bool b ∧ (b = false → es.length ≤ 500 ∧ ∀ e ∈ es, e.ops.length ≤ 30) ∧ h = [] := by
  refine gives_of Try.func25 rfl rfl rfl (Own.start w0) ?_
  refine TC_seq ?_
  refine TC_region ?_
  refine OL_sil rfl rfl rfl (Sil.assign rfl rfl) ?_
  refine OL_nil ?_
  refine TC_seq ?_
  refine TC_seq ?_
  refine TC_region ?_
  refine OL_sil rfl rfl rfl (Sil.move rfl rfl) ?_
  refine OL_sil rfl rfl rfl (Sil.lenSl rfl rfl Try.underlying22) ?_
  refine OL_sil rfl rfl rfl (Sil.gtr rfl rfl rfl) ?_
  refine OL_nil ?_
  refine TC_if rfl (fun ht7 => ?_) (fun ht7 => ?_)
  · refine TC_seq ?_
    refine TC_region ?_
    refine OL_sil rfl rfl rfl (Sil.assign rfl rfl) ?_
    refine OL_nil ?_
    refine TC_ret ?_
    exact ret1 rfl rfl ⟨true, rfl, (fun h => by cases h), rfl⟩
  · refine TC_skip ?_
    refine TC_seq ?_
    refine TC_seq ?_
    refine TC_region ?_
    refine OL_sil rfl rfl rfl (Sil.move rfl rfl) ?_
    refine OL_sil rfl rfl rfl (Sil.lenSl rfl rfl Try.underlying22) ?_
    refine OL_sil rfl rfl rfl (Sil.move rfl rfl) ?_
    refine OL_nil ?_
    refine TC_block ?_
    refine TC_loop (fun i : Nat => [(8, .slice a es.length cap), (9, .int .i64 es.length), (10, .int .i64 i)]) (fun _ => []) (fun i => i ≤ es.length ∧ ∀ j e, j < i → es[j]? = some e → e.ops.length ≤ 30) (fun i => es.length - i) 0 ?_ ?_
    · exact ⟨⟨Nat.zero_le _, fun j e h => absurd h (by omega)⟩, ⟨rfl, rfl, rfl, trivial⟩, List.Sublist.refl _⟩
    · intro i hi
      refine TC_seq ?_
      refine TC_region ?_
      refine OL_sil rfl rfl rfl (Sil.lss rfl rfl rfl) ?_
      refine OL_nil ?_
      refine TC_seq ?_
      refine TC_if rfl (fun ht11 => ?_) (fun ht11 => ?_)
      · obtain ⟨e, he⟩ := nthSome ht11
        obtain ⟨x, u, rfl, hcx, a1, c1, rfl, hu⟩ := hx.2 i e he
        refine TC_skip ?_
        refine TC_seq ?_
        refine TC_block ?_
        refine TC_seq ?_
        refine TC_region ?_
        refine OL_sil rfl rfl rfl (Sil.indexSl i rfl rfl rfl Try.underlying22 rfl rfl (by omega)) ?_
        refine OL_sil rfl rfl rfl (Sil.oldS rfl rfl hcx Try.underlying58 rfl rfl rfl) ?_
        refine OL_loud rfl rfl rfl (LO.alloc rfl rfl) ?_
        rintro _ _ ⟨b4, _, rfl, rfl⟩
        refine OL_loud0 rfl rfl (by first | exact LO.storeAllV rfl rfl rfl (by first | exact at0 | exact at1 | exact at2 | exact at3 | exact at4 | exact at5 | exact at6 | exact at7 | exact at8 | exact at9 | exact at10 | exact at11 | exact at12 | exact at13 | exact at14 | exact at15) (by rfl) (by rfl) (by rfl) (by rfl) | exact LO.store1V rfl rfl rfl (by first | exact at0 | exact at1 | exact at2 | exact at3 | exact at4 | exact at5 | exact at6 | exact at7 | exact at8 | exact at9 | exact at10 | exact at11 | exact at12 | exact at13 | exact at14 | exact at15) (by rfl) (by rfl) (by rfl)) ?_
        rintro _ _ ⟨rfl, rfl⟩
        refine OL_nil ?_
        refine TC_seq ?_
        refine TC_region ?_
        refine OL_sil rfl rfl rfl (Sil.fieldLoc 2 rfl rfl Try.underlying58 rfl rfl) ?_
        refine OL_sil rfl rfl rfl (by exact Sil.ownV rfl rfl (by first | exact at0 | exact at1 | exact at2 | exact at3 | exact at4 | exact at5 | exact at6 | exact at7 | exact at8 | exact at9 | exact at10 | exact at11 | exact at12 | exact at13 | exact at14 | exact at15) Try.underlying41 rfl (by rfl)) ?_
        refine OL_sil rfl rfl rfl (Sil.lenSl rfl rfl Try.underlying41) ?_
        refine OL_sil rfl rfl rfl (Sil.gtr rfl rfl rfl) ?_
        refine OL_nil ?_
        refine TC_if rfl (fun ht17 => ?_) (fun ht17 => ?_)
        · refine TC_seq ?_
          refine TC_region ?_
          refine OL_sil rfl rfl rfl (Sil.assign rfl rfl) ?_
          refine OL_nil ?_
          refine TC_ret ?_
          exact ret1 rfl rfl ⟨true, rfl, (fun h => by cases h), rfl⟩
        · refine TC_skip ?_
          refine TC_region ?_
          refine OL_sil rfl rfl rfl (Sil.add rfl rfl rfl (by omega) (by omega)) ?_
          refine OL_sil rfl rfl rfl (Sil.move rfl rfl) ?_
          refine OL_nil ?_
          exact ⟨i + 1, ⟨⟨by omega, fun j e' hj he' => by
            by_cases e2 : j = i
            · subst e2; rw [he] at he'; cases he'; omega
            · exact hi.2 j e' (by omega) he'⟩, ⟨rfl, rfl, rfl, trivial⟩, List.nil_sublist _⟩, by omega⟩
      · have hall : ∀ e ∈ es, e.ops.length ≤ 30 := fun e he => by obtain ⟨j, hj⟩ := List.mem_iff_getElem?.1 he; exact hi.2 j e (by have := ltOf hj; omega) hj
        refine TC_exit ?_
        refine TC_seq ?_
        refine TC_region ?_
        refine OL_sil rfl rfl rfl (Sil.assign rfl rfl) ?_
        refine OL_nil ?_
        refine TC_ret ?_
        exact ret1 rfl rfl ⟨false, rfl, (fun _ => ⟨by omega, hall⟩), rfl⟩

/-! ### the document's example -/
def exO1 : List OpD := [⟨1, 0, 0⟩, ⟨2, 0, 5⟩]
def exO2 : List OpD := [⟨1, 0, 7⟩, ⟨2, 0, 5⟩]
def exE : List RcD := [⟨1, 1, exO1⟩, ⟨2, 1, exO2⟩]
theorem ex_ok : errC exE = 0 := by decide +kernel
theorem ex_txs : (txsM exE exE.length).map (·.1) = [⟨1, 1, exO2⟩] := by decide +kernel
theorem OfR.ok {es : List RcD} {v : Value} {h : Mem} (h0 : errC es = 0) (hR : OfR es v h) : ∃ ao cap xs rs, v = .tuple #[.slice ao xs.length cap, .int .i64 0, .int .i64 0] ∧ xs.map (·.1) = (txsM es es.length).map (·.1) ∧ h = [sq ao xs.length cap 43 3 (rvsC xs), bagR rs] ∧ ∀ x ∈ xs, Lies 40 rs x := by
  rcases hR with ⟨h1, _⟩ | ⟨_, h2⟩
  · exact absurd h0 h1
  · exact h2
theorem OfR.bad {es : List RcD} {v : Value} {h : Mem} (h0 : errC es ≠ 0) (hR : OfR es v h) : v = .tuple #[.slice none 0 0, .int .i64 (plc es), .int .i64 (errC es)] ∧ h = [] := by
  rcases hR with ⟨_, h1⟩ | ⟨h1, _⟩
  · exact h1
  · exact absurd h1 h0
theorem head5_gives (w0 : World) : Gives Try.prog 24 [] w0 [] fun v h => v = .bool true ∧ h = [] := by
  refine gives_of Try.func24 rfl rfl rfl (Own.start w0) ?_
  refine TC_seq ?_
  refine TC_region ?_
  refine OL_sil rfl rfl rfl (Sil.assign rfl rfl) ?_
  refine OL_nil ?_
  refine TC_seq ?_
  refine TC_region ?_
  refine OL_sil rfl rfl rfl (Sil.buildS (vs := [(0, .int .i64 1)]) (cs := #[.int .i64 1, .int .i64 0, .int .i64 0]) (ss := [1, 1, 1]) rfl rfl Try.underlying40 rfl rfl rfl) ?_
  refine OL_sil rfl rfl rfl (Sil.buildS (vs := [(0, .int .i64 2), (2, .int .i64 5)]) (cs := #[.int .i64 2, .int .i64 0, .int .i64 5]) (ss := [1, 1, 1]) rfl rfl Try.underlying40 rfl rfl rfl) ?_
  refine OL_loud rfl rfl rfl (LO.buildSlice (vs := [(0, .agg #[.int .i64 1, .int .i64 0, .int .i64 0]), (1, .agg #[.int .i64 2, .int .i64 0, .int .i64 5])]) (cs := (opsC exO1).toArray) (e := 40) rfl rfl (fun w => by kernel_rfl)) ?_
  rintro _ _ ⟨q1, rfl, rfl⟩
  refine OL_sil rfl rfl rfl (Sil.buildAll [(0, _), (1, _), (2, _)] rfl rfl Try.underlying58 rfl rfl rfl) ?_
  refine OL_sil rfl rfl rfl (Sil.buildS (vs := [(0, .int .i64 1), (2, .int .i64 7)]) (cs := #[.int .i64 1, .int .i64 0, .int .i64 7]) (ss := [1, 1, 1]) rfl rfl Try.underlying40 rfl rfl rfl) ?_
  refine OL_sil rfl rfl rfl (Sil.buildS (vs := [(0, .int .i64 2), (2, .int .i64 5)]) (cs := #[.int .i64 2, .int .i64 0, .int .i64 5]) (ss := [1, 1, 1]) rfl rfl Try.underlying40 rfl rfl rfl) ?_
  refine OL_loud rfl rfl rfl (LO.buildSlice (vs := [(0, .agg #[.int .i64 1, .int .i64 0, .int .i64 7]), (1, .agg #[.int .i64 2, .int .i64 0, .int .i64 5])]) (cs := (opsC exO2).toArray) (e := 40) rfl rfl (fun w => by kernel_rfl)) ?_
  rintro _ _ ⟨q2, rfl, rfl⟩
  refine OL_sil rfl rfl rfl (Sil.buildAll [(0, _), (1, _), (2, _)] rfl rfl Try.underlying58 rfl rfl rfl) ?_
  refine OL_loud rfl rfl rfl (LO.buildSlice (vs := [(0, .agg #[.int .i64 1, .int .i64 1, .slice (some ⟨q1, 0, none⟩) 2 2]), (1, .agg #[.int .i64 2, .int .i64 1, .slice (some ⟨q2, 0, none⟩) 2 2])]) (cs := (rvsC [(⟨1, 1, exO1⟩, .slice (some ⟨q1, 0, none⟩) 2 2), (⟨2, 1, exO2⟩, .slice (some ⟨q2, 0, none⟩) 2 2)]).toArray) (e := 58) rfl rfl (fun w => by kernel_rfl)) ?_
  rintro _ _ ⟨q3, rfl, rfl⟩
  refine OL_loud rfl rfl rfl (LO.calls rfl ent27 rfl (fun w hw => (histOf_gives exE (some ⟨q3, 0, none⟩) 2 w (RcsAt.of_blk (hw.mine _ (List.mem_of_getElem? (i := 2) rfl)) (show 2 ≤ maxLen by decide) (fun x hx => by
      rcases List.mem_cons.1 hx with rfl | hx
      · exact ⟨_, _, rfl, OpsAt.of_blk (hw.mine _ (List.mem_of_getElem? (i := 0) rfl)) (show 2 ≤ maxLen by decide)⟩
      · rw [List.mem_singleton.1 hx]; exact ⟨_, _, rfl, OpsAt.of_blk (hw.mine _ (List.mem_of_getElem? (i := 1) rfl)) (show 2 ≤ maxLen by decide)⟩))).mono (fun v h hR => hR.ok ex_ok))) ?_
  rintro _ _ ⟨_, ⟨ao, cap, xs, rs, rfl, hxs, rfl, hli⟩, rfl⟩
  refine OL_sil rfl rfl rfl (Sil.move rfl rfl) ?_
  refine OL_sil rfl rfl rfl (Sil.extract rfl rfl rfl) ?_
  refine OL_sil rfl rfl rfl (Sil.extract rfl rfl rfl) ?_
  refine OL_sil rfl rfl rfl (Sil.extract rfl rfl rfl) ?_
  refine OL_sil rfl rfl rfl (Sil.assign rfl rfl) ?_
  refine OL_sil rfl rfl rfl (Sil.assign rfl rfl) ?_
  refine OL_sil rfl rfl rfl (Sil.assign rfl rfl) ?_
  refine OL_nil ?_
  rw [ex_txs] at hxs
  obtain ⟨x, rfl⟩ : ∃ x, xs = [x] := by
    cases xs with
    | nil => cases hxs
    | cons x xs => cases xs with
      | nil => exact ⟨x, rfl⟩
      | cons _ _ => simp at hxs
  obtain ⟨x1, u⟩ := x
  have hx1 : x1 = ⟨1, 1, exO2⟩ := by simpa using hxs
  subst hx1
  obtain ⟨g9, c9, hu9, hm9⟩ := (hli _ (List.mem_singleton.2 rfl)).resolve_left (fun h => by cases h.1)
  have hu9 : u = .slice (some ⟨g9, 0, none⟩) 2 c9 := hu9
  subst hu9
  refine TC_know (fun w hw => hw.sqSome (i := 3) rfl (show 0 < 1 by decide)) (fun hsome => ?_)
  obtain ⟨g5, rfl⟩ := hsome
  refine TC_seq ?_
  refine TC_region ?_
  refine OL_sil rfl rfl rfl (Sil.move rfl rfl) ?_
  refine OL_sil rfl rfl rfl (Sil.eql rfl rfl rfl) ?_
  refine OL_sil rfl rfl rfl (Sil.move rfl rfl) ?_
  refine OL_dec 20 rfl (fun ht20 => ?_) (fun ht20 => ?_)
  · refine OL_sil rfl rfl rfl (Sil.move rfl rfl) ?_
    refine OL_sil rfl rfl rfl (Sil.lenSl rfl rfl Try.underlying25) ?_
    refine OL_sil rfl rfl rfl (Sil.eql rfl rfl rfl) ?_
    refine OL_sil rfl rfl rfl (Sil.pick1 rfl rfl rfl) ?_
    refine OL_sil rfl rfl rfl (Sil.move rfl rfl) ?_
    refine OL_dec 25 rfl (fun ht25 => ?_) (fun ht25 => ?_)
    · refine OL_sil rfl rfl rfl (Sil.move rfl rfl) ?_
      refine OL_sil rfl rfl rfl (Sil.indexOwn 0 rfl rfl rfl Try.underlying25 rfl rfl (show 0 < 1 by decide)) ?_
      refine OL_sil rfl rfl rfl (Sil.fieldLoc 1 rfl rfl Try.underlying43 rfl rfl) ?_
      refine OL_sil rfl rfl rfl (Sil.sqLoad 3 rfl rfl rfl Try.underlying3 rfl (rvsC_at (j := 0) rfl 1 _ rfl)) ?_
      refine OL_sil rfl rfl rfl (Sil.eql rfl rfl rfl) ?_
      refine OL_sil rfl rfl rfl (Sil.pick1 rfl rfl rfl) ?_
      refine OL_sil rfl rfl rfl (Sil.move rfl rfl) ?_
      refine OL_dec 32 rfl (fun ht32 => ?_) (fun ht32 => ?_)
      · refine OL_sil rfl rfl rfl (Sil.move rfl rfl) ?_
        refine OL_sil rfl rfl rfl (Sil.indexOwn 0 rfl rfl rfl Try.underlying25 rfl rfl (show 0 < 1 by decide)) ?_
        refine OL_sil rfl rfl rfl (Sil.fieldLoc 2 rfl rfl Try.underlying43 rfl rfl) ?_
        refine OL_sil rfl rfl rfl (Sil.sqLoad 3 rfl rfl rfl Try.underlying41 rfl (rvsC_at (j := 0) rfl 2 _ rfl)) ?_
        refine OL_sil rfl rfl rfl (Sil.lenSl rfl rfl Try.underlying41) ?_
        refine OL_sil rfl rfl rfl (Sil.eql rfl rfl rfl) ?_
        refine OL_sil rfl rfl rfl (Sil.pick1 rfl rfl rfl) ?_
        refine OL_sil rfl rfl rfl (Sil.move rfl rfl) ?_
        refine OL_dec 40 rfl (fun ht40 => ?_) (fun ht40 => ?_)
        · refine OL_sil rfl rfl rfl (Sil.move rfl rfl) ?_
          refine OL_sil rfl rfl rfl (Sil.indexOwn 0 rfl rfl rfl Try.underlying25 rfl rfl (show 0 < 1 by decide)) ?_
          refine OL_sil rfl rfl rfl (Sil.fieldLoc 2 rfl rfl Try.underlying43 rfl rfl) ?_
          refine OL_sil rfl rfl rfl (Sil.sqLoad 3 rfl rfl rfl Try.underlying41 rfl (rvsC_at (j := 0) rfl 2 _ rfl)) ?_
          refine OL_sil rfl rfl rfl (Sil.indexOwn 0 rfl rfl rfl Try.underlying41 rfl rfl (by decide)) ?_
          refine OL_sil rfl rfl rfl (Sil.fieldLoc 2 rfl rfl Try.underlying40 rfl rfl) ?_
          refine OL_sil rfl rfl rfl (Sil.bagLoad 4 hm9 rfl rfl rfl Try.underlying3 rfl rfl) ?_
          refine OL_sil rfl rfl rfl (Sil.eql rfl rfl rfl) ?_
          refine OL_sil rfl rfl rfl (Sil.pick1 rfl rfl rfl) ?_
          refine OL_sil rfl rfl rfl (Sil.assign rfl rfl) ?_
          refine OL_nil ?_
          refine TC_ret ?_
          exact ret1 rfl rfl ⟨congrArg Value.bool (decide_eq_true rfl), rfl⟩
        · exact absurd rfl ht40
      · exact absurd rfl ht32
    · exact absurd rfl ht25
  · exact absurd rfl ht20

theorem HistReads_ok (es : List RcD) (a : Option Addr) (cap : Nat) (w0 : World) (hx : RcsAt w0 a es) (h0 : errC es = 0) :
    Gives Try.prog 8 [.slice a es.length cap] w0 [] fun v h => v = .bool true ∧ h = [] := by
  refine gives_of Try.func8 rfl rfl rfl (Own.start w0) ?_
  refine TC_seq ?_
  refine TC_region ?_
  refine OL_sil rfl rfl rfl (Sil.assign rfl rfl) ?_
  refine OL_nil ?_
  refine TC_seq ?_
  refine TC_seq ?_
  refine TC_region ?_
  refine OL_pure rfl rfl rfl (LO.pure rfl ent24 rfl (fun w _ => head5_gives w)) ?_
  refine OL_sil rfl rfl rfl (Sil.not rfl rfl) ?_
  refine OL_nil ?_
  refine TC_no rfl ?_
  refine TC_skip ?_
  refine TC_seq ?_
  refine TC_seq ?_
  refine TC_region ?_
  refine OL_sil rfl rfl rfl (Sil.move rfl rfl) ?_
  refine OL_loud rfl rfl rfl (LO.calls rfl ent25 rfl (fun w hw => big5_gives es a cap w (hx.keep hw.keep))) ?_
  rintro _ _ ⟨_, ⟨bb, rfl, hbig, rfl⟩, rfl⟩
  refine OL_nil ?_
  refine TC_cond rfl (fun ht13 => ?_) (fun ht13 => ?_)
  · refine TC_seq ?_
    refine TC_region ?_
    refine OL_sil rfl rfl rfl (Sil.assign rfl rfl) ?_
    refine OL_nil ?_
    refine TC_ret ?_
    exact ret1 rfl rfl ⟨rfl, rfl⟩
  · obtain ⟨hb1, hb2⟩ := hbig ht13
    refine TC_skip ?_
    refine TC_seq ?_
    refine TC_region ?_
    refine OL_sil rfl rfl rfl (Sil.move rfl rfl) ?_
    refine OL_loud rfl rfl rfl (LO.calls rfl ent26 rfl (fun w hw => Copy_gives es a cap w (hx.keep hw.keep) (by omega) (fun e he => by have := hb2 e he; omega))) ?_
    rintro _ _ ⟨_, ⟨am, cm, xm, rm, rfl, hxm, rfl, hlm⟩, rfl⟩
    refine OL_sil rfl rfl rfl (Sil.assign rfl rfl) ?_
    refine OL_nil ?_
    have hml : xm.length = es.length := by rw [← hxm]; simp
    refine TC_slot 3 (v := .slice am es.length cm) rfl (by rw [hml]) ?_
    refine TC_seq ?_
    refine TC_region ?_
    refine OL_sil rfl rfl rfl (Sil.move rfl rfl) ?_
    refine OL_loud rfl rfl rfl (LO.calls rfl ent27 rfl (fun w hw => (histOf_gives es am cm w (hxm ▸ RcsAt.of_sq (hw.mine _ (List.mem_of_getElem? (i := 0) rfl)) (hw.mine _ (List.mem_of_getElem? (i := 1) rfl)) hlm)).mono (fun v h hR => hR.ok h0))) ?_
    rintro _ _ ⟨_, ⟨a1, c1, x1, r1, rfl, hx1, rfl, hl1⟩, rfl⟩
    refine OL_sil rfl rfl rfl (Sil.move rfl rfl) ?_
    refine OL_sil rfl rfl rfl (Sil.extract rfl rfl rfl) ?_
    refine OL_sil rfl rfl rfl (Sil.extract rfl rfl rfl) ?_
    refine OL_sil rfl rfl rfl (Sil.extract rfl rfl rfl) ?_
    refine OL_sil rfl rfl rfl (Sil.assign rfl rfl) ?_
    refine OL_sil rfl rfl rfl (Sil.assign rfl rfl) ?_
    refine OL_sil rfl rfl rfl (Sil.assign rfl rfl) ?_
    refine OL_nil ?_
    refine TC_seq ?_
    refine TC_region ?_
    refine OL_sil rfl rfl rfl (Sil.move rfl rfl) ?_
    refine OL_loud rfl rfl rfl (LO.calls rfl ent17 rfl (fun w hw => (refOf_gives es a cap w (hx.keep hw.keep)).mono (fun v h hR => hR.ok h0))) ?_
    rintro _ _ ⟨_, ⟨a2, c2, x2, r2, rfl, hx2, rfl, hl2⟩, rfl⟩
    refine OL_sil rfl rfl rfl (Sil.move rfl rfl) ?_
    refine OL_sil rfl rfl rfl (Sil.extract rfl rfl rfl) ?_
    refine OL_sil rfl rfl rfl (Sil.extract rfl rfl rfl) ?_
    refine OL_sil rfl rfl rfl (Sil.extract rfl rfl rfl) ?_
    refine OL_sil rfl rfl rfl (Sil.assign rfl rfl) ?_
    refine OL_sil rfl rfl rfl (Sil.assign rfl rfl) ?_
    refine OL_sil rfl rfl rfl (Sil.assign rfl rfl) ?_
    refine OL_nil ?_
    obtain ⟨T, hT⟩ : ∃ T, T = (txsM es es.length).map (·.1) := ⟨_, rfl⟩
    rw [← hT] at hx1 hx2
    have hn1 : x1.length = T.length := by rw [← hx1]; simp
    have hn2 : x2.length = T.length := by rw [← hx2]; simp
    refine TC_slot 4 (v := .slice a1 T.length c1) rfl (by rw [← hn1]) ?_
    refine TC_slot 7 (v := .slice a2 T.length c2) rfl (by rw [← hn2]) ?_
    refine TC_seq ?_
    refine TC_region ?_
    refine OL_sil rfl rfl rfl (Sil.move rfl rfl) ?_
    refine OL_sil rfl rfl rfl (Sil.move rfl rfl) ?_
    refine OL_pure rfl rfl rfl (LO.pure rfl ent28 rfl (fun w hw => sameTx_true T a1 a2 c1 c2 w (hx1 ▸ RcsAt.of_sq (hw.mine _ (List.mem_of_getElem? (i := 2) rfl)) (hw.mine _ (List.mem_of_getElem? (i := 3) rfl)) hl1) (hx2 ▸ RcsAt.of_sq (hw.mine _ (List.mem_of_getElem? (i := 4) rfl)) (hw.mine _ (List.mem_of_getElem? (i := 5) rfl)) hl2))) ?_
    refine OL_sil rfl rfl rfl (Sil.move rfl rfl) ?_
    refine OL_sil rfl rfl rfl (Sil.move rfl rfl) ?_
    refine OL_sil rfl rfl rfl (Sil.move rfl rfl) ?_
    refine OL_sil rfl rfl rfl (Sil.eql rfl rfl rfl) ?_
    refine OL_sil rfl rfl rfl (Sil.pick1 rfl rfl rfl) ?_
    refine OL_sil rfl rfl rfl (Sil.move rfl rfl) ?_
    refine OL_dec 36 rfl (fun ht36 => ?_) (fun ht36 => ?_)
    · refine OL_sil rfl rfl rfl (Sil.move rfl rfl) ?_
      refine OL_sil rfl rfl rfl (Sil.move rfl rfl) ?_
      refine OL_sil rfl rfl rfl (Sil.eql rfl rfl rfl) ?_
      refine OL_sil rfl rfl rfl (Sil.pick1 rfl rfl rfl) ?_
      refine OL_sil rfl rfl rfl (Sil.move rfl rfl) ?_
      refine OL_dec 41 rfl (fun ht41 => ?_) (fun ht41 => ?_)
      · refine OL_sil rfl rfl rfl (Sil.move rfl rfl) ?_
        refine OL_sil rfl rfl rfl (Sil.move rfl rfl) ?_
        refine OL_pure rfl rfl rfl (LO.pure rfl ent29 rfl (fun w hw => sameEv_true es am a cm cap w (hxm ▸ RcsAt.of_sq (hw.mine _ (List.mem_of_getElem? (i := 0) rfl)) (hw.mine _ (List.mem_of_getElem? (i := 1) rfl)) hlm) (hx.keep hw.keep))) ?_
        refine OL_sil rfl rfl rfl (Sil.pick1 rfl rfl rfl) ?_
        refine OL_sil rfl rfl rfl (Sil.assign rfl rfl) ?_
        refine OL_nil ?_
        refine TC_ret ?_
        exact ret1 rfl rfl ⟨rfl, rfl⟩
      · exact absurd rfl ht41
    · exact absurd rfl ht36
theorem HistReads_bad (es : List RcD) (a : Option Addr) (cap : Nat) (w0 : World) (hx : RcsAt w0 a es) (h0 : errC es ≠ 0) :
    Gives Try.prog 8 [.slice a es.length cap] w0 [] fun v h => v = .bool true ∧ h = [] := by
  refine gives_of Try.func8 rfl rfl rfl (Own.start w0) ?_
  refine TC_seq ?_
  refine TC_region ?_
  refine OL_sil rfl rfl rfl (Sil.assign rfl rfl) ?_
  refine OL_nil ?_
  refine TC_seq ?_
  refine TC_seq ?_
  refine TC_region ?_
  refine OL_pure rfl rfl rfl (LO.pure rfl ent24 rfl (fun w _ => head5_gives w)) ?_
  refine OL_sil rfl rfl rfl (Sil.not rfl rfl) ?_
  refine OL_nil ?_
  refine TC_no rfl ?_
  refine TC_skip ?_
  refine TC_seq ?_
  refine TC_seq ?_
  refine TC_region ?_
  refine OL_sil rfl rfl rfl (Sil.move rfl rfl) ?_
  refine OL_loud rfl rfl rfl (LO.calls rfl ent25 rfl (fun w hw => big5_gives es a cap w (hx.keep hw.keep))) ?_
  rintro _ _ ⟨_, ⟨bb, rfl, hbig, rfl⟩, rfl⟩
  refine OL_nil ?_
  refine TC_cond rfl (fun ht13 => ?_) (fun ht13 => ?_)
  · refine TC_seq ?_
    refine TC_region ?_
    refine OL_sil rfl rfl rfl (Sil.assign rfl rfl) ?_
    refine OL_nil ?_
    refine TC_ret ?_
    exact ret1 rfl rfl ⟨rfl, rfl⟩
  · obtain ⟨hb1, hb2⟩ := hbig ht13
    refine TC_skip ?_
    refine TC_seq ?_
    refine TC_region ?_
    refine OL_sil rfl rfl rfl (Sil.move rfl rfl) ?_
    refine OL_loud rfl rfl rfl (LO.calls rfl ent26 rfl (fun w hw => Copy_gives es a cap w (hx.keep hw.keep) (by omega) (fun e he => by have := hb2 e he; omega))) ?_
    rintro _ _ ⟨_, ⟨am, cm, xm, rm, rfl, hxm, rfl, hlm⟩, rfl⟩
    refine OL_sil rfl rfl rfl (Sil.assign rfl rfl) ?_
    refine OL_nil ?_
    have hml : xm.length = es.length := by rw [← hxm]; simp
    refine TC_slot 3 (v := .slice am es.length cm) rfl (by rw [hml]) ?_
    refine TC_seq ?_
    refine TC_region ?_
    refine OL_sil rfl rfl rfl (Sil.move rfl rfl) ?_
    refine OL_loud rfl rfl rfl (LO.calls rfl ent27 rfl (fun w hw => (histOf_gives es am cm w (hxm ▸ RcsAt.of_sq (hw.mine _ (List.mem_of_getElem? (i := 0) rfl)) (hw.mine _ (List.mem_of_getElem? (i := 1) rfl)) hlm)).mono (fun v h hR => hR.bad h0))) ?_
    rintro _ _ ⟨_, ⟨rfl, rfl⟩, rfl⟩
    refine OL_sil rfl rfl rfl (Sil.move rfl rfl) ?_
    refine OL_sil rfl rfl rfl (Sil.extract rfl rfl rfl) ?_
    refine OL_sil rfl rfl rfl (Sil.extract rfl rfl rfl) ?_
    refine OL_sil rfl rfl rfl (Sil.extract rfl rfl rfl) ?_
    refine OL_sil rfl rfl rfl (Sil.assign rfl rfl) ?_
    refine OL_sil rfl rfl rfl (Sil.assign rfl rfl) ?_
    refine OL_sil rfl rfl rfl (Sil.assign rfl rfl) ?_
    refine OL_nil ?_
    refine TC_seq ?_
    refine TC_region ?_
    refine OL_sil rfl rfl rfl (Sil.move rfl rfl) ?_
    refine OL_loud rfl rfl rfl (LO.calls rfl ent17 rfl (fun w hw => (refOf_gives es a cap w (hx.keep hw.keep)).mono (fun v h hR => hR.bad h0))) ?_
    rintro _ _ ⟨_, ⟨rfl, rfl⟩, rfl⟩
    refine OL_sil rfl rfl rfl (Sil.move rfl rfl) ?_
    refine OL_sil rfl rfl rfl (Sil.extract rfl rfl rfl) ?_
    refine OL_sil rfl rfl rfl (Sil.extract rfl rfl rfl) ?_
    refine OL_sil rfl rfl rfl (Sil.extract rfl rfl rfl) ?_
    refine OL_sil rfl rfl rfl (Sil.assign rfl rfl) ?_
    refine OL_sil rfl rfl rfl (Sil.assign rfl rfl) ?_
    refine OL_sil rfl rfl rfl (Sil.assign rfl rfl) ?_
    refine OL_nil ?_
    refine TC_seq ?_
    refine TC_region ?_
    refine OL_sil rfl rfl rfl (Sil.move rfl rfl) ?_
    refine OL_sil rfl rfl rfl (Sil.move rfl rfl) ?_
    refine OL_pure rfl rfl rfl (LO.pure rfl ent28 rfl (fun w hw => sameTx_true [] none none 0 0 w (RcsAt.nil w) (RcsAt.nil w))) ?_
    refine OL_sil rfl rfl rfl (Sil.move rfl rfl) ?_
    refine OL_sil rfl rfl rfl (Sil.move rfl rfl) ?_
    refine OL_sil rfl rfl rfl (Sil.move rfl rfl) ?_
    refine OL_sil rfl rfl rfl (Sil.eql rfl rfl rfl) ?_
    refine OL_sil rfl rfl rfl (Sil.pick1 rfl rfl rfl) ?_
    refine OL_sil rfl rfl rfl (Sil.move rfl rfl) ?_
    refine OL_dec 36 rfl (fun ht36 => ?_) (fun ht36 => ?_)
    · refine OL_sil rfl rfl rfl (Sil.move rfl rfl) ?_
      refine OL_sil rfl rfl rfl (Sil.move rfl rfl) ?_
      refine OL_sil rfl rfl rfl (Sil.eql rfl rfl rfl) ?_
      refine OL_sil rfl rfl rfl (Sil.pick1 rfl rfl rfl) ?_
      refine OL_sil rfl rfl rfl (Sil.move rfl rfl) ?_
      refine OL_dec 41 rfl (fun ht41 => ?_) (fun ht41 => ?_)
      · refine OL_sil rfl rfl rfl (Sil.move rfl rfl) ?_
        refine OL_sil rfl rfl rfl (Sil.move rfl rfl) ?_
        refine OL_pure rfl rfl rfl (LO.pure rfl ent29 rfl (fun w hw => sameEv_true es am a cm cap w (hxm ▸ RcsAt.of_sq (hw.mine _ (List.mem_of_getElem? (i := 0) rfl)) (hw.mine _ (List.mem_of_getElem? (i := 1) rfl)) hlm) (hx.keep hw.keep))) ?_
        refine OL_sil rfl rfl rfl (Sil.pick1 rfl rfl rfl) ?_
        refine OL_sil rfl rfl rfl (Sil.assign rfl rfl) ?_
        refine OL_nil ?_
        refine TC_ret ?_
        exact ret1 rfl rfl ⟨rfl, rfl⟩
      · exact absurd rfl ht41
    · exact absurd rfl ht36
theorem HistReads_gives (es : List RcD) (a : Option Addr) (cap : Nat) (w0 : World) (hx : RcsAt w0 a es) :
    Gives Try.prog 8 [.slice a es.length cap] w0 [] fun v h => v = .bool true ∧ h = [] := by
  by_cases h0 : errC es = 0
  · exact HistReads_ok es a cap w0 hx h0
  · exact HistReads_bad es a cap w0 hx h0
end Go.Proofs.Ytjnopbmanhialaa
