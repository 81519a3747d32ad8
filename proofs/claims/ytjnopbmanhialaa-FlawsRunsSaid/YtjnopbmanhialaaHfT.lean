/-
  Walk: HistEnds.
-/
import Derived.Test.YtjnopbmanhialaaHfS
namespace Go.Cru
open Go
section
variable {P : Program} {n : Nat} {w0 : World} {bor : List Nat} {l : Env} {h hs : Mem} {o : Oper} {v : Value}
/-- A struct of a slice that lies in the bag. -/
theorem Sil.bagLoadN {x : Operand} {T : TypeId} {d : TypeDesc} {s g m cap T' sz off : Nat} {xs cs : List Value} {rs : List Res} (i : Nat) (hr : sq (some ⟨g, 0, none⟩) m cap T' sz xs ∈ rs) (ho : o.op = .load T x) (hx : ev l x = some (.pointer (some ⟨g, off, none⟩))) (hi : hs[i]? = some (bagR rs))
    (hT : P.underlying T = some d) (hs' : (P.info? T).map (·.size) = some s) (hd : aggB d = true) (hl : cs.length = s) (hc : ∀ j u, cs[j]? = some u → xs[off + j]? = some u) : Sil P n w0 bor hs l o (.agg cs.toArray) :=
  Sil.loadN ho hx ⟨hT, hs'⟩ hd hl fun w hS j u hj => by rw [add_lit]; exact sq_cell (hS.mine _ (List.mem_of_getElem? hi) _ hr) (hc j u hj)
end
end Go.Cru
namespace Go.Proofs.Ytjnopbmanhialaa
open Go.Cru

theorem lies_in {T : TypeId} {rs : List Res} {x : RcV} (h : Lies T rs x) : ∃ a c, x.2 = .slice a x.1.ops.length c ∧ ∀ (j : Nat) (o : OpD), x.1.ops[j]? = some o → ∃ b, a = some ⟨b, 0, none⟩ ∧ sq (some ⟨b, 0, none⟩) x.1.ops.length c T 3 (opsC x.1.ops) ∈ rs := by
  rcases h with ⟨h0, a, c, h2⟩ | ⟨b, c, h2, h3⟩
  · exact ⟨a, c, by rw [h2, h0]; rfl, fun j o hj => by rw [h0] at hj; cases hj⟩
  · exact ⟨_, c, h2, fun j o _ => ⟨b, rfl, h3⟩⟩
theorem tx_ops (es : List RcD) : ∀ (i : Nat) (t : RcD × Nat), t ∈ txsM es i → ∃ e ∈ es, t.1.ops = e.ops
  | 0, t, h => by cases h
  | i + 1, t, h => by
    cases he : es[i]? with
    | none => rw [txsM, he] at h; exact tx_ops es i t h
    | some e =>
      have hm := List.mem_of_getElem? he
      by_cases h1 : e.p = 1
      · rw [txsM_inv he h1] at h
        rcases List.mem_append.1 h with h | h
        · exact tx_ops es i t h
        · rw [List.mem_singleton.1 h]; exact ⟨e, hm, rfl⟩
      · rw [txsM_end he h1] at h
        obtain ⟨t0, ht0, rfl⟩ := List.mem_map.1 h
        have ih := tx_ops es i t0 ht0
        unfold stepT
        split
        · split
          · exact ⟨e, hm, rfl⟩
          · split <;> exact ih
        · exact ih
theorem lastOp_mem {ops : List OpD} {key : Int} {o : OpD} : ∀ {i : Nat}, lastOp ops key i = some o → ∃ j : Nat, ops[j]? = some o ∧ o.k = 2
  | 0, h => by cases h
  | i + 1, h => by
    cases ho : ops[i]? with
    | none => rw [lastOp, ho] at h; exact lastOp_mem h
    | some p =>
      by_cases hp : p.k = 2 ∧ p.key = key
      · rw [lastOp_hit ho hp] at h; cases h; exact ⟨i, ho, hp.1⟩
      · rw [lastOp_miss ho hp] at h; exact lastOp_mem h
theorem wrN_mem {ops : List OpD} {o : OpD} : ∀ {n : Nat}, o ∈ wrN ops n → ∃ j : Nat, ops[j]? = some o ∧ o.k = 2
  | 0, h => by cases h
  | n + 1, h => by
    rw [wrN] at h
    rcases List.mem_append.1 h with h | h
    · exact wrN_mem h
    · exact lastOp_mem (Option.mem_toList.1 h)
theorem rdN_mem {ops : List OpD} {o : OpD} : ∀ {n : Nat}, o ∈ rdN ops n → ∃ j : Nat, ops[j]? = some o ∧ o.k ≠ 2 ∧ wroB ops j o.key = false
  | 0, h => by cases h
  | n + 1, h => by
    cases hp : ops[n]? with
    | none => rw [rdN, hp] at h; exact rdN_mem h
    | some p =>
      by_cases hh : p.k ≠ 2 ∧ wroB ops n p.key = false
      · rw [rdN_put hp hh] at h
        rcases List.mem_append.1 h with h | h
        · exact rdN_mem h
        · rw [List.mem_singleton.1 h]; exact ⟨n, hp, hh⟩
      · rw [rdN_stay hp hh] at h; exact rdN_mem h
theorem rdF_mem {t : RcD} {o : OpD} (h : o ∈ rdF t) : ∃ j : Nat, t.ops[j]? = some o ∧ o.k ≠ 2 ∧ wroB t.ops j o.key = false := by
  unfold rdF at h
  split at h
  · exact rdN_mem h
  · cases h
theorem wroB_of {ops : List OpD} {j m : Nat} {o : OpD} (ho : ops[m]? = some o) (hk : o.k = 2) (hm : m < j) : wroB ops j o.key = true := by
  unfold wroB
  rw [List.any_eq_true]
  exact ⟨o, List.mem_of_getElem? (i := m) (by rw [List.getElem?_take, if_pos hm]; exact ho), by simp [hk]⟩
theorem is_iff (o q : OpD) : o.is = q.is ↔ o.k = q.k ∧ o.key = q.key ∧ o.val = q.val := by
  unfold OpD.is
  simp
/-- Is the write q among the first i operations? -/
def cn (ops : List OpD) (q : OpD) (i : Nat) : Int := if (ops.take i).any (fun o => decide ((o.k = q.k ∧ o.key = q.key ∧ o.val = q.val) ∧ o.k = 2)) = true then 1 else 0
theorem cn_iff (ops : List OpD) (q : OpD) (i : Nat) : cn ops q i = 1 ↔ (ops.take i).any (fun o => decide ((o.k = q.k ∧ o.key = q.key ∧ o.val = q.val) ∧ o.k = 2)) = true := by
  unfold cn
  cases (ops.take i).any (fun o => decide ((o.k = q.k ∧ o.key = q.key ∧ o.val = q.val) ∧ o.k = 2)) <;> simp
theorem cn_succ {ops : List OpD} {i : Nat} {o : OpD} (ho : ops[i]? = some o) (q : OpD) : cn ops q (i + 1) = 1 ↔ (cn ops q i = 1 ∨ (o.k = q.k ∧ o.key = q.key ∧ o.val = q.val) ∧ o.k = 2) := by
  rw [cn_iff, cn_iff, List.take_add_one, ho, Option.toList, List.any_append, Bool.or_eq_true]
  simp
theorem cn_hit {ops : List OpD} {q : OpD} {j i : Nat} (hq : ops[j]? = some q) (hk : q.k = 2) (hj : j < i) : cn ops q i = 1 := by
  rw [cn_iff, List.any_eq_true]
  exact ⟨q, List.mem_of_getElem? (i := j) (by rw [List.getElem?_take, if_pos hj]; exact hq), by simp [hk]⟩

theorem HistEnds_ok (es : List RcD) (a : Option Addr) (cap : Nat) (w0 : World) (hx : RcsAt w0 a es) (h0 : errC es = 0) :
    Gives Try.prog 14 [.slice a es.length cap] w0 [] fun v h => v = .bool true ∧ h = [] := by
  obtain ⟨hel, herr⟩ := errC_zero h0
  have htl := txs_len es es.length
  have hright : ∀ e ∈ es, right e := fun e he => by
    obtain ⟨j, hj⟩ := List.mem_iff_getElem?.1 he
    exact (err0 hj (herr j (ltOf hj))).1
  refine gives_of Try.func14 rfl rfl rfl (Own.start w0) ?_
  refine TC_seq ?_
  refine TC_region ?_
  refine OL_sil rfl rfl rfl (Sil.assign rfl rfl) ?_
  refine OL_nil ?_
  refine TC_seq ?_
  refine TC_seq ?_
  refine TC_region ?_
  refine OL_pure rfl rfl rfl (LO.pure rfl ent24 rfl (fun w _ => head5_gives w)) ?_
  refine OL_sil rfl rfl rfl (Sil.not rfl rfl) ?_
  refine OL_nil ?_
  refine TC_no rfl ?_
  refine TC_skip ?_
  refine TC_seq ?_
  refine TC_seq ?_
  refine TC_region ?_
  refine OL_sil rfl rfl rfl (Sil.move rfl rfl) ?_
  refine OL_loud rfl rfl rfl (LO.calls rfl ent25 rfl (fun w hw => big5_gives es a cap w (hx.keep hw.keep))) ?_
  rintro _ _ ⟨_, ⟨bb, rfl, _, rfl⟩, rfl⟩
  refine OL_nil ?_
  refine TC_cond rfl (fun ht20 => ?_) (fun ht20 => ?_)
  · refine TC_seq ?_
    refine TC_region ?_
    refine OL_sil rfl rfl rfl (Sil.assign rfl rfl) ?_
    refine OL_nil ?_
    refine TC_ret ?_
    exact ret1 rfl rfl ⟨rfl, rfl⟩
  · refine TC_skip ?_
    refine TC_seq ?_
    refine TC_region ?_
    refine OL_sil rfl rfl rfl (Sil.move rfl rfl) ?_
    refine OL_loud rfl rfl rfl (LO.calls rfl ent27 rfl (fun w hw => (histOf_gives es a cap w (hx.keep hw.keep)).mono (fun v h hR => hR.ok h0))) ?_
    rintro _ _ ⟨_, ⟨a1, c1, x1, r1, rfl, hx1, rfl, hl1⟩, rfl⟩
    refine OL_sil rfl rfl rfl (Sil.move rfl rfl) ?_
    refine OL_sil rfl rfl rfl (Sil.extract rfl rfl rfl) ?_
    refine OL_sil rfl rfl rfl (Sil.extract rfl rfl rfl) ?_
    refine OL_sil rfl rfl rfl (Sil.extract rfl rfl rfl) ?_
    refine OL_sil rfl rfl rfl (Sil.assign rfl rfl) ?_
    refine OL_sil rfl rfl rfl (Sil.assign rfl rfl) ?_
    refine OL_sil rfl rfl rfl (Sil.assign rfl rfl) ?_
    refine OL_nil ?_
    have hn1 : x1.length = (txsM es es.length).length := by have := congrArg List.length hx1; simpa using this
    have hgood : ∀ x ∈ x1, x.1.ops.length ≤ 12 ∧ ∀ o ∈ x.1.ops, o.k = 1 ∨ o.k = 2 := fun x hxm => by
      have h1 : x.1 ∈ (txsM es es.length).map (·.1) := by rw [← hx1]; exact List.mem_map_of_mem hxm
      obtain ⟨t, ht, h2⟩ := List.mem_map.1 h1
      obtain ⟨e, he, h3⟩ := tx_ops es es.length t ht
      have hr := hright e he
      rw [← h2, h3]
      refine ⟨by have := hr.1; unfold badH at this; omega, fun o ho => ?_⟩
      have := hr.2 o ho
      unfold badO at this
      omega
    refine TC_seq ?_
    refine TC_seq ?_
    refine TC_region ?_
    refine OL_sil rfl rfl rfl (Sil.move rfl rfl) ?_
    refine OL_sil rfl rfl rfl (Sil.neq rfl rfl rfl) ?_
    refine OL_nil ?_
    refine TC_ifn rfl (fun ht28 => ?_) (fun ht28 => ?_)
    · exact absurd rfl ht28
    · refine TC_skip ?_
      refine TC_seq ?_
      refine TC_seq ?_
      refine TC_region ?_
      refine OL_sil rfl rfl rfl (Sil.move rfl rfl) ?_
      refine OL_sil rfl rfl rfl (Sil.lenSl rfl rfl Try.underlying25) ?_
      refine OL_sil rfl rfl rfl (Sil.move rfl rfl) ?_
      refine OL_nil ?_
      refine TC_block ?_
      refine TC_loop (fun k : Nat => [(32, .slice a1 x1.length c1), (33, .int .i64 x1.length), (34, .int .i64 k)]) (fun _ => [sq a1 x1.length c1 43 3 (rvsC x1), bagR r1]) (fun k => k ≤ x1.length) (fun k => x1.length - k) 0 ?_ ?_
      · exact ⟨Nat.zero_le _, ⟨rfl, rfl, rfl, trivial⟩, List.Sublist.refl _⟩
      · intro k hk
        refine TC_seq ?_
        refine TC_region ?_
        refine OL_sil rfl rfl rfl (Sil.lss rfl rfl rfl) ?_
        refine OL_nil ?_
        refine TC_seq ?_
        refine TC_if rfl (fun ht35 => ?_) (fun ht35 => ?_)
        · obtain ⟨⟨xr, xu⟩, hxk⟩ : ∃ x, x1[k]? = some x := ⟨_, List.getElem?_eq_getElem (by omega)⟩
          obtain ⟨hg1, hg2⟩ := hgood _ (List.mem_of_getElem? hxk)
          have hg1 : xr.ops.length ≤ 12 := hg1
          have hg2 : ∀ o ∈ xr.ops, o.k = 1 ∨ o.k = 2 := hg2
          have hlk := hl1 _ (List.mem_of_getElem? hxk)
          obtain ⟨au, cu, hu, hin⟩ := lies_in hlk
          have hin : ∀ (j : Nat) (o : OpD), xr.ops[j]? = some o → ∃ b, au = some ⟨b, 0, none⟩ ∧ sq (some ⟨b, 0, none⟩) xr.ops.length cu 40 3 (opsC xr.ops) ∈ r1 := hin
          have hu : xu = .slice au xr.ops.length cu := hu
          subst hu
          refine TC_know (fun w hw => hw.sqSome (i := 0) rfl (by omega)) (fun hsome => ?_)
          obtain ⟨g5, rfl⟩ := hsome
          have hwl := wrN_len xr.ops 16
          have hrl : (rdF xr).length ≤ xr.ops.length := by
            unfold rdF
            split
            · exact rdN_len _ _
            · exact Nat.zero_le _
          refine TC_skip ?_
          refine TC_seq ?_
          refine TC_block ?_
          refine TC_seq ?_
          refine TC_region ?_
          refine OL_sil rfl rfl rfl (Sil.indexOwn k rfl rfl rfl Try.underlying25 rfl rfl (by omega)) ?_
          refine OL_sil rfl rfl rfl (Sil.sqLoadN 0 rfl rfl rfl Try.underlying43 rfl rfl rfl (rvsC_at hxk)) ?_
          refine OL_loud rfl rfl rfl (LO.alloc rfl rfl) ?_
          rintro _ _ ⟨b7, _, rfl, rfl⟩
          refine OL_loud0 rfl rfl (by first | exact LO.storeAllV rfl rfl rfl (by first | exact at0 | exact at1 | exact at2 | exact at3 | exact at4 | exact at5 | exact at6 | exact at7 | exact at8 | exact at9 | exact at10 | exact at11 | exact at12 | exact at13 | exact at14 | exact at15) (by rfl) (by rfl) (by rfl) (by rfl) | exact LO.store1V rfl rfl rfl (by first | exact at0 | exact at1 | exact at2 | exact at3 | exact at4 | exact at5 | exact at6 | exact at7 | exact at8 | exact at9 | exact at10 | exact at11 | exact at12 | exact at13 | exact at14 | exact at15) (by rfl) (by rfl) (by rfl)) ?_
          rintro _ _ ⟨rfl, rfl⟩
          refine OL_nil ?_
          refine TC_seq ?_
          refine TC_seq ?_
          refine TC_region ?_
          refine OL_sil rfl rfl rfl (by first | exact Sil.ownV rfl rfl (by first | exact at0 | exact at1 | exact at2 | exact at3 | exact at4 | exact at5 | exact at6 | exact at7 | exact at8 | exact at9 | exact at10 | exact at11 | exact at12 | exact at13 | exact at14 | exact at15) Try.underlying43 rfl (by rfl) | exact Sil.wholeV rfl rfl (by first | exact at0 | exact at1 | exact at2 | exact at3 | exact at4 | exact at5 | exact at6 | exact at7 | exact at8 | exact at9 | exact at10 | exact at11 | exact at12 | exact at13 | exact at14 | exact at15) ⟨Try.underlying43, rfl⟩ rfl (by rfl)) ?_
          refine OL_loud rfl rfl rfl (LO.calls rfl ent33 rfl (fun w hw => Writes_gives xr (.slice au xr.ops.length cu) w (hlk.ops (hw.mine _ (List.mem_of_getElem? (i := 1) rfl))) (by omega))) ?_
          rintro _ _ ⟨_, ⟨aw, cw, rfl, rfl⟩, rfl⟩
          refine OL_sil rfl rfl rfl (Sil.lenSl rfl rfl Try.underlying41) ?_
          refine OL_sil rfl rfl rfl (Sil.move rfl rfl) ?_
          refine OL_nil ?_
          refine TC_block ?_
          refine TC_loop (fun j : Nat => [(7, .pointer (some ⟨b7, 0, none⟩)), (32, .slice (some ⟨g5, 0, none⟩) x1.length c1), (33, .int .i64 x1.length), (34, .int .i64 k), (39, .slice aw (wrN xr.ops 16).length cw), (40, .int .i64 (wrN xr.ops 16).length), (41, .int .i64 j)]) (fun _ => [sq (some ⟨g5, 0, none⟩) x1.length c1 43 3 (rvsC x1), bagR r1, blk b7 (.cells (rcC xr (.slice au xr.ops.length cu)).toArray 43 (0, 0)), sq aw (wrN xr.ops 16).length cw 40 3 (opsC (wrN xr.ops 16))]) (fun j => j ≤ (wrN xr.ops 16).length) (fun j => (wrN xr.ops 16).length - j) 0 ?_ ?_
          · exact ⟨Nat.zero_le _, ⟨rfl, rfl, rfl, rfl, rfl, rfl, rfl, trivial⟩, List.Sublist.refl _⟩
          · intro j hj
            refine TC_seq ?_
            refine TC_region ?_
            refine OL_sil rfl rfl rfl (Sil.lss rfl rfl rfl) ?_
            refine OL_nil ?_
            refine TC_seq ?_
            refine TC_if rfl (fun ht42 => ?_) (fun ht42 => ?_)
            · obtain ⟨q, hq⟩ : ∃ q, (wrN xr.ops 16)[j]? = some q := ⟨_, List.getElem?_eq_getElem (by omega)⟩
              obtain ⟨jm, hjm, hqk⟩ := wrN_mem (List.mem_of_getElem? hq)
              refine TC_know (fun w hw => hw.sqSome (i := 3) rfl (by omega)) (fun hsome => ?_)
              obtain ⟨g6, rfl⟩ := hsome
              refine TC_skip ?_
              refine TC_seq ?_
              refine TC_block ?_
              refine TC_seq ?_
              refine TC_region ?_
              refine OL_sil rfl rfl rfl (Sil.indexOwn j rfl rfl rfl Try.underlying41 rfl rfl (by omega)) ?_
              refine OL_sil rfl rfl rfl (Sil.sqLoadN 3 rfl rfl rfl Try.underlying40 rfl rfl rfl (opsC_at hq)) ?_
              refine OL_loud rfl rfl rfl (LO.alloc rfl rfl) ?_
              rintro _ _ ⟨b9, _, rfl, rfl⟩
              refine OL_loud0 rfl rfl (by first | exact LO.storeAllV rfl rfl rfl (by first | exact at0 | exact at1 | exact at2 | exact at3 | exact at4 | exact at5 | exact at6 | exact at7 | exact at8 | exact at9 | exact at10 | exact at11 | exact at12 | exact at13 | exact at14 | exact at15) (by rfl) (by rfl) (by rfl) (by rfl) | exact LO.store1V rfl rfl rfl (by first | exact at0 | exact at1 | exact at2 | exact at3 | exact at4 | exact at5 | exact at6 | exact at7 | exact at8 | exact at9 | exact at10 | exact at11 | exact at12 | exact at13 | exact at14 | exact at15) (by rfl) (by rfl) (by rfl)) ?_
              rintro _ _ ⟨rfl, rfl⟩
              refine OL_nil ?_
              refine TC_seq ?_
              refine TC_region ?_
              refine OL_sil rfl rfl rfl (Sil.assign rfl rfl) ?_
              refine OL_nil ?_
              refine TC_seq ?_
              refine TC_seq ?_
              refine TC_region ?_
              refine OL_sil rfl rfl rfl (Sil.fieldLoc 2 rfl rfl Try.underlying43 rfl rfl) ?_
              refine OL_sil rfl rfl rfl (by exact Sil.ownV rfl rfl (by first | exact at0 | exact at1 | exact at2 | exact at3 | exact at4 | exact at5 | exact at6 | exact at7 | exact at8 | exact at9 | exact at10 | exact at11 | exact at12 | exact at13 | exact at14 | exact at15) Try.underlying41 rfl (by rfl)) ?_
              refine OL_sil rfl rfl rfl (Sil.lenSl rfl rfl Try.underlying41) ?_
              refine OL_sil rfl rfl rfl (Sil.move rfl rfl) ?_
              refine OL_nil ?_
              refine TC_block ?_
              refine TC_loop (fun m : Nat => [(7, .pointer (some ⟨b7, 0, none⟩)), (9, .pointer (some ⟨b9, 0, none⟩)), (10, .bool (decide (cn xr.ops q m = 1))), (32, .slice (some ⟨g5, 0, none⟩) x1.length c1), (33, .int .i64 x1.length), (34, .int .i64 k), (39, .slice (some ⟨g6, 0, none⟩) (wrN xr.ops 16).length cw), (40, .int .i64 (wrN xr.ops 16).length), (41, .int .i64 j), (46, .slice au xr.ops.length cu), (47, .int .i64 xr.ops.length), (48, .int .i64 m)]) (fun _ => [sq (some ⟨g5, 0, none⟩) x1.length c1 43 3 (rvsC x1), bagR r1, blk b7 (.cells (rcC xr (.slice au xr.ops.length cu)).toArray 43 (0, 0)), sq (some ⟨g6, 0, none⟩) (wrN xr.ops 16).length cw 40 3 (opsC (wrN xr.ops 16)), blk b9 (.cells (iv q.is).toArray 40 (0, 0))]) (fun m => m ≤ xr.ops.length) (fun m => xr.ops.length - m) 0 ?_ ?_
              · exact ⟨Nat.zero_le _, ⟨rfl, rfl, rfl, rfl, rfl, rfl, rfl, rfl, rfl, rfl, rfl, rfl, trivial⟩, List.Sublist.refl _⟩
              · intro m hm
                refine TC_seq ?_
                refine TC_region ?_
                refine OL_sil rfl rfl rfl (Sil.lss rfl rfl rfl) ?_
                refine OL_nil ?_
                refine TC_seq ?_
                refine TC_if rfl (fun ht49 => ?_) (fun ht49 => ?_)
                · obtain ⟨o, ho⟩ := nthSome ht49
                  obtain ⟨gb, hau, hmem⟩ := hin m o ho
                  subst hau
                  refine TC_skip ?_
                  refine TC_seq ?_
                  refine TC_block ?_
                  refine TC_seq ?_
                  refine TC_region ?_
                  refine OL_sil rfl rfl rfl (Sil.indexOwn m rfl rfl rfl Try.underlying41 rfl rfl (by omega)) ?_
                  refine OL_sil rfl rfl rfl (Sil.bagLoadN 1 hmem rfl rfl rfl Try.underlying40 rfl rfl rfl (opsC_at ho)) ?_
                  refine OL_loud rfl rfl rfl (LO.alloc rfl rfl) ?_
                  rintro _ _ ⟨b12, _, rfl, rfl⟩
                  refine OL_loud0 rfl rfl (by first | exact LO.storeAllV rfl rfl rfl (by first | exact at0 | exact at1 | exact at2 | exact at3 | exact at4 | exact at5 | exact at6 | exact at7 | exact at8 | exact at9 | exact at10 | exact at11 | exact at12 | exact at13 | exact at14 | exact at15) (by rfl) (by rfl) (by rfl) (by rfl) | exact LO.store1V rfl rfl rfl (by first | exact at0 | exact at1 | exact at2 | exact at3 | exact at4 | exact at5 | exact at6 | exact at7 | exact at8 | exact at9 | exact at10 | exact at11 | exact at12 | exact at13 | exact at14 | exact at15) (by rfl) (by rfl) (by rfl)) ?_
                  rintro _ _ ⟨rfl, rfl⟩
                  refine OL_nil ?_
                  refine TC_boolE [52, 53, 54, 55, 56, 57, 58, 59, 60, 61, 62, 10] 10 (cn xr.ops q m = 1 ∨ (o.k = q.k ∧ o.key = q.key ∧ o.val = q.val) ∧ o.k = 2) ?_ ?_
                  · refine TC_region ?_
                    refine OL_sil rfl rfl rfl (Sil.move rfl rfl) ?_
                    refine OL_sil rfl rfl rfl (Sil.move rfl rfl) ?_
                    refine OL_cases 53 rfl (fun ht53 => ?_) (fun ht53 => ?_)
                    · have ht53 := of_decide_eq_true ht53
                      refine OL_skip rfl rfl rfl ?_
                      refine OL_skip rfl rfl rfl ?_
                      refine OL_skip rfl rfl rfl ?_
                      refine OL_skip rfl rfl rfl ?_
                      refine OL_skip rfl rfl rfl ?_
                      refine OL_skip rfl rfl rfl ?_
                      refine OL_skip rfl rfl rfl ?_
                      refine OL_skip rfl rfl rfl ?_
                      refine OL_sil rfl rfl rfl (Sil.pick1 rfl rfl rfl) ?_
                      refine OL_sil rfl rfl rfl (Sil.assign rfl rfl) ?_
                      refine OL_nil ?_
                      (refine Cont.then_intro (And.intro (by (repeat' (first | exact Ext.refl | refine Ext.cons rfl ?_))) (And.intro ?_ rfl)); first | exact slotV rfl (congrArg Value.bool (decide_eq_true (by omega)).symm) | exact slotV rfl (congrArg Value.bool (decide_eq_false (by omega)).symm) | exact slotV rfl (congrArg Value.bool (decide_eq_decide.2 (by omega))) | exact slotV rfl (congrArg Value.bool (decide_not.symm.trans (decide_eq_decide.2 (by omega)))))
                    · have ht53 := of_decide_eq_false ht53
                      refine OL_sil rfl rfl rfl (by first | exact Sil.ownV rfl rfl (by first | exact at0 | exact at1 | exact at2 | exact at3 | exact at4 | exact at5 | exact at6 | exact at7 | exact at8 | exact at9 | exact at10 | exact at11 | exact at12 | exact at13 | exact at14 | exact at15) Try.underlying40 rfl (by rfl) | exact Sil.wholeV rfl rfl (by first | exact at0 | exact at1 | exact at2 | exact at3 | exact at4 | exact at5 | exact at6 | exact at7 | exact at8 | exact at9 | exact at10 | exact at11 | exact at12 | exact at13 | exact at14 | exact at15) ⟨Try.underlying40, rfl⟩ rfl (by rfl)) ?_
                      refine OL_sil rfl rfl rfl (by first | exact Sil.ownV rfl rfl (by first | exact at0 | exact at1 | exact at2 | exact at3 | exact at4 | exact at5 | exact at6 | exact at7 | exact at8 | exact at9 | exact at10 | exact at11 | exact at12 | exact at13 | exact at14 | exact at15) Try.underlying40 rfl (by rfl) | exact Sil.wholeV rfl rfl (by first | exact at0 | exact at1 | exact at2 | exact at3 | exact at4 | exact at5 | exact at6 | exact at7 | exact at8 | exact at9 | exact at10 | exact at11 | exact at12 | exact at13 | exact at14 | exact at15) ⟨Try.underlying40, rfl⟩ rfl (by rfl)) ?_
                      refine OL_sil rfl rfl rfl (Sil.eqlS srOp eqOp rfl rfl rfl rfl rfl) ?_
                      refine OL_slot 56 (v := .bool (decide (o.k = q.k ∧ o.key = q.key ∧ o.val = q.val))) rfl (congrArg Value.bool (decide_eq_decide.2 (is_iff o q))) ?_
                      refine OL_sil rfl rfl rfl (Sil.move rfl rfl) ?_
                      refine OL_dec 57 rfl (fun ht57 => ?_) (fun ht57 => ?_)
                      · refine OL_sil rfl rfl rfl (Sil.fieldLoc 0 rfl rfl Try.underlying40 rfl rfl) ?_
                        refine OL_sil rfl rfl rfl (by exact Sil.ownV rfl rfl (by first | exact at0 | exact at1 | exact at2 | exact at3 | exact at4 | exact at5 | exact at6 | exact at7 | exact at8 | exact at9 | exact at10 | exact at11 | exact at12 | exact at13 | exact at14 | exact at15) Try.underlying3 rfl (by rfl)) ?_
                        refine OL_sil rfl rfl rfl (Sil.eql rfl rfl rfl) ?_
                        refine OL_sil rfl rfl rfl (Sil.pick1 rfl rfl rfl) ?_
                        refine OL_sil rfl rfl rfl (Sil.pick0 rfl rfl rfl) ?_
                        refine OL_sil rfl rfl rfl (Sil.assign rfl rfl) ?_
                        refine OL_nil ?_
                        (refine Cont.then_intro (And.intro (by (repeat' (first | exact Ext.refl | refine Ext.cons rfl ?_))) (And.intro ?_ rfl)); first | exact slotV rfl (congrArg Value.bool (decide_eq_true (by omega)).symm) | exact slotV rfl (congrArg Value.bool (decide_eq_false (by omega)).symm) | exact slotV rfl (congrArg Value.bool (decide_eq_decide.2 (by omega))) | exact slotV rfl (congrArg Value.bool (decide_not.symm.trans (decide_eq_decide.2 (by omega)))))
                      · refine OL_skip rfl rfl rfl ?_
                        refine OL_skip rfl rfl rfl ?_
                        refine OL_skip rfl rfl rfl ?_
                        refine OL_sil rfl rfl rfl (Sil.pick0 rfl rfl rfl) ?_
                        refine OL_sil rfl rfl rfl (Sil.pick0 rfl rfl rfl) ?_
                        refine OL_sil rfl rfl rfl (Sil.assign rfl rfl) ?_
                        refine OL_nil ?_
                        (refine Cont.then_intro (And.intro (by (repeat' (first | exact Ext.refl | refine Ext.cons rfl ?_))) (And.intro ?_ rfl)); first | exact slotV rfl (congrArg Value.bool (decide_eq_true (by omega)).symm) | exact slotV rfl (congrArg Value.bool (decide_eq_false (by omega)).symm) | exact slotV rfl (congrArg Value.bool (decide_eq_decide.2 (by omega))) | exact slotV rfl (congrArg Value.bool (decide_not.symm.trans (decide_eq_decide.2 (by omega)))))
                  refine TC_region ?_
                  refine OL_sil rfl rfl rfl (Sil.add rfl rfl rfl (by omega) (by omega)) ?_
                  refine OL_sil rfl rfl rfl (Sil.move rfl rfl) ?_
                  refine OL_nil ?_
                  exact ⟨m + 1, ⟨by omega, ⟨rfl, rfl, slotV rfl (congrArg Value.bool (decide_eq_decide.2 (cn_succ ho q).symm)), rfl, rfl, rfl, rfl, rfl, rfl, rfl, rfl, slotI rfl (by push_cast; rfl), trivial⟩, List.Sublist.cons_cons _ (List.Sublist.cons_cons _ (List.Sublist.cons_cons _ (List.Sublist.cons_cons _ (List.Sublist.cons_cons _ (List.nil_sublist _)))))⟩, by omega⟩
                · obtain rfl : m = xr.ops.length := by omega
                  have hcn := cn_hit hjm hqk (ltOf hjm)
                  refine TC_exit ?_
                  refine TC_seq ?_
                  refine TC_region ?_
                  refine OL_sil rfl rfl rfl (Sil.move rfl rfl) ?_
                  refine OL_sil rfl rfl rfl (Sil.not rfl rfl) ?_
                  refine OL_nil ?_
                  refine TC_cond rfl (fun ht65 => ?_) (fun ht65 => ?_)
                  · exact absurd ht65 (by simp [hcn])
                  · refine TC_skip ?_
                    refine TC_region ?_
                    refine OL_sil rfl rfl rfl (Sil.add rfl rfl rfl (by omega) (by omega)) ?_
                    refine OL_sil rfl rfl rfl (Sil.move rfl rfl) ?_
                    refine OL_nil ?_
                    exact ⟨j + 1, ⟨by omega, ⟨rfl, rfl, rfl, rfl, rfl, rfl, slotI rfl (by push_cast; rfl), trivial⟩, List.Sublist.cons_cons _ (List.Sublist.cons_cons _ (List.Sublist.cons_cons _ (List.Sublist.cons_cons _ (List.nil_sublist _))))⟩, by omega⟩
            · refine TC_exit ?_
              refine TC_seq ?_
              refine TC_region ?_
              refine OL_sil rfl rfl rfl (by first | exact Sil.ownV rfl rfl (by first | exact at0 | exact at1 | exact at2 | exact at3 | exact at4 | exact at5 | exact at6 | exact at7 | exact at8 | exact at9 | exact at10 | exact at11 | exact at12 | exact at13 | exact at14 | exact at15) Try.underlying43 rfl (by rfl) | exact Sil.wholeV rfl rfl (by first | exact at0 | exact at1 | exact at2 | exact at3 | exact at4 | exact at5 | exact at6 | exact at7 | exact at8 | exact at9 | exact at10 | exact at11 | exact at12 | exact at13 | exact at14 | exact at15) ⟨Try.underlying43, rfl⟩ rfl (by rfl)) ?_
              refine OL_loud rfl rfl rfl (LO.calls rfl ent31 rfl (fun w hw => Reads_gives xr (.slice au xr.ops.length cu) w (hlk.ops (hw.mine _ (List.mem_of_getElem? (i := 1) rfl))) (by omega))) ?_
              rintro _ _ ⟨_, ⟨ar, cr, rfl, rfl⟩, rfl⟩
              refine OL_sil rfl rfl rfl (Sil.lenSl rfl rfl Try.underlying41) ?_
              refine OL_sil rfl rfl rfl (Sil.move rfl rfl) ?_
              refine OL_nil ?_
              refine TC_block ?_
              refine TC_loop (fun j : Nat => [(7, .pointer (some ⟨b7, 0, none⟩)), (32, .slice (some ⟨g5, 0, none⟩) x1.length c1), (33, .int .i64 x1.length), (34, .int .i64 k), (68, .slice ar (rdF xr).length cr), (69, .int .i64 (rdF xr).length), (70, .int .i64 j)]) (fun _ => [sq (some ⟨g5, 0, none⟩) x1.length c1 43 3 (rvsC x1), bagR r1, blk b7 (.cells (rcC xr (.slice au xr.ops.length cu)).toArray 43 (0, 0)), sq ar (rdF xr).length cr 40 3 (opsC (rdF xr))]) (fun j => j ≤ (rdF xr).length) (fun j => (rdF xr).length - j) 0 ?_ ?_
              · exact ⟨Nat.zero_le _, ⟨rfl, rfl, rfl, rfl, rfl, rfl, rfl, trivial⟩, List.Sublist.cons_cons _ (List.Sublist.cons_cons _ (List.Sublist.cons_cons _ (List.Sublist.cons _ (List.Sublist.refl _))))⟩
              · intro j2 hj2
                refine TC_seq ?_
                refine TC_region ?_
                refine OL_sil rfl rfl rfl (Sil.lss rfl rfl rfl) ?_
                refine OL_nil ?_
                refine TC_seq ?_
                refine TC_if rfl (fun ht71 => ?_) (fun ht71 => ?_)
                · obtain ⟨r, hr⟩ : ∃ r, (rdF xr)[j2]? = some r := ⟨_, List.getElem?_eq_getElem (by omega)⟩
                  obtain ⟨jr, hjr, hrk, hwro⟩ := rdF_mem (List.mem_of_getElem? hr)
                  have hrk1 := hg2 r (List.mem_of_getElem? hjr)
                  have hjl := ltOf hjr
                  refine TC_know (fun w hw => hw.sqSome (i := 3) rfl (by omega)) (fun hsome => ?_)
                  obtain ⟨g7, rfl⟩ := hsome
                  refine TC_skip ?_
                  refine TC_seq ?_
                  refine TC_block ?_
                  refine TC_seq ?_
                  refine TC_region ?_
                  refine OL_sil rfl rfl rfl (Sil.indexOwn j2 rfl rfl rfl Try.underlying41 rfl rfl (by omega)) ?_
                  refine OL_sil rfl rfl rfl (Sil.sqLoadN 3 rfl rfl rfl Try.underlying40 rfl rfl rfl (opsC_at hr)) ?_
                  refine OL_loud rfl rfl rfl (LO.alloc rfl rfl) ?_
                  rintro _ _ ⟨b14, _, rfl, rfl⟩
                  refine OL_loud0 rfl rfl (by first | exact LO.storeAllV rfl rfl rfl (by first | exact at0 | exact at1 | exact at2 | exact at3 | exact at4 | exact at5 | exact at6 | exact at7 | exact at8 | exact at9 | exact at10 | exact at11 | exact at12 | exact at13 | exact at14 | exact at15) (by rfl) (by rfl) (by rfl) (by rfl) | exact LO.store1V rfl rfl rfl (by first | exact at0 | exact at1 | exact at2 | exact at3 | exact at4 | exact at5 | exact at6 | exact at7 | exact at8 | exact at9 | exact at10 | exact at11 | exact at12 | exact at13 | exact at14 | exact at15) (by rfl) (by rfl) (by rfl)) ?_
                  rintro _ _ ⟨rfl, rfl⟩
                  refine OL_nil ?_
                  refine TC_seq ?_
                  refine TC_region ?_
                  refine OL_sil rfl rfl rfl (Sil.fieldLoc 2 rfl rfl Try.underlying43 rfl rfl) ?_
                  refine OL_sil rfl rfl rfl (by exact Sil.ownV rfl rfl (by first | exact at0 | exact at1 | exact at2 | exact at3 | exact at4 | exact at5 | exact at6 | exact at7 | exact at8 | exact at9 | exact at10 | exact at11 | exact at12 | exact at13 | exact at14 | exact at15) Try.underlying41 rfl (by rfl)) ?_
                  refine OL_sil rfl rfl rfl (Sil.lenSl rfl rfl Try.underlying41) ?_
                  refine OL_sil rfl rfl rfl (Sil.move rfl rfl) ?_
                  refine OL_nil ?_
                  refine TC_block ?_
                  refine TC_loop (fun m : Nat => [(7, .pointer (some ⟨b7, 0, none⟩)), (14, .pointer (some ⟨b14, 0, none⟩)), (32, .slice (some ⟨g5, 0, none⟩) x1.length c1), (33, .int .i64 x1.length), (34, .int .i64 k), (68, .slice (some ⟨g7, 0, none⟩) (rdF xr).length cr), (69, .int .i64 (rdF xr).length), (70, .int .i64 j2), (75, .slice au xr.ops.length cu), (76, .int .i64 xr.ops.length), (77, .int .i64 m)]) (fun _ => [sq (some ⟨g5, 0, none⟩) x1.length c1 43 3 (rvsC x1), bagR r1, blk b7 (.cells (rcC xr (.slice au xr.ops.length cu)).toArray 43 (0, 0)), sq (some ⟨g7, 0, none⟩) (rdF xr).length cr 40 3 (opsC (rdF xr)), blk b14 (.cells (iv r.is).toArray 40 (0, 0))]) (fun m => m ≤ jr) (fun m => jr - m) 0 ?_ ?_
                  · exact ⟨Nat.zero_le _, ⟨rfl, rfl, rfl, rfl, rfl, rfl, rfl, rfl, rfl, rfl, rfl, trivial⟩, List.Sublist.refl _⟩
                  · intro m hm
                    refine TC_seq ?_
                    refine TC_region ?_
                    refine OL_sil rfl rfl rfl (Sil.lss rfl rfl rfl) ?_
                    refine OL_nil ?_
                    refine TC_seq ?_
                    refine TC_if rfl (fun ht78 => ?_) (fun ht78 => ?_)
                    · obtain ⟨o, ho⟩ := nthSome ht78
                      obtain ⟨gb, hau, hmem⟩ := hin m o ho
                      subst hau
                      have hne : m = jr → o = r := fun e => by rw [e, hjr] at ho; exact (Option.some.inj ho).symm
                      refine TC_skip ?_
                      refine TC_seq ?_
                      refine TC_block ?_
                      refine TC_seq ?_
                      refine TC_region ?_
                      refine OL_sil rfl rfl rfl (Sil.indexOwn m rfl rfl rfl Try.underlying41 rfl rfl (by omega)) ?_
                      refine OL_sil rfl rfl rfl (Sil.bagLoadN 1 hmem rfl rfl rfl Try.underlying40 rfl rfl rfl (opsC_at ho)) ?_
                      refine OL_loud rfl rfl rfl (LO.alloc rfl rfl) ?_
                      rintro _ _ ⟨b16, _, rfl, rfl⟩
                      refine OL_loud0 rfl rfl (by first | exact LO.storeAllV rfl rfl rfl (by first | exact at0 | exact at1 | exact at2 | exact at3 | exact at4 | exact at5 | exact at6 | exact at7 | exact at8 | exact at9 | exact at10 | exact at11 | exact at12 | exact at13 | exact at14 | exact at15) (by rfl) (by rfl) (by rfl) (by rfl) | exact LO.store1V rfl rfl rfl (by first | exact at0 | exact at1 | exact at2 | exact at3 | exact at4 | exact at5 | exact at6 | exact at7 | exact at8 | exact at9 | exact at10 | exact at11 | exact at12 | exact at13 | exact at14 | exact at15) (by rfl) (by rfl) (by rfl)) ?_
                      rintro _ _ ⟨rfl, rfl⟩
                      refine OL_nil ?_
                      refine TC_seq ?_
                      refine TC_seq ?_
                      refine TC_bool 88 (o.k = 1 ∧ o.k = r.k ∧ o.key = r.key ∧ o.val = r.val) ?_ ?_
                      · refine TC_region ?_
                        refine OL_sil rfl rfl rfl (Sil.fieldLoc 0 rfl rfl Try.underlying40 rfl rfl) ?_
                        refine OL_sil rfl rfl rfl (by exact Sil.ownV rfl rfl (by first | exact at0 | exact at1 | exact at2 | exact at3 | exact at4 | exact at5 | exact at6 | exact at7 | exact at8 | exact at9 | exact at10 | exact at11 | exact at12 | exact at13 | exact at14 | exact at15) Try.underlying3 rfl (by rfl)) ?_
                        refine OL_sil rfl rfl rfl (Sil.eql rfl rfl rfl) ?_
                        refine OL_sil rfl rfl rfl (Sil.move rfl rfl) ?_
                        refine OL_dec 84 rfl (fun ht84 => ?_) (fun ht84 => ?_)
                        · refine OL_sil rfl rfl rfl (by first | exact Sil.ownV rfl rfl (by first | exact at0 | exact at1 | exact at2 | exact at3 | exact at4 | exact at5 | exact at6 | exact at7 | exact at8 | exact at9 | exact at10 | exact at11 | exact at12 | exact at13 | exact at14 | exact at15) Try.underlying40 rfl (by rfl) | exact Sil.wholeV rfl rfl (by first | exact at0 | exact at1 | exact at2 | exact at3 | exact at4 | exact at5 | exact at6 | exact at7 | exact at8 | exact at9 | exact at10 | exact at11 | exact at12 | exact at13 | exact at14 | exact at15) ⟨Try.underlying40, rfl⟩ rfl (by rfl)) ?_
                          refine OL_sil rfl rfl rfl (by first | exact Sil.ownV rfl rfl (by first | exact at0 | exact at1 | exact at2 | exact at3 | exact at4 | exact at5 | exact at6 | exact at7 | exact at8 | exact at9 | exact at10 | exact at11 | exact at12 | exact at13 | exact at14 | exact at15) Try.underlying40 rfl (by rfl) | exact Sil.wholeV rfl rfl (by first | exact at0 | exact at1 | exact at2 | exact at3 | exact at4 | exact at5 | exact at6 | exact at7 | exact at8 | exact at9 | exact at10 | exact at11 | exact at12 | exact at13 | exact at14 | exact at15) ⟨Try.underlying40, rfl⟩ rfl (by rfl)) ?_
                          refine OL_sil rfl rfl rfl (Sil.eqlS srOp eqOp rfl rfl rfl rfl rfl) ?_
                          refine OL_slot 87 (v := .bool (decide (o.k = r.k ∧ o.key = r.key ∧ o.val = r.val))) rfl (congrArg Value.bool (decide_eq_decide.2 (is_iff o r))) ?_
                          refine OL_sil rfl rfl rfl (Sil.pick1 rfl rfl rfl) ?_
                          refine OL_nil ?_
                          (refine Cont.then_intro (And.intro (by (repeat' (first | exact trivial | refine ⟨rfl, ?_⟩))) (And.intro ?_ rfl)); first | exact slotV rfl (congrArg Value.bool (decide_eq_true (by omega)).symm) | exact slotV rfl (congrArg Value.bool (decide_eq_false (by omega)).symm) | exact slotV rfl (congrArg Value.bool (decide_eq_decide.2 (by omega))) | exact slotV rfl (congrArg Value.bool (decide_not.symm.trans (decide_eq_decide.2 (by omega)))))
                        · refine OL_skip rfl rfl rfl ?_
                          refine OL_skip rfl rfl rfl ?_
                          refine OL_skip rfl rfl rfl ?_
                          refine OL_sil rfl rfl rfl (Sil.pick0 rfl rfl rfl) ?_
                          refine OL_nil ?_
                          (refine Cont.then_intro (And.intro (by (repeat' (first | exact trivial | refine ⟨rfl, ?_⟩))) (And.intro ?_ rfl)); first | exact slotV rfl (congrArg Value.bool (decide_eq_true (by omega)).symm) | exact slotV rfl (congrArg Value.bool (decide_eq_false (by omega)).symm) | exact slotV rfl (congrArg Value.bool (decide_eq_decide.2 (by omega))) | exact slotV rfl (congrArg Value.bool (decide_not.symm.trans (decide_eq_decide.2 (by omega)))))
                      refine TC_if rfl (fun ht88 => ?_) (fun ht88 => ?_)
                      · refine TC_exit ?_
                        refine TC_region ?_
                        refine OL_sil rfl rfl rfl (Sil.add rfl rfl rfl (by omega) (by omega)) ?_
                        refine OL_sil rfl rfl rfl (Sil.move rfl rfl) ?_
                        refine OL_nil ?_
                        exact ⟨j2 + 1, ⟨by omega, ⟨rfl, rfl, rfl, rfl, rfl, rfl, slotI rfl (by push_cast; rfl), trivial⟩, List.Sublist.cons_cons _ (List.Sublist.cons_cons _ (List.Sublist.cons_cons _ (List.Sublist.cons_cons _ (List.nil_sublist _))))⟩, by omega⟩
                      · have hmj : m < jr := by
                          rcases Nat.lt_or_ge m jr with h | h
                          · exact h
                          · obtain rfl := hne (by omega)
                            exact absurd ⟨hrk1.resolve_right hrk, rfl, rfl, rfl⟩ ht88
                        refine TC_skip ?_
                        refine TC_seq ?_
                        refine TC_bool 98 (o.k = 2 ∧ o.key = r.key) ?_ ?_
                        · refine TC_region ?_
                          refine OL_sil rfl rfl rfl (Sil.fieldLoc 0 rfl rfl Try.underlying40 rfl rfl) ?_
                          refine OL_sil rfl rfl rfl (by exact Sil.ownV rfl rfl (by first | exact at0 | exact at1 | exact at2 | exact at3 | exact at4 | exact at5 | exact at6 | exact at7 | exact at8 | exact at9 | exact at10 | exact at11 | exact at12 | exact at13 | exact at14 | exact at15) Try.underlying3 rfl (by rfl)) ?_
                          refine OL_sil rfl rfl rfl (Sil.eql rfl rfl rfl) ?_
                          refine OL_sil rfl rfl rfl (Sil.move rfl rfl) ?_
                          refine OL_dec 92 rfl (fun ht92 => ?_) (fun ht92 => ?_)
                          · refine OL_sil rfl rfl rfl (Sil.fieldLoc 1 rfl rfl Try.underlying40 rfl rfl) ?_
                            refine OL_sil rfl rfl rfl (by exact Sil.ownV rfl rfl (by first | exact at0 | exact at1 | exact at2 | exact at3 | exact at4 | exact at5 | exact at6 | exact at7 | exact at8 | exact at9 | exact at10 | exact at11 | exact at12 | exact at13 | exact at14 | exact at15) Try.underlying3 rfl (by rfl)) ?_
                            refine OL_sil rfl rfl rfl (Sil.fieldLoc 1 rfl rfl Try.underlying40 rfl rfl) ?_
                            refine OL_sil rfl rfl rfl (by exact Sil.ownV rfl rfl (by first | exact at0 | exact at1 | exact at2 | exact at3 | exact at4 | exact at5 | exact at6 | exact at7 | exact at8 | exact at9 | exact at10 | exact at11 | exact at12 | exact at13 | exact at14 | exact at15) Try.underlying3 rfl (by rfl)) ?_
                            refine OL_sil rfl rfl rfl (Sil.eql rfl rfl rfl) ?_
                            refine OL_sil rfl rfl rfl (Sil.pick1 rfl rfl rfl) ?_
                            refine OL_nil ?_
                            (refine Cont.then_intro (And.intro (by (repeat' (first | exact trivial | refine ⟨rfl, ?_⟩))) (And.intro ?_ rfl)); first | exact slotV rfl (congrArg Value.bool (decide_eq_true (by omega)).symm) | exact slotV rfl (congrArg Value.bool (decide_eq_false (by omega)).symm) | exact slotV rfl (congrArg Value.bool (decide_eq_decide.2 (by omega))) | exact slotV rfl (congrArg Value.bool (decide_not.symm.trans (decide_eq_decide.2 (by omega)))))
                          · refine OL_skip rfl rfl rfl ?_
                            refine OL_skip rfl rfl rfl ?_
                            refine OL_skip rfl rfl rfl ?_
                            refine OL_skip rfl rfl rfl ?_
                            refine OL_skip rfl rfl rfl ?_
                            refine OL_sil rfl rfl rfl (Sil.pick0 rfl rfl rfl) ?_
                            refine OL_nil ?_
                            (refine Cont.then_intro (And.intro (by (repeat' (first | exact trivial | refine ⟨rfl, ?_⟩))) (And.intro ?_ rfl)); first | exact slotV rfl (congrArg Value.bool (decide_eq_true (by omega)).symm) | exact slotV rfl (congrArg Value.bool (decide_eq_false (by omega)).symm) | exact slotV rfl (congrArg Value.bool (decide_eq_decide.2 (by omega))) | exact slotV rfl (congrArg Value.bool (decide_not.symm.trans (decide_eq_decide.2 (by omega)))))
                        refine TC_if rfl (fun ht98 => ?_) (fun ht98 => ?_)
                        · exact absurd (wroB_of ho ht98.1 hmj) (by rw [ht98.2, hwro]; simp)
                        · refine TC_skip ?_
                          refine TC_region ?_
                          refine OL_sil rfl rfl rfl (Sil.add rfl rfl rfl (by omega) (by omega)) ?_
                          refine OL_sil rfl rfl rfl (Sil.move rfl rfl) ?_
                          refine OL_nil ?_
                          exact ⟨m + 1, ⟨by omega, ⟨rfl, rfl, rfl, rfl, rfl, rfl, rfl, rfl, rfl, rfl, slotI rfl (by push_cast; rfl), trivial⟩, List.Sublist.cons_cons _ (List.Sublist.cons_cons _ (List.Sublist.cons_cons _ (List.Sublist.cons_cons _ (List.Sublist.cons_cons _ (List.nil_sublist _)))))⟩, by omega⟩
                    · omega
                · refine TC_exit ?_
                  refine TC_region ?_
                  refine OL_sil rfl rfl rfl (Sil.add rfl rfl rfl (by omega) (by omega)) ?_
                  refine OL_sil rfl rfl rfl (Sil.move rfl rfl) ?_
                  refine OL_nil ?_
                  exact ⟨k + 1, ⟨by omega, ⟨rfl, rfl, slotI rfl (by push_cast; rfl), trivial⟩, List.Sublist.cons_cons _ (List.Sublist.cons_cons _ (List.nil_sublist _))⟩, by omega⟩
        · refine TC_exit ?_
          refine TC_seq ?_
          refine TC_region ?_
          refine OL_sil rfl rfl rfl (Sil.assign rfl rfl) ?_
          refine OL_nil ?_
          refine TC_ret ?_
          exact ret1 rfl rfl ⟨rfl, rfl⟩
theorem HistEnds_bad (es : List RcD) (a : Option Addr) (cap : Nat) (w0 : World) (hx : RcsAt w0 a es) (h0 : errC es ≠ 0) :
    Gives Try.prog 14 [.slice a es.length cap] w0 [] fun v h => v = .bool true ∧ h = [] := by
  refine gives_of Try.func14 rfl rfl rfl (Own.start w0) ?_
  refine TC_seq ?_
  refine TC_region ?_
  refine OL_sil rfl rfl rfl (Sil.assign rfl rfl) ?_
  refine OL_nil ?_
  refine TC_seq ?_
  refine TC_seq ?_
  refine TC_region ?_
  refine OL_pure rfl rfl rfl (LO.pure rfl ent24 rfl (fun w _ => head5_gives w)) ?_
  refine OL_sil rfl rfl rfl (Sil.not rfl rfl) ?_
  refine OL_nil ?_
  refine TC_no rfl ?_
  refine TC_skip ?_
  refine TC_seq ?_
  refine TC_seq ?_
  refine TC_region ?_
  refine OL_sil rfl rfl rfl (Sil.move rfl rfl) ?_
  refine OL_loud rfl rfl rfl (LO.calls rfl ent25 rfl (fun w hw => big5_gives es a cap w (hx.keep hw.keep))) ?_
  rintro _ _ ⟨_, ⟨bb, rfl, _, rfl⟩, rfl⟩
  refine OL_nil ?_
  refine TC_cond rfl (fun ht20 => ?_) (fun ht20 => ?_)
  · refine TC_seq ?_
    refine TC_region ?_
    refine OL_sil rfl rfl rfl (Sil.assign rfl rfl) ?_
    refine OL_nil ?_
    refine TC_ret ?_
    exact ret1 rfl rfl ⟨rfl, rfl⟩
  · refine TC_skip ?_
    refine TC_seq ?_
    refine TC_region ?_
    refine OL_sil rfl rfl rfl (Sil.move rfl rfl) ?_
    refine OL_loud rfl rfl rfl (LO.calls rfl ent27 rfl (fun w hw => (histOf_gives es a cap w (hx.keep hw.keep)).mono (fun v h hR => hR.bad h0))) ?_
    rintro _ _ ⟨_, ⟨rfl, rfl⟩, rfl⟩
    refine OL_sil rfl rfl rfl (Sil.move rfl rfl) ?_
    refine OL_sil rfl rfl rfl (Sil.extract rfl rfl rfl) ?_
    refine OL_sil rfl rfl rfl (Sil.extract rfl rfl rfl) ?_
    refine OL_sil rfl rfl rfl (Sil.extract rfl rfl rfl) ?_
    refine OL_sil rfl rfl rfl (Sil.assign rfl rfl) ?_
    refine OL_sil rfl rfl rfl (Sil.assign rfl rfl) ?_
    refine OL_sil rfl rfl rfl (Sil.assign rfl rfl) ?_
    refine OL_nil ?_
    refine TC_seq ?_
    refine TC_seq ?_
    refine TC_region ?_
    refine OL_sil rfl rfl rfl (Sil.move rfl rfl) ?_
    refine OL_sil rfl rfl rfl (Sil.neq rfl rfl rfl) ?_
    refine OL_nil ?_
    refine TC_ifn rfl (fun ht28 => ?_) (fun ht28 => ?_)
    · refine TC_seq ?_
      refine TC_region ?_
      refine OL_sil rfl rfl rfl (Sil.move rfl rfl) ?_
      refine OL_sil rfl rfl rfl (Sil.lenSl rfl rfl Try.underlying25) ?_
      refine OL_sil rfl rfl rfl (Sil.eql rfl rfl rfl) ?_
      refine OL_sil rfl rfl rfl (Sil.assign rfl rfl) ?_
      refine OL_nil ?_
      refine TC_ret ?_
      exact ret1 rfl rfl ⟨congrArg Value.bool (decide_eq_true rfl), rfl⟩
    · exact absurd ht28 h0
theorem HistEnds_gives (es : List RcD) (a : Option Addr) (cap : Nat) (w0 : World) (hx : RcsAt w0 a es) :
    Gives Try.prog 14 [.slice a es.length cap] w0 [] fun v h => v = .bool true ∧ h = [] := by
  by_cases h0 : errC es = 0
  · exact HistEnds_ok es a cap w0 hx h0
  · exact HistEnds_bad es a cap w0 hx h0
end Go.Proofs.Ytjnopbmanhialaa
