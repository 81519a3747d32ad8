/-
  Walks over draw: a generator, its next transaction.
-/
import Derived.Test.YtccmgmjfcfacoaaDrwA
namespace Go.Cru
open Go
section
variable {w0 w : World} {bor : List Nat} {h : Mem}
theorem Own.unpack2 {A C : Mem} {r1 r2 : Res} (ho : Own w0 bor h w) (hh : h = A ++ bagR [r1, r2] :: C) : Own w0 bor (A ++ r1 :: r2 :: C) w := by
  subst hh
  refine ho.regroup (fun s hs => ?_) (by simp [bagR])
  simp only [List.mem_append, List.mem_cons] at hs
  rcases hs with hs | rfl | rfl | hs
  · exact ho.mine s (by simp [hs])
  · exact ho.mine (bagR [s, r2]) (by simp) s (by simp)
  · exact ho.mine (bagR [r1, s]) (by simp) s (by simp)
  · exact ho.mine s (by simp [hs])
theorem Own.pack2 {A C : Mem} {r1 r2 : Res} (ho : Own w0 bor h w) (hh : h = A ++ r1 :: r2 :: C) : Own w0 bor (A ++ bagR [r1, r2] :: C) w := by
  subst hh
  refine ho.regroup (fun s hs => ?_) (by simp [bagR])
  simp only [List.mem_append, List.mem_cons] at hs
  rcases hs with hs | rfl | hs
  · exact ho.mine s (by simp [hs])
  · intro t ht
    rcases List.mem_cons.1 ht with rfl | ht
    · exact ho.mine t (by simp)
    · rw [List.mem_singleton.1 ht]; exact ho.mine r2 (by simp)
  · exact ho.mine s (by simp [hs])
theorem Own.apart {i j : Nat} {r s : Res} (ho : Own w0 bor h w) (hi : h[i]? = some r) (hj : h[j]? = some s) (hne : j ≠ i) : ∀ k ∈ s.ids, k ∉ r.ids := nodup_flatMap_at h ho.nd hi hj hne
end
end Go.Cru
namespace Go.Proofs.Ytccmgmjfcfacoaa
open Go.Cru

def genC (p : PlD) (c : Nat) (n : Int) (bs : Nat) : List Value := [.int .i64 p.keys, .int .i64 p.most, .int .i64 p.reads, .int .i64 p.writes, .int .i64 p.both, .int .i64 p.scans, .int .i64 c, .int .i64 n, .pointer (some ⟨bs, 0, none⟩)]
def genB (bg bs : Nat) (p : PlD) (c : Nat) (n : Int) : Res := blk bg (.cells (genC p c n bs).toArray 78 (0, 0))
/-- A generator: its block and its source. -/
def genR (bg bs : Nat) (p : PlD) (c : Nat) (n : Int) (s : Nat) : Res := bagR [srcR bs s, genB bg bs p c n]

theorem dNew_gives (p : PlD) (cl : Int) (s : Nat) (hs : s < 18446744073709551616) (w0 : World) : Gives Try.prog 26 [agI p.is, .int .i64 cl, .int .u64 s] w0 [] fun v h =>
    (¬ (okP p ∧ 1 ≤ cl ∧ cl ≤ 16) ∧ v = .tuple #[.pointer none, .int .i64 1] ∧ h = []) ∨ (okP p ∧ ∃ c bg bs : Nat, cl = c ∧ 1 ≤ c ∧ c ≤ 16 ∧ v = .tuple #[.pointer (some ⟨bg, 0, none⟩), .int .i64 0] ∧ h = [genR bg bs p c 0 (frk s c)]) := by
  refine gives_of Try.func26 rfl rfl rfl (Own.start w0) ?_
  refine TC_seq ?_
  refine TC_region ?_
  refine OL_loud rfl rfl rfl (LO.box rfl rfl) ?_
  rintro _ _ ⟨b3, _, rfl, rfl⟩
  refine OL_sil rfl rfl rfl (Sil.assign rfl rfl) ?_
  refine OL_sil rfl rfl rfl (Sil.assign rfl rfl) ?_
  refine OL_nil ?_
  refine TC_seq ?_
  refine TC_seq ?_
  refine TC_region ?_
  refine OL_sil rfl rfl rfl (by first | exact Sil.ownV rfl rfl (by first | exact at0 | exact at1 | exact at2 | exact at3 | exact at4 | exact at5 | exact at6 | exact at7 | exact at8 | exact at9 | exact at10 | exact at11 | exact at12 | exact at13 | exact at14 | exact at15) Try.underlying43 rfl (by rfl) | exact Sil.wholeV rfl rfl (by first | exact at0 | exact at1 | exact at2 | exact at3 | exact at4 | exact at5 | exact at6 | exact at7 | exact at8 | exact at9 | exact at10 | exact at11 | exact at12 | exact at13 | exact at14 | exact at15) ⟨Try.underlying43, rfl⟩ rfl (by rfl)) ?_
  refine OL_pure rfl rfl rfl (LO.pure rfl ent27 rfl (fun w _ => Check_gives p w)) ?_
  refine OL_sil rfl rfl rfl (Sil.assign rfl rfl) ?_
  refine OL_nil ?_
  refine TC_seq ?_
  refine TC_region ?_
  refine OL_sil rfl rfl rfl (Sil.move rfl rfl) ?_
  refine OL_sil rfl rfl rfl (Sil.neq rfl rfl rfl) ?_
  refine OL_nil ?_
  refine TC_ifn rfl (fun ht12 => ?_) (fun ht12 => ?_)
  · have hno : ¬ okP p := fun h => ht12 (if_pos h)
    refine TC_slot 8 (v := .int .i64 1) rfl (by rw [if_neg hno]) ?_
    refine TC_seq ?_
    refine TC_region ?_
    refine OL_sil rfl rfl rfl (Sil.move rfl rfl) ?_
    refine OL_sil rfl rfl rfl (Sil.assign rfl rfl) ?_
    refine OL_sil rfl rfl rfl (Sil.assign rfl rfl) ?_
    refine OL_nil ?_
    refine TC_ret ?_
    exact ret2 rfl rfl rfl (.inl ⟨fun h => hno h.1, rfl, rfl⟩)
  · have hok : okP p := by refine Decidable.byContradiction fun h => ?_; rw [if_neg h] at ht12; cases ht12
    refine TC_skip ?_
    refine TC_seq ?_
    refine TC_seq ?_
    refine TC_bool 19 (cl < 1 ∨ cl > 16) ?_ ?_
    · refine TC_region ?_
      refine OL_sil rfl rfl rfl (Sil.move rfl rfl) ?_
      refine OL_sil rfl rfl rfl (Sil.lss rfl rfl rfl) ?_
      refine OL_sil rfl rfl rfl (Sil.move rfl rfl) ?_
      refine OL_dec 16 rfl (fun ht16 => ?_) (fun ht16 => ?_)
      · refine OL_skip rfl rfl rfl ?_
        refine OL_skip rfl rfl rfl ?_
        refine OL_sil rfl rfl rfl (Sil.pick1 rfl rfl rfl) ?_
        refine OL_nil ?_
        (refine Cont.then_intro (And.intro (by (repeat' (first | exact trivial | refine ⟨rfl, ?_⟩))) (And.intro ?_ rfl)); first | exact slotV rfl (congrArg Value.bool (decide_eq_true (by omega)).symm) | exact slotV rfl (congrArg Value.bool (decide_eq_false (by omega)).symm) | exact slotV rfl (congrArg Value.bool (decide_eq_decide.2 (by omega))) | exact slotV rfl (congrArg Value.bool (decide_not.symm.trans (decide_eq_decide.2 (by omega)))))
      · refine OL_sil rfl rfl rfl (Sil.move rfl rfl) ?_
        refine OL_sil rfl rfl rfl (Sil.gtr rfl rfl rfl) ?_
        refine OL_sil rfl rfl rfl (Sil.pick0 rfl rfl rfl) ?_
        refine OL_nil ?_
        (refine Cont.then_intro (And.intro (by (repeat' (first | exact trivial | refine ⟨rfl, ?_⟩))) (And.intro ?_ rfl)); first | exact slotV rfl (congrArg Value.bool (decide_eq_true (by omega)).symm) | exact slotV rfl (congrArg Value.bool (decide_eq_false (by omega)).symm) | exact slotV rfl (congrArg Value.bool (decide_eq_decide.2 (by omega))) | exact slotV rfl (congrArg Value.bool (decide_not.symm.trans (decide_eq_decide.2 (by omega)))))
    refine TC_if rfl (fun ht19 => ?_) (fun ht19 => ?_)
    · refine TC_seq ?_
      refine TC_region ?_
      refine OL_sil rfl rfl rfl (Sil.assign rfl rfl) ?_
      refine OL_sil rfl rfl rfl (Sil.assign rfl rfl) ?_
      refine OL_nil ?_
      refine TC_ret ?_
      exact ret2 rfl rfl rfl (.inl ⟨fun h => by omega, rfl, rfl⟩)
    · refine TC_skip ?_
      refine TC_seq ?_
      obtain ⟨c, rfl⟩ := Int.eq_ofNat_of_zero_le (show 0 ≤ cl by omega)
      refine TC_drawS [blk b3 (.cells (iv p.is).toArray 43 (0, 0))] (by (repeat' (first | exact all_nil | refine all_cons (by repeat (first | exact List.Mem.head _ | refine List.Mem.tail _ ?_)) ?_))) rfl (fun j => false) ?_
      intro hs0
      refine DL_take 0 rfl (by kernel_rfl) rfl rfl rfl (by first | exact Sil.ownV rfl rfl (by first | exact at0 | exact at1 | exact at2 | exact at3 | exact at4 | exact at5 | exact at6 | exact at7 | exact at8 | exact at9 | exact at10 | exact at11 | exact at12 | exact at13 | exact at14 | exact at15) Try.underlying43 rfl (by rfl) | exact Sil.wholeV rfl rfl (by first | exact at0 | exact at1 | exact at2 | exact at3 | exact at4 | exact at5 | exact at6 | exact at7 | exact at8 | exact at9 | exact at10 | exact at11 | exact at12 | exact at13 | exact at14 | exact at15) ⟨Try.underlying43, rfl⟩ rfl (by rfl)) (by (repeat' (first | exact all_nil | refine all_cons (by repeat (first | exact List.Mem.head _ | refine List.Mem.tail _ ?_)) ?_))) ?_
      refine DL_take 1 rfl (by kernel_rfl) rfl rfl rfl (Sil.move rfl rfl) (by (repeat' (first | exact all_nil | refine all_cons (by repeat (first | exact List.Mem.head _ | refine List.Mem.tail _ ?_)) ?_))) ?_
      refine DL_take 2 rfl (by kernel_rfl) rfl rfl rfl (Sil.move rfl rfl) (by (repeat' (first | exact all_nil | refine all_cons (by repeat (first | exact List.Mem.head _ | refine List.Mem.tail _ ?_)) ?_))) ?_
      refine DL_take 4 rfl (by kernel_rfl) rfl rfl rfl (Sil.move rfl rfl) (by (repeat' (first | exact all_nil | refine all_cons (by repeat (first | exact List.Mem.head _ | refine List.Mem.tail _ ?_)) ?_))) ?_
      refine DL_take 5 rfl (by kernel_rfl) rfl rfl rfl (Sil.conv rfl rfl Try.underlying3 Try.underlying22 (wrap_nat (a := c) (by omega))) (by (repeat' (first | exact all_nil | refine all_cons (by repeat (first | exact List.Mem.head _ | refine List.Mem.tail _ ?_)) ?_))) ?_
      refine DL_one 3 (by kernel_rfl) ?_
      refine DS_loud rfl rfl rfl rfl (LO.calls rfl ent17 rfl (fun w _ => New_gives s w)) ?_
      rintro _ _ ⟨_, ⟨b0, rfl, rfl⟩, rfl⟩
      refine ⟨.inr (by (repeat' (first | exact all_nil | refine all_cons (by repeat (first | exact List.Mem.head _ | refine List.Mem.tail _ ?_)) ?_))), ?_⟩
      refine DL_one 6 (by kernel_rfl) ?_
      refine DS_loud rfl rfl rfl rfl (LO.callsLent (R := fun v h => ∃ b', v = .pointer (some ⟨b', 0, none⟩) ∧ h = [srcR b0 s, srcR b' (frk s c)]) 1 rfl ent40 rfl rfl (fun w _ ho' => (Fork_gives b0 s c hs w ho').mono fun v h ⟨q, e1, e2⟩ => ⟨_, _, e2, rfl, q, e1, rfl⟩)) ?_
      rintro _ _ ⟨r', h1, ⟨bs, rfl, hh⟩, rfl⟩
      refine ⟨.inr (by (repeat' (first | exact all_nil | refine all_cons (by repeat (first | exact List.Mem.head _ | refine List.Mem.tail _ ?_)) ?_))), ?_⟩
      obtain ⟨rfl, rfl⟩ := List.cons.inj hh
      refine DL_take 7 rfl (by kernel_rfl) rfl rfl rfl (Sil.buildS (vs := [(0, agI p.is), (1, .int .i64 c), (3, .pointer (some ⟨bs, 0, none⟩))]) (cs := (genC p c 0 bs).toArray) (ss := [6, 1, 1, 1]) rfl rfl Try.underlying78 rfl rfl (by kernel_rfl)) (by (repeat' (first | exact all_nil | refine all_cons (by repeat (first | exact List.Mem.head _ | refine List.Mem.tail _ ?_)) ?_))) ?_
      refine DL_one 8 (by kernel_rfl) ?_
      refine DS_loud rfl rfl rfl rfl (LO.box rfl rfl) ?_
      rintro _ _ ⟨bg, _, rfl, rfl⟩
      refine ⟨.inr (by (repeat' (first | exact all_nil | refine all_cons (by repeat (first | exact List.Mem.head _ | refine List.Mem.tail _ ?_)) ?_))), ?_⟩
      refine DL_take 9 rfl (by kernel_rfl) rfl rfl rfl (Sil.assign rfl rfl) (by (repeat' (first | exact all_nil | refine all_cons (by repeat (first | exact List.Mem.head _ | refine List.Mem.tail _ ?_)) ?_))) ?_
      refine DL_take 10 rfl (by kernel_rfl) rfl rfl rfl (Sil.assign rfl rfl) (by (repeat' (first | exact all_nil | refine all_cons (by repeat (first | exact List.Mem.head _ | refine List.Mem.tail _ ?_)) ?_))) ?_
      refine DL_done (by kernel_rfl) ?_
      refine TC_own (h' := [genR bg bs p c 0 (frk s c)]) (fun w hw => (hw.drop (h' := [srcR bs (frk s c), genB bg bs p c 0]) (List.Sublist.cons _ (List.Sublist.cons _ (List.Sublist.refl _)))).pack2 (A := []) (C := []) rfl) ?_
      refine TC_ret ?_
      exact ret2h rfl rfl rfl (List.Sublist.refl _) (.inr ⟨hok, c, bg, bs, rfl, by omega, by omega, rfl, rfl⟩)

theorem or15 (n c : Nat) (hc : 1 ≤ c ∧ c ≤ 16) : (n * 2 ^ 4) ||| (c - 1) = 16 * n + (c - 1) := by
  rw [Nat.mul_comm, ← Nat.two_pow_add_eq_or_of_lt (by omega)]
theorem value_gives (bg bs : Nat) (p : PlD) (c n : Nat) (hc : 1 ≤ c ∧ c ≤ 16) (hn : n ≤ 1000000) (w0 : World) (ho : Own w0 [bg] [genB bg bs p c n] w0) :
    Gives Try.prog 41 [.pointer (some ⟨bg, 0, none⟩)] w0 [bg] fun v h => v = .int .i64 ((16 * (n + 1) + (c - 1) : Nat) : Int) ∧ h = [genB bg bs p c ((n + 1 : Nat) : Int)] := by
  refine gives_of Try.func41 rfl rfl rfl ho ?_
  refine TC_seq ?_
  refine TC_region ?_
  refine OL_sil rfl rfl rfl (Sil.assign rfl rfl) ?_
  refine OL_nil ?_
  refine TC_seq ?_
  refine TC_region ?_
  refine OL_sil rfl rfl rfl (Sil.move rfl rfl) ?_
  refine OL_sil rfl rfl rfl (Sil.nilCheck rfl rfl) ?_
  refine OL_sil rfl rfl rfl (Sil.fieldLoc 2 rfl rfl Try.underlying78 rfl rfl) ?_
  refine OL_sil rfl rfl rfl (Sil.ownL 0 rfl rfl rfl Try.underlying3 rfl rfl) ?_
  refine OL_sil rfl rfl rfl (Sil.add rfl rfl rfl (by omega) (by omega)) ?_
  refine OL_slot 7 (v := .int .i64 ((n + 1 : Nat) : Int)) rfl (congrArg _ (by omega)) ?_
  refine OL_sil rfl rfl rfl (Sil.nilCheck rfl rfl) ?_
  refine OL_sil rfl rfl rfl (Sil.fieldLoc 2 rfl rfl Try.underlying78 rfl rfl) ?_
  refine OL_loud0 rfl rfl (LO.storeAs 0 (genC p c ((n + 1 : Nat) : Int) bs).toArray rfl rfl rfl rfl rfl rfl (oneC_int _ _) (by show 8 ≤ 9; decide) rfl) ?_
  rintro _ _ ⟨rfl, rfl⟩
  refine OL_nil ?_
  refine TC_seq ?_
  refine TC_draw rfl (fun j => false) ?_
  refine DL_take 0 rfl (by kernel_rfl) rfl rfl rfl (Sil.move rfl rfl) (fun _ hr => hr) ?_
  refine DL_take 1 rfl (by kernel_rfl) rfl rfl rfl (Sil.nilCheck rfl rfl) (fun _ hr => hr) ?_
  refine DL_take 2 rfl (by kernel_rfl) rfl rfl rfl (Sil.fieldLoc 2 rfl rfl Try.underlying78 rfl rfl) (fun _ hr => hr) ?_
  refine DL_take 3 rfl (by kernel_rfl) rfl rfl rfl (Sil.ownL 0 rfl rfl rfl Try.underlying3 rfl rfl) (fun _ hr => hr) ?_
  refine DL_take 4 rfl (by kernel_rfl) rfl rfl rfl (Sil.shl (i := n + 1) (m := 4) rfl rfl rfl (by decide) (wrap_natI (by omega))) (fun _ hr => hr) ?_
  refine DL_take 5 rfl (by kernel_rfl) rfl rfl rfl (Sil.move rfl rfl) (fun _ hr => hr) ?_
  refine DL_take 6 rfl (by kernel_rfl) rfl rfl rfl (Sil.nilCheck rfl rfl) (fun _ hr => hr) ?_
  refine DL_take 7 rfl (by kernel_rfl) rfl rfl rfl (Sil.fieldLoc 1 rfl rfl Try.underlying78 rfl rfl) (fun _ hr => hr) ?_
  refine DL_take 8 rfl (by kernel_rfl) rfl rfl rfl (Sil.ownL 0 rfl rfl rfl Try.underlying3 rfl rfl) (fun _ hr => hr) ?_
  refine DL_take 9 rfl (by kernel_rfl) rfl rfl rfl (Sil.sub rfl rfl rfl (by omega) (by omega)) (fun _ hr => hr) ?_
  refine DL_take 10 rfl (by kernel_rfl) rfl rfl rfl (Sil.or (i := (n + 1) * 2 ^ 4) (j := c - 1) rfl rfl (slotI rfl (by omega)) (by omega) (by omega)) (fun _ hr => hr) ?_
  refine DL_take 11 rfl (by kernel_rfl) rfl rfl rfl (Sil.assign rfl rfl) (fun _ hr => hr) ?_
  refine DL_done (by kernel_rfl) ?_
  refine TC_ret ?_
  exact ret1h rfl rfl (List.Sublist.refl _) ⟨by rw [or15 _ _ hc], rfl⟩

/-! ### what is drawn -/
structure DSt where
  s : Nat
  n : Nat
  out : List OpD
def rdsK (key : Nat) (m : Nat) : List OpD := (List.range m).map fun i => ⟨1, ((key + i : Nat) : Int), 0⟩
theorem rdsK_succ (key m : Nat) : rdsK key (m + 1) = rdsK key m ++ [⟨1, ((key + m : Nat) : Int), 0⟩] := by simp [rdsK, List.range_succ]
theorem rdsK_length (key m : Nat) : (rdsK key m).length = m := by simp [rdsK]
def cntD (p : PlD) (want len key m : Nat) : Nat := 1 + min (min m (want - len - 1)) ((p.keys - 1).toNat - key)
def sumP (p : PlD) : Int := p.reads + p.writes + p.both + p.scans
def wrD (c n key : Nat) : OpD := ⟨2, key, ((16 * (n + 1) + (c - 1) : Nat) : Int)⟩
def stepX (p : PlD) (c want : Nat) (st : DSt) (key x : Nat) (s2 : Nat) : DSt :=
  if (x : Int) < p.reads then ⟨s2, st.n, st.out ++ [⟨1, key, 0⟩]⟩
  else if (x : Int) < p.reads + p.writes then ⟨s2, st.n + 1, st.out ++ [wrD c st.n key]⟩
  else if (x : Int) < p.reads + p.writes + p.both then
    if st.out.length + 1 < want then ⟨s2, st.n + 1, st.out ++ [⟨1, key, 0⟩] ++ [wrD c st.n key]⟩ else ⟨s2, st.n, st.out ++ [⟨1, key, 0⟩]⟩
  else ⟨nxt s2, st.n, st.out ++ rdsK key (cntD p want st.out.length key (bel s2 3))⟩
def stepD (p : PlD) (c want : Nat) (st : DSt) : DSt := stepX p c want st (bel st.s p.keys) (bel (nxt st.s) (sumP p)) (nxt (nxt st.s))
theorem stepX_len (p : PlD) (c want : Nat) (st : DSt) (key x s2 : Nat) (hl : st.out.length < want) :
    st.out.length < (stepX p c want st key x s2).out.length ∧ (stepX p c want st key x s2).out.length ≤ want ∧ st.n ≤ (stepX p c want st key x s2).n ∧ (stepX p c want st key x s2).n + st.out.length ≤ st.n + (stepX p c want st key x s2).out.length := by
  unfold stepX
  split
  · simp; omega
  · split
    · simp; omega
    · split
      · split
        · simp; omega
        · simp; omega
      · simp only [List.length_append, rdsK_length, cntD]; omega
theorem stepD_len (p : PlD) (c want : Nat) (st : DSt) (hl : st.out.length < want) : st.out.length < (stepD p c want st).out.length ∧ (stepD p c want st).out.length ≤ want ∧ st.n ≤ (stepD p c want st).n ∧ (stepD p c want st).n + st.out.length ≤ st.n + (stepD p c want st).out.length := stepX_len p c want st (bel st.s p.keys) (bel (nxt st.s) (sumP p)) (nxt (nxt st.s)) hl
def finD (p : PlD) (c want : Nat) (st : DSt) : DSt := if _h : st.out.length < want then finD p c want (stepD p c want st) else st
termination_by want - st.out.length
decreasing_by
  have := stepD_len p c want st _h
  omega
theorem finD_step (p : PlD) (c want : Nat) (st : DSt) (h : st.out.length < want) : finD p c want st = finD p c want (stepD p c want st) := by rw [finD, dif_pos h]
theorem finD_stop (p : PlD) (c want : Nat) (st : DSt) (h : ¬ st.out.length < want) : finD p c want st = st := by rw [finD, dif_neg h]
/-- One transaction. -/
def nextD (p : PlD) (c s n : Nat) : DSt := finD p c (bel s p.most + 1) ⟨nxt s, n, []⟩
theorem bel_below (s : Nat) (m : Int) (hm : 1 ≤ m) : (bel s m : Int) < m := by
  by_cases h : m ≤ 1
  · unfold bel; rw [if_pos h]; omega
  · exact bel_lt s m (by omega)
def wts (p : PlD) : Nat → Int
  | 0 => p.reads
  | 1 => p.writes
  | 2 => p.both
  | _ => p.scans
theorem wts_sum (p : PlD) (hp : okP p) : wsum (wts p) 4 = sumP p := by
  unfold okP wOK at hp
  have h : ∀ w, 0 ≤ w ∧ w ≤ 1000 → cl w = w := fun w hw => by unfold cl; omega
  simp only [wsum, wts, sumP]
  rw [h _ hp.1.1, h _ hp.1.2.1, h _ hp.1.2.2.1, h _ hp.1.2.2.2]
  omega
theorem wts_pick (p : PlD) (hp : okP p) (x : Nat) (hx : (x : Int) < sumP p) : (pickW (wts p) x 4).getD 0 = if (x : Int) < p.reads then 0 else if (x : Int) < p.reads + p.writes then 1 else if (x : Int) < p.reads + p.writes + p.both then 2 else 3 := by
  unfold okP wOK at hp
  unfold sumP at hx
  have h : ∀ w, 0 ≤ w ∧ w ≤ 1000 → cl w = w := fun w hw => by unfold cl; omega
  simp only [pickW, wsum, wts]
  rw [h _ hp.1.1, h _ hp.1.2.1, h _ hp.1.2.2.1, h _ hp.1.2.2.2, Int.zero_add]
  by_cases h1 : (x : Int) < p.reads
  · simp [h1]
  · by_cases h2 : (x : Int) < p.reads + p.writes
    · simp [h1, h2]
    · by_cases h3 : (x : Int) < p.reads + p.writes + p.both
      · simp [h1, h2, h3]
      · simp [h1, h2, h3, hx]
end Go.Proofs.Ytccmgmjfcfacoaa
