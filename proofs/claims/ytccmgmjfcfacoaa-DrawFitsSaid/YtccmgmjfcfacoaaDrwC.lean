/-
  Walk: a generator's next transaction.
-/
import Derived.Test.YtccmgmjfcfacoaaDrwB
namespace Go.Proofs.Ytccmgmjfcfacoaa
open Go.Cru

theorem dNil_gives (w0 : World) : Gives Try.prog 28 [.pointer none] w0 [] fun v h => v = .slice none 0 0 ∧ h = [] := by
  refine gives_of Try.func28 rfl rfl rfl (Own.start w0) ?_
  refine TC_seq ?_
  refine TC_region ?_
  refine OL_sil rfl rfl rfl (Sil.assign rfl rfl) ?_
  refine OL_nil ?_
  refine TC_seq ?_
  refine TC_seq ?_
  refine TC_region ?_
  refine OL_sil rfl rfl rfl (Sil.move rfl rfl) ?_
  refine OL_sil rfl rfl rfl (Sil.eqlNil rfl rfl rfl Try.underlying46) ?_
  refine OL_nil ?_
  refine TC_yes rfl ?_
  refine TC_seq ?_
  refine TC_region ?_
  refine OL_sil rfl rfl rfl (Sil.assign rfl rfl) ?_
  refine OL_nil ?_
  refine TC_ret ?_
  exact ret1 rfl rfl ⟨rfl, rfl⟩

theorem wts_slice {w : World} {q : Nat} {p : PlD} (hq : (blk q (.cells #[.int .i64 p.reads, .int .i64 p.writes, .int .i64 p.both, .int .i64 p.scans] 3 (0, 0))).P (hf w)) : IntSl w (some ⟨q, 0, none⟩) 4 (wts p) := fun i hi => by
  refine ⟨_, rfl, ?_⟩
  have hq' : hf w q = _ := hq
  rw [add_lit, cell_hf, cellF, hq']
  match i, hi with
  | 0, _ | 1, _ | 2, _ | 3, _ => rfl

theorem dNext_gives (bg bs : Nat) (p : PlD) (c n s : Nat) (hp : okP p) (hc : 1 ≤ c ∧ c ≤ 16) (hn : n ≤ 100000) (w0 : World) (ho : Own w0 [bs, bg] [genR bg bs p c n s] w0) :
    Gives Try.prog 28 [.pointer (some ⟨bg, 0, none⟩)] w0 [bs, bg] fun v h => ∃ ao cap, v = .slice ao (nextD p c s n).out.length cap ∧ h = [genR bg bs p c (nextD p c s n).n (nextD p c s n).s, sq ao (nextD p c s n).out.length cap 63 3 (opsC (nextD p c s n).out)] := by
  have hp' := hp
  unfold okP wOK at hp'
  have hwant := bel_below s p.most (by omega)
  obtain ⟨want, hw⟩ : ∃ want, want = bel s p.most + 1 := ⟨_, rfl⟩
  refine gives_of Try.func28 rfl rfl rfl ho ?_
  refine TC_seq ?_
  refine TC_own (h' := [srcR bs s, genB bg bs p c n]) (fun w hw => hw.unpack2 (A := []) (C := []) rfl) ?_
  refine TC_region ?_
  refine OL_sil rfl rfl rfl (Sil.assign rfl rfl) ?_
  refine OL_nil ?_
  refine TC_seq ?_
  refine TC_seq ?_
  refine TC_region ?_
  refine OL_sil rfl rfl rfl (Sil.move rfl rfl) ?_
  refine OL_sil rfl rfl rfl (Sil.eqlNil rfl rfl rfl Try.underlying46) ?_
  refine OL_nil ?_
  refine TC_no rfl ?_
  refine TC_skip ?_
  refine TC_seq ?_
  refine TC_drawS [genB bg bs p c n] (by (repeat' (first | exact all_nil | refine all_cons (by repeat (first | exact List.Mem.head _ | refine List.Mem.tail _ ?_)) ?_))) rfl (fun j => false) ?_
  intro hs0
  refine DL_take 0 rfl (by kernel_rfl) rfl rfl rfl (Sil.move rfl rfl) (by (repeat' (first | exact all_nil | refine all_cons (by repeat (first | exact List.Mem.head _ | refine List.Mem.tail _ ?_)) ?_))) ?_
  refine DL_take 1 rfl (by kernel_rfl) rfl rfl rfl (Sil.nilCheck rfl rfl) (by (repeat' (first | exact all_nil | refine all_cons (by repeat (first | exact List.Mem.head _ | refine List.Mem.tail _ ?_)) ?_))) ?_
  refine DL_take 2 rfl (by kernel_rfl) rfl rfl rfl (Sil.fieldLoc 3 rfl rfl Try.underlying78 rfl rfl) (by (repeat' (first | exact all_nil | refine all_cons (by repeat (first | exact List.Mem.head _ | refine List.Mem.tail _ ?_)) ?_))) ?_
  refine DL_take 3 rfl (by kernel_rfl) rfl rfl rfl (Sil.ownL 0 rfl rfl rfl Try.underlying26 rfl rfl) (by (repeat' (first | exact all_nil | refine all_cons (by repeat (first | exact List.Mem.head _ | refine List.Mem.tail _ ?_)) ?_))) ?_
  refine DL_take 4 rfl (by kernel_rfl) rfl rfl rfl (Sil.move rfl rfl) (by (repeat' (first | exact all_nil | refine all_cons (by repeat (first | exact List.Mem.head _ | refine List.Mem.tail _ ?_)) ?_))) ?_
  refine DL_take 5 rfl (by kernel_rfl) rfl rfl rfl (Sil.nilCheck rfl rfl) (by (repeat' (first | exact all_nil | refine all_cons (by repeat (first | exact List.Mem.head _ | refine List.Mem.tail _ ?_)) ?_))) ?_
  refine DL_take 6 rfl (by kernel_rfl) rfl rfl rfl (Sil.fieldLoc 0 rfl rfl Try.underlying78 rfl rfl) (by (repeat' (first | exact all_nil | refine all_cons (by repeat (first | exact List.Mem.head _ | refine List.Mem.tail _ ?_)) ?_))) ?_
  refine DL_take 7 rfl (by kernel_rfl) rfl rfl rfl (Sil.fieldLoc 1 rfl rfl Try.underlying43 rfl rfl) (by (repeat' (first | exact all_nil | refine all_cons (by repeat (first | exact List.Mem.head _ | refine List.Mem.tail _ ?_)) ?_))) ?_
  refine DL_take 8 rfl (by kernel_rfl) rfl rfl rfl (Sil.ownL 0 rfl rfl rfl Try.underlying3 rfl rfl) (by (repeat' (first | exact all_nil | refine all_cons (by repeat (first | exact List.Mem.head _ | refine List.Mem.tail _ ?_)) ?_))) ?_
  refine DL_one 9 (by kernel_rfl) ?_
  refine DS_loud rfl rfl rfl rfl (LO.lent (r' := srcR bs (nxt s)) 0 rfl ent21 rfl rfl (Eq.refl [bs]) (fun w _ ho' => Below_gives bs s p.most (by omega) w ho')) ?_
  rintro _ _ ⟨rfl, rfl⟩
  refine ⟨.inr (by (repeat' (first | exact all_nil | refine all_cons (by repeat (first | exact List.Mem.head _ | refine List.Mem.tail _ ?_)) ?_))), ?_⟩
  refine DL_take 10 rfl (by kernel_rfl) rfl rfl rfl (Sil.add rfl rfl rfl (by omega) (by omega)) (by (repeat' (first | exact all_nil | refine all_cons (by repeat (first | exact List.Mem.head _ | refine List.Mem.tail _ ?_)) ?_))) ?_
  refine DL_take 11 rfl (by kernel_rfl) rfl rfl rfl (Sil.assign rfl rfl) (by (repeat' (first | exact all_nil | refine all_cons (by repeat (first | exact List.Mem.head _ | refine List.Mem.tail _ ?_)) ?_))) ?_
  refine DL_done (by kernel_rfl) ?_
  refine TC_own (fun w hw => hw.nil 63 3) ?_
  refine TC_seq ?_
  refine TC_region ?_
  refine OL_sil rfl rfl rfl (Sil.assign rfl rfl) ?_
  refine OL_nil ?_
  refine TC_seq ?_
  refine TC_block ?_
  refine TC_loop (fun ((st, ao, cap) : DSt × Option Addr × Nat) => [(0, .pointer (some ⟨bg, 0, none⟩)), (3, .int .i64 want), (4, .slice ao st.out.length cap)]) (fun (st, ao, cap) => [srcR bs st.s, genB bg bs p c st.n, sq ao st.out.length cap 63 3 (opsC st.out)]) (fun (st, _, _) => finD p c want st = nextD p c s n ∧ st.out.length ≤ want ∧ st.n ≤ n + st.out.length) (fun (st, _, _) => want - st.out.length) (⟨nxt s, n, []⟩, none, 0) ?_ ?_
  · exact ⟨⟨by rw [hw]; rfl, Nat.zero_le _, Nat.le_add_right _ _⟩, ⟨rfl, slotI rfl (by omega), rfl, trivial⟩, List.Sublist.refl _⟩
  · rintro ⟨st, ao, cap⟩ ⟨hfin, hle, hnn⟩
    have hfin : finD p c want st = nextD p c s n := hfin
    have hle : st.out.length ≤ want := hle
    have hnn : st.n ≤ n + st.out.length := hnn
    refine TC_seq ?_
    refine TC_seq ?_
    refine TC_region ?_
    refine OL_sil rfl rfl rfl (Sil.move rfl rfl) ?_
    refine OL_sil rfl rfl rfl (Sil.lenSl rfl rfl Try.underlying51) ?_
    refine OL_sil rfl rfl rfl (Sil.move rfl rfl) ?_
    refine OL_sil rfl rfl rfl (Sil.lss rfl rfl rfl) ?_
    refine OL_nil ?_
    refine TC_if rfl (fun ht23 => ?_) (fun ht23 => ?_)
    · have hlt : st.out.length < want := by omega
      rw [finD_step p c want st hlt] at hfin
      have hlen := stepD_len p c want st hlt
      have hkey := bel_below st.s p.keys (by omega)
      have hx := bel_below (nxt st.s) (sumP p) (by unfold sumP; omega)
      have hpick := wts_pick p hp (bel (nxt st.s) (sumP p)) hx
      have hstep : stepD p c want st = stepX p c want st (bel st.s p.keys) (bel (nxt st.s) (sumP p)) (nxt (nxt st.s)) := rfl
      rw [← wts_sum p hp] at hpick
      refine TC_skip ?_
      refine TC_block ?_
      refine TC_seq ?_
      refine TC_drawS [genB bg bs p c st.n] (by (repeat' (first | exact all_nil | refine all_cons (by repeat (first | exact List.Mem.head _ | refine List.Mem.tail _ ?_)) ?_))) rfl (fun j => false) ?_
      intro hs0
      refine DL_take 0 rfl (by kernel_rfl) rfl rfl rfl (Sil.move rfl rfl) (by (repeat' (first | exact all_nil | refine all_cons (by repeat (first | exact List.Mem.head _ | refine List.Mem.tail _ ?_)) ?_))) ?_
      refine DL_take 1 rfl (by kernel_rfl) rfl rfl rfl (Sil.nilCheck rfl rfl) (by (repeat' (first | exact all_nil | refine all_cons (by repeat (first | exact List.Mem.head _ | refine List.Mem.tail _ ?_)) ?_))) ?_
      refine DL_take 2 rfl (by kernel_rfl) rfl rfl rfl (Sil.fieldLoc 3 rfl rfl Try.underlying78 rfl rfl) (by (repeat' (first | exact all_nil | refine all_cons (by repeat (first | exact List.Mem.head _ | refine List.Mem.tail _ ?_)) ?_))) ?_
      refine DL_take 3 rfl (by kernel_rfl) rfl rfl rfl (Sil.ownL 0 rfl rfl rfl Try.underlying26 rfl rfl) (by (repeat' (first | exact all_nil | refine all_cons (by repeat (first | exact List.Mem.head _ | refine List.Mem.tail _ ?_)) ?_))) ?_
      refine DL_take 4 rfl (by kernel_rfl) rfl rfl rfl (Sil.move rfl rfl) (by (repeat' (first | exact all_nil | refine all_cons (by repeat (first | exact List.Mem.head _ | refine List.Mem.tail _ ?_)) ?_))) ?_
      refine DL_take 5 rfl (by kernel_rfl) rfl rfl rfl (Sil.nilCheck rfl rfl) (by (repeat' (first | exact all_nil | refine all_cons (by repeat (first | exact List.Mem.head _ | refine List.Mem.tail _ ?_)) ?_))) ?_
      refine DL_take 6 rfl (by kernel_rfl) rfl rfl rfl (Sil.fieldLoc 0 rfl rfl Try.underlying78 rfl rfl) (by (repeat' (first | exact all_nil | refine all_cons (by repeat (first | exact List.Mem.head _ | refine List.Mem.tail _ ?_)) ?_))) ?_
      refine DL_take 7 rfl (by kernel_rfl) rfl rfl rfl (Sil.fieldLoc 0 rfl rfl Try.underlying43 rfl rfl) (by (repeat' (first | exact all_nil | refine all_cons (by repeat (first | exact List.Mem.head _ | refine List.Mem.tail _ ?_)) ?_))) ?_
      refine DL_take 8 rfl (by kernel_rfl) rfl rfl rfl (Sil.ownL 0 rfl rfl rfl Try.underlying3 rfl rfl) (by (repeat' (first | exact all_nil | refine all_cons (by repeat (first | exact List.Mem.head _ | refine List.Mem.tail _ ?_)) ?_))) ?_
      refine DL_one 9 (by kernel_rfl) ?_
      refine DS_loud rfl rfl rfl rfl (LO.lent (r' := srcR bs (nxt st.s)) 0 rfl ent21 rfl rfl (Eq.refl [bs]) (fun w _ ho' => Below_gives bs st.s p.keys (by omega) w ho')) ?_
      rintro _ _ ⟨rfl, rfl⟩
      refine ⟨.inr (by (repeat' (first | exact all_nil | refine all_cons (by repeat (first | exact List.Mem.head _ | refine List.Mem.tail _ ?_)) ?_))), ?_⟩
      refine DL_take 10 rfl (by kernel_rfl) rfl rfl rfl (Sil.assign rfl rfl) (by (repeat' (first | exact all_nil | refine all_cons (by repeat (first | exact List.Mem.head _ | refine List.Mem.tail _ ?_)) ?_))) ?_
      refine DL_done (by kernel_rfl) ?_
      refine TC_seq ?_
      refine TC_drawS [genB bg bs p c st.n] (by (repeat' (first | exact all_nil | refine all_cons (by repeat (first | exact List.Mem.head _ | refine List.Mem.tail _ ?_)) ?_))) rfl (fun j => false) ?_
      intro hs0
      refine DL_take 0 rfl (by kernel_rfl) rfl rfl rfl (Sil.move rfl rfl) (by (repeat' (first | exact all_nil | refine all_cons (by repeat (first | exact List.Mem.head _ | refine List.Mem.tail _ ?_)) ?_))) ?_
      refine DL_take 1 rfl (by kernel_rfl) rfl rfl rfl (Sil.nilCheck rfl rfl) (by (repeat' (first | exact all_nil | refine all_cons (by repeat (first | exact List.Mem.head _ | refine List.Mem.tail _ ?_)) ?_))) ?_
      refine DL_take 2 rfl (by kernel_rfl) rfl rfl rfl (Sil.fieldLoc 3 rfl rfl Try.underlying78 rfl rfl) (by (repeat' (first | exact all_nil | refine all_cons (by repeat (first | exact List.Mem.head _ | refine List.Mem.tail _ ?_)) ?_))) ?_
      refine DL_take 3 rfl (by kernel_rfl) rfl rfl rfl (Sil.ownL 0 rfl rfl rfl Try.underlying26 rfl rfl) (by (repeat' (first | exact all_nil | refine all_cons (by repeat (first | exact List.Mem.head _ | refine List.Mem.tail _ ?_)) ?_))) ?_
      refine DL_take 4 rfl (by kernel_rfl) rfl rfl rfl (Sil.move rfl rfl) (by (repeat' (first | exact all_nil | refine all_cons (by repeat (first | exact List.Mem.head _ | refine List.Mem.tail _ ?_)) ?_))) ?_
      refine DL_take 5 rfl (by kernel_rfl) rfl rfl rfl (Sil.nilCheck rfl rfl) (by (repeat' (first | exact all_nil | refine all_cons (by repeat (first | exact List.Mem.head _ | refine List.Mem.tail _ ?_)) ?_))) ?_
      refine DL_take 6 rfl (by kernel_rfl) rfl rfl rfl (Sil.fieldLoc 0 rfl rfl Try.underlying78 rfl rfl) (by (repeat' (first | exact all_nil | refine all_cons (by repeat (first | exact List.Mem.head _ | refine List.Mem.tail _ ?_)) ?_))) ?_
      refine DL_take 7 rfl (by kernel_rfl) rfl rfl rfl (Sil.fieldLoc 2 rfl rfl Try.underlying43 rfl rfl) (by (repeat' (first | exact all_nil | refine all_cons (by repeat (first | exact List.Mem.head _ | refine List.Mem.tail _ ?_)) ?_))) ?_
      refine DL_take 8 rfl (by kernel_rfl) rfl rfl rfl (Sil.ownL 0 rfl rfl rfl Try.underlying3 rfl rfl) (by (repeat' (first | exact all_nil | refine all_cons (by repeat (first | exact List.Mem.head _ | refine List.Mem.tail _ ?_)) ?_))) ?_
      refine DL_take 9 rfl (by kernel_rfl) rfl rfl rfl (Sil.move rfl rfl) (by (repeat' (first | exact all_nil | refine all_cons (by repeat (first | exact List.Mem.head _ | refine List.Mem.tail _ ?_)) ?_))) ?_
      refine DL_take 10 rfl (by kernel_rfl) rfl rfl rfl (Sil.nilCheck rfl rfl) (by (repeat' (first | exact all_nil | refine all_cons (by repeat (first | exact List.Mem.head _ | refine List.Mem.tail _ ?_)) ?_))) ?_
      refine DL_take 11 rfl (by kernel_rfl) rfl rfl rfl (Sil.fieldLoc 0 rfl rfl Try.underlying78 rfl rfl) (by (repeat' (first | exact all_nil | refine all_cons (by repeat (first | exact List.Mem.head _ | refine List.Mem.tail _ ?_)) ?_))) ?_
      refine DL_take 12 rfl (by kernel_rfl) rfl rfl rfl (Sil.fieldLoc 3 rfl rfl Try.underlying43 rfl rfl) (by (repeat' (first | exact all_nil | refine all_cons (by repeat (first | exact List.Mem.head _ | refine List.Mem.tail _ ?_)) ?_))) ?_
      refine DL_take 13 rfl (by kernel_rfl) rfl rfl rfl (Sil.ownL 0 rfl rfl rfl Try.underlying3 rfl rfl) (by (repeat' (first | exact all_nil | refine all_cons (by repeat (first | exact List.Mem.head _ | refine List.Mem.tail _ ?_)) ?_))) ?_
      refine DL_take 14 rfl (by kernel_rfl) rfl rfl rfl (Sil.move rfl rfl) (by (repeat' (first | exact all_nil | refine all_cons (by repeat (first | exact List.Mem.head _ | refine List.Mem.tail _ ?_)) ?_))) ?_
      refine DL_take 15 rfl (by kernel_rfl) rfl rfl rfl (Sil.nilCheck rfl rfl) (by (repeat' (first | exact all_nil | refine all_cons (by repeat (first | exact List.Mem.head _ | refine List.Mem.tail _ ?_)) ?_))) ?_
      refine DL_take 16 rfl (by kernel_rfl) rfl rfl rfl (Sil.fieldLoc 0 rfl rfl Try.underlying78 rfl rfl) (by (repeat' (first | exact all_nil | refine all_cons (by repeat (first | exact List.Mem.head _ | refine List.Mem.tail _ ?_)) ?_))) ?_
      refine DL_take 17 rfl (by kernel_rfl) rfl rfl rfl (Sil.fieldLoc 4 rfl rfl Try.underlying43 rfl rfl) (by (repeat' (first | exact all_nil | refine all_cons (by repeat (first | exact List.Mem.head _ | refine List.Mem.tail _ ?_)) ?_))) ?_
      refine DL_take 18 rfl (by kernel_rfl) rfl rfl rfl (Sil.ownL 0 rfl rfl rfl Try.underlying3 rfl rfl) (by (repeat' (first | exact all_nil | refine all_cons (by repeat (first | exact List.Mem.head _ | refine List.Mem.tail _ ?_)) ?_))) ?_
      refine DL_take 19 rfl (by kernel_rfl) rfl rfl rfl (Sil.move rfl rfl) (by (repeat' (first | exact all_nil | refine all_cons (by repeat (first | exact List.Mem.head _ | refine List.Mem.tail _ ?_)) ?_))) ?_
      refine DL_take 20 rfl (by kernel_rfl) rfl rfl rfl (Sil.nilCheck rfl rfl) (by (repeat' (first | exact all_nil | refine all_cons (by repeat (first | exact List.Mem.head _ | refine List.Mem.tail _ ?_)) ?_))) ?_
      refine DL_take 21 rfl (by kernel_rfl) rfl rfl rfl (Sil.fieldLoc 0 rfl rfl Try.underlying78 rfl rfl) (by (repeat' (first | exact all_nil | refine all_cons (by repeat (first | exact List.Mem.head _ | refine List.Mem.tail _ ?_)) ?_))) ?_
      refine DL_take 22 rfl (by kernel_rfl) rfl rfl rfl (Sil.fieldLoc 5 rfl rfl Try.underlying43 rfl rfl) (by (repeat' (first | exact all_nil | refine all_cons (by repeat (first | exact List.Mem.head _ | refine List.Mem.tail _ ?_)) ?_))) ?_
      refine DL_take 23 rfl (by kernel_rfl) rfl rfl rfl (Sil.ownL 0 rfl rfl rfl Try.underlying3 rfl rfl) (by (repeat' (first | exact all_nil | refine all_cons (by repeat (first | exact List.Mem.head _ | refine List.Mem.tail _ ?_)) ?_))) ?_
      refine DL_one 24 (by kernel_rfl) ?_
      refine DS_loud rfl rfl rfl rfl (LO.buildSlice (vs := [(0, .int .i64 p.reads), (1, .int .i64 p.writes), (2, .int .i64 p.both), (3, .int .i64 p.scans)]) (cs := #[.int .i64 p.reads, .int .i64 p.writes, .int .i64 p.both, .int .i64 p.scans]) (e := 3) rfl rfl (fun w => by kernel_rfl)) ?_
      rintro _ _ ⟨q, rfl, rfl⟩
      refine ⟨.inr (by (repeat' (first | exact all_nil | refine all_cons (by repeat (first | exact List.Mem.head _ | refine List.Mem.tail _ ?_)) ?_))), ?_⟩
      refine DL_one 25 (by kernel_rfl) ?_
      refine DS_loud rfl rfl rfl rfl (LO.lent (r' := srcR bs (nxt (nxt st.s))) 0 rfl ent23 rfl rfl (Eq.refl [bs]) (fun w ho ho' => Weigh_gives bs (nxt st.s) (some ⟨q, 0, none⟩) 4 4 (wts p) (by decide) w ho' (wts_slice (ho.mine _ (List.mem_of_getElem? (i := 3) rfl))) (fun x hx _ => by cases hx; exact fun e => ho.apart (i := 0) (j := 3) rfl rfl (by decide) q (List.mem_singleton.2 rfl) (List.mem_singleton.2 e)))) ?_
      rintro _ _ ⟨rfl, rfl⟩
      refine ⟨.inr (by (repeat' (first | exact all_nil | refine all_cons (by repeat (first | exact List.Mem.head _ | refine List.Mem.tail _ ?_)) ?_))), ?_⟩
      refine DL_done (by kernel_rfl) ?_
      rw [hpick, wts_sum p hp]
      generalize hxx : bel (nxt st.s) (sumP p) = x at hx hpick hstep ⊢
      generalize bel st.s p.keys = key at hkey hstep ⊢
      unfold stepX at hstep
      refine TC_block ?_
      refine TC_seq ?_
      refine TC_region ?_
      refine OL_sil rfl rfl rfl (Sil.eql rfl rfl rfl) ?_
      refine OL_sil rfl rfl rfl (Sil.assign rfl rfl) ?_
      refine OL_nil ?_
      refine TC_if rfl (fun ht92 => ?_) (fun ht92 => ?_)
      · have e1 : (x : Int) < p.reads := by refine Decidable.byContradiction fun h => ?_; rw [if_neg h] at ht92; split at ht92 <;> first | omega | (split at ht92 <;> omega)
        rw [if_pos e1] at hstep
        rw [hstep] at hfin hlen
        refine TC_region ?_
        refine OL_sil rfl rfl rfl (Sil.move rfl rfl) ?_
        refine OL_sil rfl rfl rfl (Sil.move rfl rfl) ?_
        refine OL_sil rfl rfl rfl (Sil.buildS (vs := [(0, .int .i64 1), (1, .int .i64 key)]) (cs := #[.int .i64 1, .int .i64 key, .int .i64 0]) (ss := [1, 1, 1]) rfl rfl Try.underlying63 rfl rfl rfl) ?_
        refine OL_loud rfl rfl rfl (LO.buildSlice1 rfl rfl Try.underlying51 rfl rfl rfl) ?_
        rintro _ _ ⟨tb, rfl, rfl⟩
        refine OL_loud rfl rfl rfl (LO.append 2 (iv (OpD.is ⟨1, key, 0⟩)) rfl rfl rfl rfl elOp rfl (fun w hw => hw.cells (i := 4) rfl) (by simp [iv, OpD.is, oneC]) (by unfold maxLen; omega) (by omega)) ?_
        rintro _ _ ⟨ao1, cap1, rfl, rfl⟩
        refine OL_sil rfl rfl rfl (Sil.assign rfl rfl) ?_
        refine OL_nil ?_
        refine ⟨(⟨nxt (nxt st.s), st.n, st.out ++ [⟨1, key, 0⟩]⟩, ao1, cap1), ⟨⟨hfin, hlen.2.1, by have := hlen.2.2.2; show st.n ≤ n + (st.out ++ [_]).length; rw [List.length_append]; omega⟩, ⟨rfl, rfl, slotV rfl (by simp), trivial⟩, ?_⟩, by show want - (st.out ++ [_]).length < want - st.out.length; rw [List.length_append, List.length_singleton]; omega⟩
        show List.Sublist [_, _, sq ao1 (st.out ++ [_]).length cap1 _ 3 (opsC (st.out ++ [_]))] _
        rw [← opsC_snoc, List.length_append]
        exact List.Sublist.cons_cons _ (List.Sublist.cons_cons _ (List.Sublist.cons_cons _ (List.nil_sublist _)))
      · refine TC_seq ?_
        refine TC_region ?_
        refine OL_sil rfl rfl rfl (Sil.eql rfl rfl rfl) ?_
        refine OL_sil rfl rfl rfl (Sil.assign rfl rfl) ?_
        refine OL_nil ?_
        refine TC_if rfl (fun ht99 => ?_) (fun ht99 => ?_)
        · have e1 : ¬ (x : Int) < p.reads := fun h => ht92 (by rw [if_pos h]; rfl)
          have e2 : (x : Int) < p.reads + p.writes := by refine Decidable.byContradiction fun h => ?_; rw [if_neg e1, if_neg h] at ht99; split at ht99 <;> omega
          rw [if_neg e1, if_pos e2] at hstep
          rw [hstep] at hfin hlen
          refine TC_region ?_
          refine OL_sil rfl rfl rfl (Sil.move rfl rfl) ?_
          refine OL_sil rfl rfl rfl (Sil.move rfl rfl) ?_
          refine OL_sil rfl rfl rfl (Sil.move rfl rfl) ?_
          refine OL_loud rfl rfl rfl (LO.lent (r' := genB bg bs p c ((st.n + 1 : Nat) : Int)) 1 rfl ent41 rfl rfl (Eq.refl [bg]) (fun w _ ho' => value_gives bg bs p c st.n hc (by omega) w ho')) ?_
          rintro _ _ ⟨rfl, rfl⟩
          refine OL_sil rfl rfl rfl (Sil.buildAll [(0, _), (1, _), (2, _)] rfl rfl Try.underlying63 rfl rfl rfl) ?_
          refine OL_loud rfl rfl rfl (LO.buildSlice1 rfl rfl Try.underlying51 rfl rfl rfl) ?_
          rintro _ _ ⟨tb, rfl, rfl⟩
          refine OL_loud rfl rfl rfl (LO.append 2 (iv (wrD c st.n key).is) rfl rfl rfl rfl elOp rfl (fun w hw => hw.cells (i := 4) rfl) (by simp [iv, OpD.is, oneC]) (by unfold maxLen; omega) (by omega)) ?_
          rintro _ _ ⟨ao1, cap1, rfl, rfl⟩
          refine OL_sil rfl rfl rfl (Sil.assign rfl rfl) ?_
          refine OL_nil ?_
          refine ⟨(⟨nxt (nxt st.s), st.n + 1, st.out ++ [wrD c st.n key]⟩, ao1, cap1), ⟨⟨hfin, hlen.2.1, by have := hlen.2.2.2; show st.n + 1 ≤ n + (st.out ++ [_]).length; rw [List.length_append, List.length_singleton]; omega⟩, ⟨rfl, rfl, slotV rfl (by simp), trivial⟩, ?_⟩, by show want - (st.out ++ [_]).length < want - st.out.length; rw [List.length_append, List.length_singleton]; omega⟩
          show List.Sublist [_, _, sq ao1 (st.out ++ [_]).length cap1 _ 3 (opsC (st.out ++ [_]))] _
          rw [← opsC_snoc, List.length_append]
          exact List.Sublist.cons_cons _ (List.Sublist.cons_cons _ (List.Sublist.cons_cons _ (List.nil_sublist _)))
        · refine TC_seq ?_
          refine TC_region ?_
          refine OL_sil rfl rfl rfl (Sil.eql rfl rfl rfl) ?_
          refine OL_sil rfl rfl rfl (Sil.assign rfl rfl) ?_
          refine OL_nil ?_
          refine TC_if rfl (fun ht108 => ?_) (fun ht108 => ?_)
          · have e1 : ¬ (x : Int) < p.reads := fun h => ht92 (by rw [if_pos h]; rfl)
            have e2 : ¬ (x : Int) < p.reads + p.writes := fun h => ht99 (by rw [if_neg e1, if_pos h]; rfl)
            have e3 : (x : Int) < p.reads + p.writes + p.both := by refine Decidable.byContradiction fun h => ?_; rw [if_neg e1, if_neg e2, if_neg h] at ht108; omega
            rw [if_neg e1, if_neg e2, if_pos e3] at hstep
            refine TC_seq ?_
            refine TC_region ?_
            refine OL_sil rfl rfl rfl (Sil.move rfl rfl) ?_
            refine OL_sil rfl rfl rfl (Sil.move rfl rfl) ?_
            refine OL_sil rfl rfl rfl (Sil.buildS (vs := [(0, .int .i64 1), (1, .int .i64 key)]) (cs := #[.int .i64 1, .int .i64 key, .int .i64 0]) (ss := [1, 1, 1]) rfl rfl Try.underlying63 rfl rfl rfl) ?_
            refine OL_loud rfl rfl rfl (LO.buildSlice1 rfl rfl Try.underlying51 rfl rfl rfl) ?_
            rintro _ _ ⟨tb, rfl, rfl⟩
            refine OL_loud rfl rfl rfl (LO.append 2 (iv (OpD.is ⟨1, key, 0⟩)) rfl rfl rfl rfl elOp rfl (fun w hw => hw.cells (i := 4) rfl) (by simp [iv, OpD.is, oneC]) (by unfold maxLen; omega) (by omega)) ?_
            rintro _ _ ⟨ao1, cap1, rfl, rfl⟩
            refine OL_sil rfl rfl rfl (Sil.assign rfl rfl) ?_
            refine OL_nil ?_
            refine TC_seq ?_
            refine TC_region ?_
            refine OL_sil rfl rfl rfl (Sil.move rfl rfl) ?_
            refine OL_sil rfl rfl rfl (Sil.lenSl rfl rfl Try.underlying51) ?_
            refine OL_sil rfl rfl rfl (Sil.move rfl rfl) ?_
            refine OL_sil rfl rfl rfl (Sil.lss rfl rfl rfl) ?_
            refine OL_nil ?_
            refine TC_if rfl (fun ht118 => ?_) (fun ht118 => ?_)
            · rw [if_pos (by omega)] at hstep
              rw [hstep] at hfin hlen
              refine TC_region ?_
              refine OL_sil rfl rfl rfl (Sil.move rfl rfl) ?_
              refine OL_sil rfl rfl rfl (Sil.move rfl rfl) ?_
              refine OL_sil rfl rfl rfl (Sil.move rfl rfl) ?_
              refine OL_loud rfl rfl rfl (LO.lent (r' := genB bg bs p c ((st.n + 1 : Nat) : Int)) 1 rfl ent41 rfl rfl (Eq.refl [bg]) (fun w _ ho' => value_gives bg bs p c st.n hc (by omega) w ho')) ?_
              rintro _ _ ⟨rfl, rfl⟩
              refine OL_sil rfl rfl rfl (Sil.buildAll [(0, _), (1, _), (2, _)] rfl rfl Try.underlying63 rfl rfl rfl) ?_
              refine OL_loud rfl rfl rfl (LO.buildSlice1 rfl rfl Try.underlying51 rfl rfl rfl) ?_
              rintro _ _ ⟨tb2, rfl, rfl⟩
              refine OL_loud rfl rfl rfl (LO.append 2 (iv (wrD c st.n key).is) rfl rfl rfl rfl elOp rfl (fun w hw => hw.cells (i := 5) rfl) (by simp [iv, OpD.is, oneC]) (by unfold maxLen; omega) (by omega)) ?_
              rintro _ _ ⟨ao2, cap2, rfl, rfl⟩
              refine OL_sil rfl rfl rfl (Sil.assign rfl rfl) ?_
              refine OL_nil ?_
              refine ⟨(⟨nxt (nxt st.s), st.n + 1, st.out ++ [⟨1, key, 0⟩] ++ [wrD c st.n key]⟩, ao2, cap2), ⟨⟨hfin, hlen.2.1, by have := hlen.2.2.2; show st.n + 1 ≤ n + (st.out ++ [_] ++ [_]).length; rw [List.length_append, List.length_append, List.length_singleton]; omega⟩, ⟨rfl, rfl, slotV rfl (by simp), trivial⟩, ?_⟩, by show want - (st.out ++ [_] ++ [_]).length < want - st.out.length; rw [List.length_append, List.length_append, List.length_singleton, List.length_singleton]; omega⟩
              show List.Sublist [_, _, sq ao2 (st.out ++ [_] ++ [_]).length cap2 _ 3 (opsC (st.out ++ [_] ++ [_]))] _
              rw [← opsC_snoc, ← opsC_snoc, List.length_append, List.length_append]
              exact List.Sublist.cons_cons _ (List.Sublist.cons_cons _ (List.Sublist.cons_cons _ (List.nil_sublist _)))
            · rw [if_neg (by omega)] at hstep
              rw [hstep] at hfin hlen
              refine TC_skip ?_
              refine ⟨(⟨nxt (nxt st.s), st.n, st.out ++ [⟨1, key, 0⟩]⟩, ao1, cap1), ⟨⟨hfin, hlen.2.1, by have := hlen.2.2.2; show st.n ≤ n + (st.out ++ [_]).length; rw [List.length_append]; omega⟩, ⟨rfl, rfl, slotV rfl (by simp), trivial⟩, ?_⟩, by show want - (st.out ++ [_]).length < want - st.out.length; rw [List.length_append, List.length_singleton]; omega⟩
              show List.Sublist [_, _, sq ao1 (st.out ++ [_]).length cap1 _ 3 (opsC (st.out ++ [_]))] _
              rw [← opsC_snoc, List.length_append]
              exact List.Sublist.cons_cons _ (List.Sublist.cons_cons _ (List.Sublist.cons_cons _ (List.nil_sublist _)))
          · have e1 : ¬ (x : Int) < p.reads := fun h => ht92 (by rw [if_pos h]; rfl)
            have e2 : ¬ (x : Int) < p.reads + p.writes := fun h => ht99 (by rw [if_neg e1, if_pos h]; rfl)
            have e3 : ¬ (x : Int) < p.reads + p.writes + p.both := fun h => ht108 (by rw [if_neg e1, if_neg e2, if_pos h]; rfl)
            have hm3 := bel_below (nxt (nxt st.s)) 3 (by decide)
            rw [if_neg e1, if_neg e2, if_neg e3] at hstep
            rw [hstep] at hfin hlen
            refine TC_seq ?_
            refine TC_region ?_
            refine OL_sil rfl rfl rfl (Sil.move rfl rfl) ?_
            refine OL_sil rfl rfl rfl (Sil.nilCheck rfl rfl) ?_
            refine OL_sil rfl rfl rfl (Sil.fieldLoc 3 rfl rfl Try.underlying78 rfl rfl) ?_
            refine OL_sil rfl rfl rfl (Sil.ownL 1 rfl rfl rfl Try.underlying26 rfl rfl) ?_
            refine OL_loud rfl rfl rfl (LO.lent (r' := srcR bs (nxt (nxt (nxt st.s)))) 0 rfl ent21 rfl rfl (Eq.refl [bs]) (fun w _ ho' => Below_gives bs (nxt (nxt st.s)) 3 (by decide) w ho')) ?_
            rintro _ _ ⟨rfl, rfl⟩
            refine OL_sil rfl rfl rfl (Sil.add rfl rfl rfl (by omega) (by omega)) ?_
            refine OL_sil rfl rfl rfl (Sil.assign rfl rfl) ?_
            refine OL_nil ?_
            generalize bel (nxt (nxt st.s)) 3 = m at hm3 hfin hlen ⊢
            refine TC_block ?_
            refine TC_loop (fun ((k, ao, cap) : Nat × Option Addr × Nat) => [(0, .pointer (some ⟨bg, 0, none⟩)), (3, .int .i64 want), (4, .slice ao (st.out.length + k) cap), (5, .int .i64 ((key : Int) + k)), (6, .int .i64 ((m : Int) + 1 - k))]) (fun (k, ao, cap) => [srcR bs (nxt (nxt (nxt st.s))), genB bg bs p c st.n, sq ao (st.out.length + k) cap 63 3 (opsC (st.out ++ rdsK key k))]) (fun (k, _, _) => k ≤ m + 1 ∧ st.out.length + k ≤ want ∧ (key : Int) + k ≤ p.keys) (fun (k, _, _) => m + 1 - k) (0, ao, cap) ?_ ?_
            · exact ⟨⟨Nat.zero_le _, by show st.out.length + 0 ≤ want; omega, by show (key : Int) + (0 : Nat) ≤ p.keys; omega⟩, ⟨rfl, rfl, rfl, slotI rfl (by omega), slotI rfl (by omega), trivial⟩, by show List.Sublist [_, _, sq _ _ _ _ _ (opsC (st.out ++ rdsK key 0))] _; rw [show rdsK key 0 = [] from rfl, List.append_nil]; exact List.Sublist.cons_cons _ (List.Sublist.cons_cons _ (List.Sublist.cons_cons _ (List.nil_sublist _)))⟩
            · rintro ⟨k, ao, cap⟩ ⟨hk1, hk2, hk3⟩
              have hk1 : k ≤ m + 1 := hk1
              have hk2 : st.out.length + k ≤ want := hk2
              have hk3 : (key : Int) + k ≤ p.keys := hk3
              refine TC_seq ?_
              refine TC_seq ?_
              refine TC_bool 82 (k < m + 1 ∧ st.out.length + k < want ∧ (key : Int) + k < p.keys) ?_ ?_
              · refine TC_region ?_
                refine OL_sil rfl rfl rfl (Sil.move rfl rfl) ?_
                refine OL_sil rfl rfl rfl (Sil.gtr rfl rfl rfl) ?_
                refine OL_sil rfl rfl rfl (Sil.move rfl rfl) ?_
                refine OL_dec 68 rfl (fun ht68 => ?_) (fun ht68 => ?_)
                · refine OL_sil rfl rfl rfl (Sil.move rfl rfl) ?_
                  refine OL_sil rfl rfl rfl (Sil.lenSl rfl rfl Try.underlying51) ?_
                  refine OL_sil rfl rfl rfl (Sil.move rfl rfl) ?_
                  refine OL_sil rfl rfl rfl (Sil.lss rfl rfl rfl) ?_
                  refine OL_sil rfl rfl rfl (Sil.pick1 rfl rfl rfl) ?_
                  refine OL_sil rfl rfl rfl (Sil.move rfl rfl) ?_
                  refine OL_dec 74 rfl (fun ht74 => ?_) (fun ht74 => ?_)
                  · refine OL_sil rfl rfl rfl (Sil.move rfl rfl) ?_
                    refine OL_sil rfl rfl rfl (Sil.move rfl rfl) ?_
                    refine OL_sil rfl rfl rfl (Sil.nilCheck rfl rfl) ?_
                    refine OL_sil rfl rfl rfl (Sil.fieldLoc 0 rfl rfl Try.underlying78 rfl rfl) ?_
                    refine OL_sil rfl rfl rfl (Sil.fieldLoc 0 rfl rfl Try.underlying43 rfl rfl) ?_
                    refine OL_sil rfl rfl rfl (Sil.ownL 1 rfl rfl rfl Try.underlying3 rfl rfl) ?_
                    refine OL_sil rfl rfl rfl (Sil.lss rfl rfl rfl) ?_
                    refine OL_sil rfl rfl rfl (Sil.pick1 rfl rfl rfl) ?_
                    refine OL_nil ?_
                    (refine Cont.then_intro (And.intro (by (repeat' (first | exact trivial | refine ⟨rfl, ?_⟩))) (And.intro ?_ rfl)); first | exact slotV rfl (congrArg Value.bool (decide_eq_true (by omega)).symm) | exact slotV rfl (congrArg Value.bool (decide_eq_false (by omega)).symm) | exact slotV rfl (congrArg Value.bool (decide_eq_decide.2 (by omega))) | exact slotV rfl (congrArg Value.bool (decide_not.symm.trans (decide_eq_decide.2 (by omega)))))
                  · refine OL_skip rfl rfl rfl ?_
                    refine OL_skip rfl rfl rfl ?_
                    refine OL_skip rfl rfl rfl ?_
                    refine OL_skip rfl rfl rfl ?_
                    refine OL_skip rfl rfl rfl ?_
                    refine OL_skip rfl rfl rfl ?_
                    refine OL_skip rfl rfl rfl ?_
                    refine OL_sil rfl rfl rfl (Sil.pick0 rfl rfl rfl) ?_
                    refine OL_nil ?_
                    (refine Cont.then_intro (And.intro (by (repeat' (first | exact trivial | refine ⟨rfl, ?_⟩))) (And.intro ?_ rfl)); first | exact slotV rfl (congrArg Value.bool (decide_eq_true (by omega)).symm) | exact slotV rfl (congrArg Value.bool (decide_eq_false (by omega)).symm) | exact slotV rfl (congrArg Value.bool (decide_eq_decide.2 (by omega))) | exact slotV rfl (congrArg Value.bool (decide_not.symm.trans (decide_eq_decide.2 (by omega)))))
                · refine OL_skip rfl rfl rfl ?_
                  refine OL_skip rfl rfl rfl ?_
                  refine OL_skip rfl rfl rfl ?_
                  refine OL_skip rfl rfl rfl ?_
                  refine OL_sil rfl rfl rfl (Sil.pick0 rfl rfl rfl) ?_
                  refine OL_sil rfl rfl rfl (Sil.move rfl rfl) ?_
                  refine OL_skip rfl rfl rfl ?_
                  refine OL_skip rfl rfl rfl ?_
                  refine OL_skip rfl rfl rfl ?_
                  refine OL_skip rfl rfl rfl ?_
                  refine OL_skip rfl rfl rfl ?_
                  refine OL_skip rfl rfl rfl ?_
                  refine OL_skip rfl rfl rfl ?_
                  refine OL_sil rfl rfl rfl (Sil.pick0 rfl rfl rfl) ?_
                  refine OL_nil ?_
                  (refine Cont.then_intro (And.intro (by (repeat' (first | exact trivial | refine ⟨rfl, ?_⟩))) (And.intro ?_ rfl)); first | exact slotV rfl (congrArg Value.bool (decide_eq_true (by omega)).symm) | exact slotV rfl (congrArg Value.bool (decide_eq_false (by omega)).symm) | exact slotV rfl (congrArg Value.bool (decide_eq_decide.2 (by omega))) | exact slotV rfl (congrArg Value.bool (decide_not.symm.trans (decide_eq_decide.2 (by omega)))))
              refine TC_if rfl (fun ht82 => ?_) (fun ht82 => ?_)
              · refine TC_skip ?_
                refine TC_seq ?_
                refine TC_block ?_
                refine TC_region ?_
                refine OL_sil rfl rfl rfl (Sil.move rfl rfl) ?_
                refine OL_sil rfl rfl rfl (Sil.move rfl rfl) ?_
                refine OL_sil rfl rfl rfl (Sil.buildS (vs := [(0, .int .i64 1), (1, .int .i64 ((key : Int) + k))]) (cs := #[.int .i64 1, .int .i64 ((key : Int) + k), .int .i64 0]) (ss := [1, 1, 1]) rfl rfl Try.underlying63 rfl rfl rfl) ?_
                refine OL_loud rfl rfl rfl (LO.buildSlice1 rfl rfl Try.underlying51 rfl rfl rfl) ?_
                rintro _ _ ⟨tb, rfl, rfl⟩
                refine OL_loud rfl rfl rfl (LO.append 2 (iv (OpD.is ⟨1, (key : Int) + k, 0⟩)) rfl rfl rfl rfl elOp rfl (fun w hw => hw.cells (i := 3) rfl) (by simp [iv, OpD.is, oneC]) (by unfold maxLen; omega) (by omega)) ?_
                rintro _ _ ⟨ao1, cap1, rfl, rfl⟩
                refine OL_sil rfl rfl rfl (Sil.assign rfl rfl) ?_
                refine OL_nil ?_
                refine TC_region ?_
                refine OL_sil rfl rfl rfl (Sil.move rfl rfl) ?_
                refine OL_sil rfl rfl rfl (Sil.sub rfl rfl rfl (by omega) (by omega)) ?_
                refine OL_sil rfl rfl rfl (Sil.move rfl rfl) ?_
                refine OL_sil rfl rfl rfl (Sil.add rfl rfl rfl (by omega) (by omega)) ?_
                refine OL_sil rfl rfl rfl (Sil.assign rfl rfl) ?_
                refine OL_sil rfl rfl rfl (Sil.assign rfl rfl) ?_
                refine OL_nil ?_
                refine ⟨(k + 1, ao1, cap1), ⟨⟨by show k + 1 ≤ m + 1; omega, by show st.out.length + (k + 1) ≤ want; omega, by show (key : Int) + (k + 1 : Nat) ≤ p.keys; omega⟩, ⟨rfl, rfl, rfl, slotI rfl (by omega), slotI rfl (by omega), trivial⟩, ?_⟩, by show m + 1 - (k + 1) < m + 1 - k; omega⟩
                show List.Sublist [_, _, sq ao1 (st.out.length + (k + 1)) cap1 _ 3 (opsC (st.out ++ rdsK key (k + 1)))] _
                rw [rdsK_succ, ← List.append_assoc, ← opsC_snoc]
                exact List.Sublist.cons_cons _ (List.Sublist.cons_cons _ (List.Sublist.cons_cons _ (List.nil_sublist _)))
              · have hcnt : k = cntD p want st.out.length key m := by unfold cntD; omega
                rw [← hcnt] at hfin hlen
                refine TC_exit ?_
                refine ⟨(⟨nxt (nxt (nxt st.s)), st.n, st.out ++ rdsK key k⟩, ao, cap), ⟨⟨hfin, hlen.2.1, by show st.n ≤ n + (st.out ++ _).length; rw [List.length_append]; omega⟩, ⟨rfl, rfl, slotV rfl (by simp [rdsK_length]), trivial⟩, ?_⟩, by show want - (st.out ++ _).length < want - st.out.length; rw [List.length_append, rdsK_length]; have := hlen.1; simp only [List.length_append, rdsK_length] at this; omega⟩
                show List.Sublist [_, _, sq ao (st.out ++ _).length cap _ 3 _] _
                rw [List.length_append, rdsK_length]
                exact List.Sublist.refl _
    · rw [finD_stop p c want st (by omega)] at hfin
      refine TC_own (h' := [genR bg bs p c st.n st.s, sq ao st.out.length cap 63 3 (opsC st.out)]) (fun w hw => hw.pack2 (A := []) rfl) ?_
      refine TC_exit ?_
      refine TC_seq ?_
      refine TC_region ?_
      refine OL_sil rfl rfl rfl (Sil.move rfl rfl) ?_
      refine OL_sil rfl rfl rfl (Sil.assign rfl rfl) ?_
      refine OL_nil ?_
      refine TC_ret ?_
      exact ret1h rfl rfl (List.Sublist.refl _) ⟨ao, cap, by rw [← hfin], by rw [← hfin]⟩
end Go.Proofs.Ytccmgmjfcfacoaa
