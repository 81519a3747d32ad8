/-
  Walks: operations held against each other; the client's last event.
-/
import Derived.Test.YtjnopbmanhialaaEnt
import Derived.Test.YtjnopbmanhialaaKitF
namespace Go.Proofs.Ytjnopbmanhialaa
open Go.Cru

theorem srOp : SR Try.prog 40 3 := ⟨by unfold Program.fieldsOf; rw [Try.underlying40], by kernel_rfl, by kernel_rfl, by kernel_rfl⟩
theorem eqOp : Try.prog.eqGuardType Try.prog.depth 40 = false := by kernel_rfl

theorem Same_gives (xs ys : List OpD) (a b : Option Addr) (cap cap' : Nat) (w0 : World) (hx : OpsAt w0 a xs) (hy : OpsAt w0 b ys) :
    Gives Try.prog 30 [.slice a xs.length cap, .slice b ys.length cap'] w0 [] fun v h => v = .bool (decide (xs = ys)) ∧ h = [] := by
  have hm := hx.1
  unfold maxLen at hm
  refine gives_of Try.func30 rfl rfl rfl (Own.start w0) ?_
  refine TC_seq ?_
  refine TC_region ?_
  refine OL_sil rfl rfl rfl (Sil.assign rfl rfl) ?_
  refine OL_nil ?_
  refine TC_seq ?_
  refine TC_seq ?_
  refine TC_region ?_
  refine OL_sil rfl rfl rfl (Sil.move rfl rfl) ?_
  refine OL_sil rfl rfl rfl (Sil.lenSl rfl rfl Try.underlying41) ?_
  refine OL_sil rfl rfl rfl (Sil.move rfl rfl) ?_
  refine OL_sil rfl rfl rfl (Sil.lenSl rfl rfl Try.underlying41) ?_
  refine OL_sil rfl rfl rfl (Sil.neq rfl rfl rfl) ?_
  refine OL_nil ?_
  refine TC_ifn rfl (fun ht10 => ?_) (fun ht10 => ?_)
  · refine TC_seq ?_
    refine TC_region ?_
    refine OL_sil rfl rfl rfl (Sil.assign rfl rfl) ?_
    refine OL_nil ?_
    refine TC_ret ?_
    exact ret1 rfl rfl ⟨congrArg Value.bool (decide_eq_false (fun e => by rw [e] at ht10; exact ht10 rfl)).symm, rfl⟩
  · have hlen : xs.length = ys.length := by omega
    refine TC_skip ?_
    refine TC_seq ?_
    refine TC_seq ?_
    refine TC_region ?_
    refine OL_sil rfl rfl rfl (Sil.move rfl rfl) ?_
    refine OL_sil rfl rfl rfl (Sil.lenSl rfl rfl Try.underlying41) ?_
    refine OL_sil rfl rfl rfl (Sil.move rfl rfl) ?_
    refine OL_nil ?_
    refine TC_block ?_
    refine TC_loop (fun i : Nat => [(0, .slice a xs.length cap), (1, .slice b ys.length cap'), (12, .int .i64 xs.length), (13, .int .i64 i)]) (fun _ => []) (fun i => i ≤ xs.length ∧ xs.take i = ys.take i) (fun i => xs.length - i) 0 ?_ ?_
    · exact ⟨⟨Nat.zero_le _, rfl⟩, ⟨rfl, rfl, rfl, rfl, trivial⟩, List.Sublist.refl _⟩
    · intro i hi
      refine TC_seq ?_
      refine TC_region ?_
      refine OL_sil rfl rfl rfl (Sil.lss rfl rfl rfl) ?_
      refine OL_nil ?_
      refine TC_seq ?_
      refine TC_if rfl (fun ht14 => ?_) (fun ht14 => ?_)
      · obtain ⟨o, ho⟩ := nthSome ht14
        obtain ⟨o', ho'⟩ : ∃ o', ys[i]? = some o' := ⟨_, List.getElem?_eq_getElem (by omega)⟩
        obtain ⟨x, rfl, hcx⟩ := hx.2 i o ho
        obtain ⟨y, rfl, hcy⟩ := hy.2 i o' ho'
        refine TC_skip ?_
        refine TC_seq ?_
        refine TC_block ?_
        refine TC_seq ?_
        refine TC_region ?_
        refine OL_sil rfl rfl rfl (Sil.move rfl rfl) ?_
        refine OL_sil rfl rfl rfl (Sil.assign rfl rfl) ?_
        refine OL_nil ?_
        refine TC_seq ?_
        refine TC_draw rfl (fun j => false) ?_
        refine DL_take 0 rfl (by kernel_rfl) rfl rfl rfl (Sil.move rfl rfl) (fun _ hr => hr) ?_
        refine DL_take 1 rfl (by kernel_rfl) rfl rfl rfl (Sil.move rfl rfl) (fun _ hr => hr) ?_
        refine DL_take 2 rfl (by kernel_rfl) rfl rfl rfl (Sil.indexSl i rfl rfl rfl Try.underlying41 rfl rfl (by omega)) (fun _ hr => hr) ?_
        refine DL_take 3 rfl (by kernel_rfl) rfl rfl rfl (Sil.oldS rfl rfl hcx Try.underlying40 rfl rfl rfl) (fun _ hr => hr) ?_
        refine DL_take 4 rfl (by kernel_rfl) rfl rfl rfl (Sil.move rfl rfl) (fun _ hr => hr) ?_
        refine DL_take 5 rfl (by kernel_rfl) rfl rfl rfl (Sil.move rfl rfl) (fun _ hr => hr) ?_
        refine DL_take 6 rfl (by kernel_rfl) rfl rfl rfl (Sil.indexSl i rfl rfl rfl Try.underlying41 rfl rfl (by omega)) (fun _ hr => hr) ?_
        refine DL_take 7 rfl (by kernel_rfl) rfl rfl rfl (Sil.oldS rfl rfl hcy Try.underlying40 rfl rfl rfl) (fun _ hr => hr) ?_
        refine DL_take 8 rfl (by kernel_rfl) rfl rfl rfl (Sil.neqS srOp eqOp rfl rfl rfl rfl rfl) (fun _ hr => hr) ?_
        refine DL_done (by kernel_rfl) ?_
        refine TC_ifn rfl (fun ht24 => ?_) (fun ht24 => ?_)
        · refine TC_seq ?_
          refine TC_region ?_
          refine OL_sil rfl rfl rfl (Sil.assign rfl rfl) ?_
          refine OL_nil ?_
          refine TC_ret ?_
          exact ret1 rfl rfl ⟨congrArg Value.bool (decide_eq_false (fun e => ht24 (by rw [e, ho'] at ho; rw [Option.some.inj ho]))).symm, rfl⟩
        · refine TC_skip ?_
          refine TC_region ?_
          refine OL_sil rfl rfl rfl (Sil.add rfl rfl rfl (by omega) (by omega)) ?_
          refine OL_sil rfl rfl rfl (Sil.move rfl rfl) ?_
          refine OL_nil ?_
          exact ⟨i + 1, ⟨⟨by omega, by rw [List.take_add_one, List.take_add_one, hi.2, ho, ho', OpD.is_inj ht24]⟩, ⟨rfl, rfl, rfl, rfl, trivial⟩, List.Sublist.refl _⟩, by omega⟩
      · have hxy : xs = ys := by have h2 := hi.2; rwa [List.take_of_length_le (by omega), List.take_of_length_le (by omega)] at h2
        refine TC_exit ?_
        refine TC_seq ?_
        refine TC_region ?_
        refine OL_sil rfl rfl rfl (Sil.assign rfl rfl) ?_
        refine OL_nil ?_
        refine TC_ret ?_
        exact ret1 rfl rfl ⟨congrArg Value.bool (decide_eq_true hxy).symm, rfl⟩

/-- The last event of client c among the first i. -/
def lastG (es : List RcD) (c : Int) : Nat → Int
  | 0 => -1
  | i + 1 => if (es[i]?).map RcD.q = some c then (i : Int) else lastG es c i

theorem last_gives (es : List RcD) (t : Nat) (e : RcD) (he : es[t]? = some e) (a : Option Addr) (cap : Nat) (w0 : World) (hx : RcsAt w0 a es) :
    Gives Try.prog 37 [.slice a es.length cap, .int .i64 t] w0 [] fun v h => v = .int .i64 (lastG es e.q t) ∧ h = [] := by
  have hm := hx.1
  unfold maxLen at hm
  have htl := ltOf he
  obtain ⟨x, u, rfl, hcx, hcu⟩ := hx.2 t e he
  refine gives_of Try.func37 rfl rfl rfl (Own.start w0) ?_
  refine TC_seq ?_
  refine TC_region ?_
  refine OL_sil rfl rfl rfl (Sil.assign rfl rfl) ?_
  refine OL_nil ?_
  refine TC_seq ?_
  refine TC_seq ?_
  refine TC_region ?_
  refine OL_sil rfl rfl rfl (Sil.move rfl rfl) ?_
  refine OL_sil rfl rfl rfl (Sil.sub rfl rfl rfl (by omega) (by omega)) ?_
  refine OL_sil rfl rfl rfl (Sil.assign rfl rfl) ?_
  refine OL_nil ?_
  refine TC_block ?_
  refine TC_loop (fun i : Nat => [(0, .slice (some x) es.length cap), (1, .int .i64 t), (5, .int .i64 ((i : Int) - 1))]) (fun _ => []) (fun i => i ≤ t ∧ lastG es e.q t = lastG es e.q i) (fun i => i) t ?_ ?_
  · exact ⟨⟨Nat.le_refl _, rfl⟩, ⟨rfl, rfl, rfl, trivial⟩, List.Sublist.refl _⟩
  · intro i hi
    refine TC_seq ?_
    refine TC_seq ?_
    refine TC_region ?_
    refine OL_sil rfl rfl rfl (Sil.move rfl rfl) ?_
    refine OL_sil rfl rfl rfl (Sil.geq rfl rfl rfl) ?_
    refine OL_nil ?_
    refine TC_if rfl (fun ht9 => ?_) (fun ht9 => ?_)
    · obtain ⟨i, rfl⟩ : ∃ j, i = j + 1 := ⟨i - 1, by omega⟩
      have hi1 := hi.1
      obtain ⟨e', he'⟩ : ∃ e', es[i]? = some e' := ⟨_, List.getElem?_eq_getElem (by omega)⟩
      obtain ⟨x', u', hx', hcx', hcu'⟩ := hx.2 i e' he'
      cases hx'
      refine TC_skip ?_
      refine TC_seq ?_
      refine TC_block ?_
      refine TC_seq ?_
      refine TC_draw rfl (fun j => false) ?_
      refine DL_take 0 rfl (by kernel_rfl) rfl rfl rfl (Sil.move rfl rfl) (fun _ hr => hr) ?_
      refine DL_take 1 rfl (by kernel_rfl) rfl rfl rfl (Sil.move rfl rfl) (fun _ hr => hr) ?_
      refine DL_take 2 rfl (by kernel_rfl) rfl rfl rfl (Sil.indexSl i rfl rfl rfl Try.underlying22 rfl (by omega) (by omega)) (fun _ hr => hr) ?_
      refine DL_take 3 rfl (by kernel_rfl) rfl rfl rfl (Sil.fieldAdd 1 rfl rfl Try.underlying58 rfl rfl) (fun _ hr => hr) ?_
      refine DL_take 4 rfl (by kernel_rfl) rfl rfl rfl (Sil.oldF 1 rfl (by rw [← add_add]; rfl) hcx' Try.underlying3 rfl rfl) (fun _ hr => hr) ?_
      refine DL_take 5 rfl (by kernel_rfl) rfl rfl rfl (Sil.move rfl rfl) (fun _ hr => hr) ?_
      refine DL_take 6 rfl (by kernel_rfl) rfl rfl rfl (Sil.move rfl rfl) (fun _ hr => hr) ?_
      refine DL_take 7 rfl (by kernel_rfl) rfl rfl rfl (Sil.indexSl t rfl rfl rfl Try.underlying22 rfl rfl (by omega)) (fun _ hr => hr) ?_
      refine DL_take 8 rfl (by kernel_rfl) rfl rfl rfl (Sil.fieldAdd 1 rfl rfl Try.underlying58 rfl rfl) (fun _ hr => hr) ?_
      refine DL_take 9 rfl (by kernel_rfl) rfl rfl rfl (Sil.oldF 1 rfl (by rw [← add_add]; rfl) hcx Try.underlying3 rfl rfl) (fun _ hr => hr) ?_
      refine DL_take 10 rfl (by kernel_rfl) rfl rfl rfl (Sil.eql rfl rfl rfl) (fun _ hr => hr) ?_
      refine DL_done (by kernel_rfl) ?_
      refine TC_if rfl (fun ht22 => ?_) (fun ht22 => ?_)
      · refine TC_seq ?_
        refine TC_region ?_
        refine OL_sil rfl rfl rfl (Sil.move rfl rfl) ?_
        refine OL_sil rfl rfl rfl (Sil.assign rfl rfl) ?_
        refine OL_nil ?_
        refine TC_ret ?_
        exact ret1 rfl rfl ⟨by rw [hi.2]; unfold lastG; rw [he', Option.map_some, if_pos (by rw [ht22])]; congr 1; omega, rfl⟩
      · refine TC_skip ?_
        refine TC_region ?_
        refine OL_sil rfl rfl rfl (Sil.move rfl rfl) ?_
        refine OL_sil rfl rfl rfl (Sil.sub rfl rfl rfl (by omega) (by omega)) ?_
        refine OL_sil rfl rfl rfl (Sil.assign rfl rfl) ?_
        refine OL_nil ?_
        exact ⟨i, ⟨⟨by omega, by rw [hi.2]; conv => lhs; unfold lastG; rw [he', Option.map_some, if_neg (fun h => ht22 (Option.some.inj h))]⟩, ⟨rfl, rfl, slotI rfl (by omega), trivial⟩, List.Sublist.refl _⟩, by omega⟩
    · obtain rfl : i = 0 := by omega
      refine TC_exit ?_
      refine TC_seq ?_
      refine TC_region ?_
      refine OL_sil rfl rfl rfl (Sil.assign rfl rfl) ?_
      refine OL_nil ?_
      refine TC_ret ?_
      exact ret1 rfl rfl ⟨by rw [hi.2]; rfl, rfl⟩
end Go.Proofs.Ytjnopbmanhialaa
