/-
  More of the layer: an iterator that calls yield: walked over whatever its caller keeps.
-/
import Derived.Test.YtjnopbmanhialaaKitR
namespace Go.Cru
open Go

abbrev ContW := Exit → Env → (World → Prop) → Prop
section
variable {P : Program} {n m : Nat} {l : Env} {o : Oper} {v : Value} {K : ContW} {Φ : World → Prop} {ops : Array Oper} {rest : List Oper} {d : Nat} {Q : Exit → Act → World → Prop}
variable (n) in
def liftW (K : ContW) : Exit → Act → World → Prop
  | .panic _, _, _ => False
  | .outgrown, _, _ => False
  | e, a, w => ∃ l Φ, Fr n l a ∧ Φ w ∧ K e l Φ
variable (P n m) in
def OW (ops : Array Oper) (Q : Exit → Act → World → Prop) (rest : List Oper) (l : Env) (Φ : World → Prop) : Prop := ∀ a w, Fr n l a → Φ w → wpListIn FW m P ops Q rest a w
variable (P n m) in
def TW (c : Code) (K : ContW) (l : Env) (Φ : World → Prop) : Prop := ∀ a w, Fr n l a → Φ w → c.wpIn FW m P (liftW n K) a w
theorem Sta.self (w : World) : Sta w [] [] w := ⟨Nat.le_refl _, fun _ _ _ => rfl, by simp⟩
theorem OW_nil (hq : K .normal l Φ) : OW P n m ops (liftW n K) [] l Φ := fun _ _ hf hw => ⟨l, Φ, hf, hw, hq⟩
theorem OW_sil (hg : o.guard = none) (hn : noDefer o = true) (hd : o.dst = some d) (hlt : Nat.blt d n = true) (hs : ∀ w, Φ w → Sil P n w [] [] l o v) (hk : OW P n m ops Q rest ((d, v) :: l) Φ) : OW P n m ops Q (o :: rest) l Φ := by
  intro a w hf hw
  unfold wpListIn
  rw [if_pos (by unfold Region.wanted; rw [hg])]
  refine ⟨fun _ _ => trivial, ?_⟩
  rw [Oper.semAt_eq _ _ _ (noDefer_spec hn), hs w hw a w hf (Sta.self w)]
  show wpListIn FW m P ops Q rest (a.put o.dst v) w
  rw [hd]
  exact hk _ _ (hf.put hlt v) hw
theorem run_callYield {L : Nat} {x : Operand} {as : List Operand} {ts : Array TypeId} {vs : List Value} {a : Act} {w : World} {r : Next} (ho : o.op = .call { callee := .value x, args := as.toArray, argTypes := ts }) (hf : Fr n l a) (hx : ev l x = some (.func (.yield L) #[] #[])) (hv : as.map (ev l) = vs.map some)
    (hy : (Instr.yield L vs.toArray).run P w = .ok r w) : (execOp a.eval o).run P w = .ok r w := by
  have hvs : as.map a.eval = vs := by
    clear ho hy
    induction as generalizing vs with
    | nil => cases vs with
      | nil => rfl
      | cons _ _ => cases hv
    | cons x as ih => cases vs with
      | nil => cases hv
      | cons v vs =>
        simp only [List.map_cons, List.cons.injEq] at hv ⊢
        exact ⟨hf.eval hv.1, ih hv.2⟩
  unfold execOp
  simp only [ho, resolve, hf.eval hx, List.map_toArray, hvs]
  show (invoke (.fn (.yield L) #[]) (#[] ++ vs.toArray)).run P w = _
  simpa [invoke] using hy
theorem OW_yield {L : Nat} {x : Operand} {as : List Operand} {ts : Array TypeId} {vs : List Value} {Φ1 Φ2 : World → Prop} (hg : o.guard = none) (ho : o.op = .call { callee := .value x, args := as.toArray, argTypes := ts }) (hd : o.dst = some d) (hlt : Nat.blt d n = true)
    (hx : ev l x = some (.func (.yield L) #[] #[])) (hv : as.map (ev l) = vs.map some)
    (hY : ∀ w, Φ w → YieldAt FW (m - 1) P L vs.toArray w fun e w' => (e = .returned (.bool true) ∧ Φ1 w') ∨ (e = .returned (.bool false) ∧ Φ2 w'))
    (h1 : OW P n m ops Q rest ((d, .bool true) :: l) Φ1) (h2 : OW P n m ops Q rest ((d, .bool false) :: l) Φ2) : OW P n m ops Q (o :: rest) l Φ := by
  intro a w hf hw
  unfold wpListIn
  rw [if_pos (by unfold Region.wanted; rw [hg])]
  refine ⟨fun _ _ => trivial, ?_⟩
  obtain ⟨fn, tmps, assign, body, hy, hR⟩ := hY w hw
  rw [Oper.semAt_eq _ _ _ (fun c e => by rw [ho] at e; cases e), run_callYield ho hf hx hv hy]
  refine ⟨fun hh => (by cases hh), hR.mono fun e w' hq => ?_⟩
  rcases hq with ⟨rfl, hq⟩ | ⟨rfl, hq⟩
  · show wpListIn FW m P ops Q rest (a.put o.dst (.bool true)) w'
    rw [hd]; exact h1 _ _ (hf.put hlt _) hq
  · show wpListIn FW m P ops Q rest (a.put o.dst (.bool false)) w'
    rw [hd]; exact h2 _ _ (hf.put hlt _) hq
def ContW.then (K : ContW) (N : Env → (World → Prop) → Prop) : ContW
  | .normal, l, h => N l h
  | e, l, h => K e l h
def ContW.inBlock (K : ContW) (id : Nat) : ContW
  | .exit id', l, h => match Nat.beq id' id with
    | true => K .normal l h
    | false => K (.exit id') l h
  | e, l, h => K e l h
attribute [reducible] ContW.then ContW.inBlock
theorem TW_seq {x y : Code} (hx : TW P n m x (K.then (TW P n m y K)) l Φ) : TW P n m (.seq x y) K l Φ := by
  intro a w hf ho
  refine wpIn_seq (wpIn_mono (hx a w hf ho) fun e a' w' hq => ?_)
  cases e with
  | normal => obtain ⟨l', h', h1, h2, h3⟩ := hq; exact h3 a' w' h1 h2
  | _ => exact hq
theorem TW_region {id : Nat} {os : List Oper} (hk : OW P n m os.toArray (liftW n K) os l Φ) : TW P n m (.region id os.toArray false) K l Φ := fun a w hf ho => wpIn_region_lit (hk a w hf ho)
theorem TW_skip (hk : K .normal l Φ) : TW P n m .skip K l Φ := fun _ _ hf ho => wpIn_skip ⟨l, Φ, hf, ho, hk⟩
theorem TW_exit {id : Nat} (hk : K (.exit id) l Φ) : TW P n m (.exit id) K l Φ := fun _ _ hf ho => wpIn_exit ⟨l, Φ, hf, ho, hk⟩
theorem TW_ret (hk : K .ret l Φ) : TW P n m .ret K l Φ := fun _ _ hf ho => wpIn_ret ⟨l, Φ, hf, ho, hk⟩
theorem TW_block {id : Nat} {c : Code} (hk : TW P n m c (K.inBlock id) l Φ) : TW P n m (.block id c) K l Φ := by
  intro a w hf ho
  refine wpIn_block (wpIn_mono (hk a w hf ho) fun e a' w' hq => ?_)
  cases e with
  | exit id' =>
    obtain ⟨l', h', h1, h2, h3⟩ := hq
    simp only [Exit.inBlock]
    simp only [ContW.inBlock] at h3
    split
    · rename_i e; subst e; rw [Nat.beq_refl] at h3; exact ⟨l', h', h1, h2, h3⟩
    · rename_i e
      cases hb : Nat.beq id' id with
      | true => exact absurd (Nat.eq_of_beq_eq_true hb) e
      | false => rw [hb] at h3; exact ⟨l', h', h1, h2, h3⟩
  | _ => exact hq
theorem TW_if {c : Operand} {x y : Code} {p : Prop} [Decidable p] (hc : ev l c = some (.bool (decide p))) (h1 : p → TW P n m x K l Φ) (h0 : ¬ p → TW P n m y K l Φ) : TW P n m (.cond c x y) K l Φ :=
  fun a w hf ho => wpIn_cond_split (hf.eval hc) (fun e => h1 (of_decide_eq_true e) a w hf ho) (fun e => h0 (of_decide_eq_false e) a w hf ho)
theorem TW_yes {c : Operand} {x y : Code} (hc : ev l c = some (.bool true)) (hk : TW P n m x K l Φ) : TW P n m (.cond c x y) K l Φ := fun a w hf ho => wpIn_cond_true (hf.eval hc) (hk a w hf ho)
theorem TW_no {c : Operand} {x y : Code} (hc : ev l c = some (.bool false)) (hk : TW P n m y K l Φ) : TW P n m (.cond c x y) K l Φ := fun a w hf ho => wpIn_cond_false (hf.eval hc) (hk a w hf ho)
theorem TW_loop {c : Code} {σ : Type} (L : σ → Env) (H : σ → World → Prop) (Pr : σ → Prop) (μ : σ → Nat) (x0 : σ) (hp0 : Pr x0) (hs0 : Sub (L x0) l) (hh0 : ∀ w, Φ w → H x0 w)
    (round : ∀ x, Pr x → TW P n m c (K.then fun l Φ => ∃ x', Pr x' ∧ Sub (L x') l ∧ (∀ w, Φ w → H x' w) ∧ μ x' < μ x) (L x) (H x)) : TW P n m (.loop c) K l Φ := by
  intro a w hf ho b k cs hro hb hr
  have key : ∀ j x, μ x = j → ∀ a w, Pr x → Fr n (L x) a → H x w →
      ∃ e a' w', liftW n K e a' w' ∧ ArrivesIn (Machine.fenced P FW) P (lone (b.atR a (.code c :: .inLoop c :: k)) cs w) b k cs e a' w' := by
    intro j
    induction j using Nat.strongRecOn with
    | _ j ih =>
      intro x hx a w hp hf ho
      obtain ⟨e, a1, w1, hq, harr⟩ := round x hp a w hf ho b (.inLoop c :: k) cs hro hb hr
      cases e with
      | normal =>
        obtain ⟨l', Φ', h1, h2, x', hx', hsub, hh, hlt⟩ := hq
        obtain ⟨e2, a2, w2, hq2, harr2⟩ := ih (μ x') (hx ▸ hlt) x' rfl a1 w1 hx' (h1.weak hsub) (hh _ h2)
        exact ⟨e2, a2, w2, hq2, .of_steps (StepsIn.trans harr (.one (fenced_calm hb hr rfl) stepR_inLoop)) harr2⟩
      | exit id => exact ⟨.exit id, a1, w1, hq, .pass (x := .inLoop c) rfl (fun _ _ => .inl (by simp)) harr⟩
      | goto l => exact ⟨.goto l, a1, w1, hq, .pass (x := .inLoop c) rfl (fun _ _ => .inl (by simp)) harr⟩
      | ret => exact ⟨.ret, a1, w1, hq, .pass (x := .inLoop c) rfl (fun _ _ => .inl (by simp)) harr⟩
      | panic ch => exact hq.elim
      | outgrown => exact hq.elim
  obtain ⟨e, a', w', hq, harr⟩ := key _ x0 rfl a w hp0 (hf.weak hs0) (hh0 _ ho)
  exact ⟨e, a', w', hq, .of_steps (.one (fenced_calm hb hr rfl) stepR_loop) harr⟩
theorem Fr_start (vs : List Value) (hl : vs.length ≤ n) : Fr n (argE 0 vs) { tmps := vs.toArray ++ Array.replicate (n - vs.toArray.size) undef, defers := [] } := by
  refine ⟨by simp; omega, rfl, fun t v htv => ?_⟩
  obtain ⟨_, h2⟩ := fnd_argE vs 0 t v htv
  have hlt := (List.getElem?_eq_some_iff.1 h2).1
  rw [Nat.sub_zero] at h2 hlt
  show (vs.toArray ++ _)[t]? = _
  rw [Array.getElem?_append_left (by simpa using hlt)]
  simpa using h2
/-- A function that hands back nothing. -/
theorem calls_W {f : FuncId} {fn : Func} {c : Code} {vs : List Value} {w : World} {R : World → Prop} (hf : P.funcs[f]? = some fn) (hb : fn.body = some c) (hn : fn.ntmps = n) (hr : fn.results = #[]) (hl : Nat.ble vs.length n = true) (h0 : Φ w)
    (ht : TW P n m c (fun e _ Φ => match e with
      | .normal => ∀ w, Φ w → R w
      | .ret => ∀ w, Φ w → R w
      | _ => False) (argE 0 vs) Φ) : CallsIn FW m P f vs.toArray w fun e w' => (∃ v, e = .returned v) ∧ R w' := by
  refine callsIn_of_wp hf hb trivial (wpIn_mono (ht _ w (hn ▸ Fr_start vs (hn ▸ Nat.le_of_ble_eq_true hl)) h0) fun e a' w' hq => ?_) rfl
  cases e with
  | normal => obtain ⟨l', Φ', h1, h2, h3⟩ := hq; exact ⟨h1.defers, .tuple #[], by simp [results, hr], ⟨_, rfl⟩, h3 _ h2⟩
  | ret => obtain ⟨l', Φ', h1, h2, h3⟩ := hq; exact ⟨h1.defers, .tuple #[], by simp [results, hr], ⟨_, rfl⟩, h3 _ h2⟩
  | exit id => obtain ⟨_, _, _, _, hh⟩ := hq; exact hh.elim
  | goto id => obtain ⟨_, _, _, _, hh⟩ := hq; exact hh.elim
  | panic ch => exact hq.elim
  | outgrown => exact hq.elim
end
end Go.Cru
