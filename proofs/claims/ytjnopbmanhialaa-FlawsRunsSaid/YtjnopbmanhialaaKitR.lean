/-
  More of the layer: ranges over a function: code within a round; a function that leaves with marks among its deferred calls.
-/
import Derived.Test.YtjnopbmanhialaaKitG
import Derived.RangeFuncRecord
import Derived.RangeFuncSeq
import Derived.TacticsIn
namespace Go.Cru
open Go

abbrev FW : Fence := Fence.wide
section
variable {P : Program} {n : Nat} {w0 : World} {bor : List Nat} {l : Env} {h hs : Mem} {o : Oper} {v : Value} {K : Cont} {rl m : Nat}
/-! ### within a round -/
theorem op_inRound {a : Act} {w : World} {N : Act → World → Prop} {Q : Exit → Act → World → Prop} (hd : ∀ c, o.op ≠ .defer c) (h : o.wp P a w N Q) : o.wpIn (FW.inRound rl) m P a w N Q := by
  refine ⟨fun f _ => trivial, ?_⟩
  rw [Oper.semAt_eq _ _ _ hd]
  unfold Oper.wp at h
  cases hr : (execOp a.eval o).run P w with
  | ok nx w' =>
    rw [hr] at h
    cases nx with
    | value v => exact h
    | skip => exact h
    | defer d => exact h
    | enter f args => exact ⟨fun hh => (by cases hh), callsIn_wide.2 h⟩
    | row r args => exact ⟨fun hh => (by cases hh), fun c cs _ => let ⟨v, w', r, s⟩ := h c cs; ⟨v, w', r, stepsIn_wide.2 s⟩⟩
    | _ => exact h.elim
  | halt x w' =>
    rw [hr] at h
    cases x with
    | panic v => exact h
    | _ => exact h.elim
def noDefer (o : Oper) : Bool := match o.op with
  | .defer _ => false
  | _ => true
theorem noDefer_spec (h : noDefer o = true) : ∀ c, o.op ≠ .defer c := fun c e => by unfold noDefer at h; rw [e] at h; cases h
theorem wp_next_mono {a : Act} {w : World} {N N' : Act → World → Prop} {Q : Exit → Act → World → Prop} (hn : ∀ a w, N a w → N' a w) (h : o.wp P a w N Q) : o.wp P a w N' Q := by
  unfold Oper.wp at *
  cases hr : (execOp a.eval o).run P w with
  | ok nx w' =>
    rw [hr] at h
    cases nx with
    | value v => exact hn _ _ h
    | skip => exact hn _ _ h
    | defer d => exact hn _ _ h
    | enter f args =>
      refine Calls.mono h fun e w'' k => ?_
      cases e <;> first | exact hn _ _ k | exact k
    | row r args => exact Rows.mono h fun v w'' k => hn _ _ k
    | _ => exact h.elim
  | halt x w' =>
    rw [hr] at h
    cases x with
    | panic v => exact h
    | _ => exact h.elim
theorem list_inRound {ops : Array Oper} {Q : Exit → Act → World → Prop} (hq : ∀ a w, ¬ Q .outgrown a w) : ∀ (rest : List Oper) (a : Act) (w : World), rest.all noDefer = true → wpList P ops Q rest a w → wpListIn (FW.inRound rl) m P ops Q rest a w
  | [], _, _, _, h => h
  | o :: rest, a, w, hn, h => by
    rw [List.all_cons] at hn
    obtain ⟨h1, h2⟩ := Bool.and_eq_true_iff.1 hn
    unfold wpList at h
    unfold wpListIn
    split
    · rename_i hw
      rw [if_pos hw] at h
      rcases h with h | ⟨_, a', w', h⟩
      · refine op_inRound (noDefer_spec h1) ?_
        exact wp_next_mono (fun a' w' k => list_inRound hq rest a' w' h2 k) h
      · exact absurd h (hq a' w')
    · rename_i hw
      rw [if_neg hw] at h
      exact ⟨fun f _ => trivial, list_inRound hq rest _ _ h2 h⟩
variable (P n w0 bor rl m) in
def TCR (c : Code) (K : Cont) (l : Env) (h : Mem) : Prop :=
  ∀ a w, Fr n l a → Own w0 bor h w → c.wpIn (FW.inRound rl) m P (lift n w0 bor K) a w
theorem TCR_region {id : Nat} {os : List Oper} (hn : os.all noDefer = true) (hk : OL P n w0 bor os.toArray (lift n w0 bor K) os l h) : TCR P n w0 bor rl m (.region id os.toArray false) K l h :=
  fun a w hf ho => wpIn_region_lit (list_inRound (fun _ _ hh => hh) os a w hn (hk a w hf ho))
theorem TCR_seq {x y : Code} (hx : TCR P n w0 bor rl m x (K.then (TCR P n w0 bor rl m y K)) l h) : TCR P n w0 bor rl m (.seq x y) K l h := by
  intro a w hf ho
  refine wpIn_seq (wpIn_mono (hx a w hf ho) fun e a' w' hq => ?_)
  cases e with
  | normal => obtain ⟨l', h', h1, h2, h3⟩ := hq; exact h3 a' w' h1 h2
  | _ => exact hq
theorem TCR_skip (hk : K .normal l h) : TCR P n w0 bor rl m .skip K l h := fun _ _ hf ho => wpIn_skip ⟨l, h, hf, ho, hk⟩
theorem TCR_exit {id : Nat} (hk : K (.exit id) l h) : TCR P n w0 bor rl m (.exit id) K l h := fun _ _ hf ho => wpIn_exit ⟨l, h, hf, ho, hk⟩
theorem TCR_block {id : Nat} {c : Code} (hk : TCR P n w0 bor rl m c (K.inBlock id) l h) : TCR P n w0 bor rl m (.block id c) K l h := by
  intro a w hf ho
  refine wpIn_block (wpIn_mono (hk a w hf ho) fun e a' w' hq => ?_)
  cases e with
  | exit id' =>
    obtain ⟨l', h', h1, h2, h3⟩ := hq
    simp only [Exit.inBlock]
    simp only [Cont.inBlock] at h3
    split
    · rename_i e; subst e; rw [Nat.beq_refl] at h3; exact ⟨l', h', h1, h2, h3⟩
    · rename_i e
      cases hb : Nat.beq id' id with
      | true => exact absurd (Nat.eq_of_beq_eq_true hb) e
      | false => rw [hb] at h3; exact ⟨l', h', h1, h2, h3⟩
  | _ => exact hq
theorem TCR_cond {c : Operand} {x y : Code} {b : Bool} (hc : ev l c = some (.bool b)) (h1 : b = true → TCR P n w0 bor rl m x K l h) (h0 : b = false → TCR P n w0 bor rl m y K l h) : TCR P n w0 bor rl m (.cond c x y) K l h :=
  fun a w hf ho => wpIn_cond_split (hf.eval hc) (fun e => h1 e a w hf ho) (fun e => h0 e a w hf ho)
theorem TCR_yes {c : Operand} {x y : Code} (hc : ev l c = some (.bool true)) (hk : TCR P n w0 bor rl m x K l h) : TCR P n w0 bor rl m (.cond c x y) K l h :=
  fun a w hf ho => wpIn_cond_true (hf.eval hc) (hk a w hf ho)
theorem TCR_no {c : Operand} {x y : Code} (hc : ev l c = some (.bool false)) (hk : TCR P n w0 bor rl m y K l h) : TCR P n w0 bor rl m (.cond c x y) K l h :=
  fun a w hf ho => wpIn_cond_false (hf.eval hc) (hk a w hf ho)

/-! ### with marks among the deferred calls -/
abbrev ContD := Exit → Env → Mem → List Deferred → Prop
structure FrD (n : Nat) (l : Env) (ds : List Deferred) (a : Act) : Prop where
  fr : Fr n l { a with defers := [] }
  ds : a.defers = ds
theorem FrD.eval {ds : List Deferred} {a : Act} (hf : FrD n l ds a) {x : Operand} {v : Value} (hx : ev l x = some v) : a.eval x = v := hf.fr.eval hx
theorem FrD.put {ds : List Deferred} {a : Act} (hf : FrD n l ds a) {d : Nat} (hd : Nat.blt d n = true) (v : Value) : FrD n ((d, v) :: l) ds (a.put (some d) v) := ⟨hf.fr.put hd v, hf.ds⟩
theorem FrD.weak {ds : List Deferred} {a : Act} {l' : Env} (hf : FrD n l ds a) (hs : Sub l' l) : FrD n l' ds a := ⟨hf.fr.weak hs, hf.ds⟩
variable (n w0 bor) in
def liftD (K : ContD) : Exit → Act → World → Prop
  | .panic _, _, _ => False
  | .outgrown, _, _ => False
  | e, a, w => ∃ l h ds, FrD n l ds a ∧ Own w0 bor h w ∧ K e l h ds
variable (P n w0 bor) in
def OLD (ops : Array Oper) (Q : Exit → Act → World → Prop) (rest : List Oper) (l : Env) (h : Mem) (ds : List Deferred) : Prop :=
  ∀ a w, FrD n l ds a → Own w0 bor h w → wpList P ops Q rest a w
variable (P n w0 bor) in
def TCD (c : Code) (K : ContD) (l : Env) (h : Mem) (ds : List Deferred) : Prop :=
  ∀ a w, FrD n l ds a → Own w0 bor h w → c.wp P (liftD n w0 bor K) a w
variable {ds : List Deferred} {ops : Array Oper} {Q : Exit → Act → World → Prop} {rest : List Oper} {d : Nat} {KD : ContD}
theorem want_specD {a : Act} {b : Bool} (hf : FrD n l ds a) (hw : want ops l o = some b) : Region.wanted o (yielded ops a.tmps) = b := want_spec (a := { a with defers := [] }) hf.fr hw
theorem OLD_nil (hq : KD .normal l h ds) : OLD P n w0 bor ops (liftD n w0 bor KD) [] l h ds := fun _ _ hf ho => ⟨l, h, ds, hf, ho, hq⟩
theorem OLD_sil (hw : want ops l o = some true) (hd : o.dst = some d) (hlt : Nat.blt d n = true) (hs : Sil P n w0 bor h l o v)
    (hk : OLD P n w0 bor ops Q rest ((d, v) :: l) h ds) : OLD P n w0 bor ops Q (o :: rest) l h ds := by
  intro a w hf ho
  unfold wpList
  rw [if_pos (want_specD hf hw)]
  refine .inl ?_
  unfold Oper.wp
  have : (execOp a.eval o).run P w = .ok (.value v) w := hs { a with defers := [] } w hf.fr (ho.sta fun _ h => h)
  rw [this]
  have := hk _ _ (hf.put hlt v) ho
  simp only [Oper.upon, hd]
  exact this
/-- What is loud goes on likewise with marks. -/
theorem LO.defs {R : Value → Mem → Prop} (hlo : LO P n w0 bor h l o R) {a : Act} {w : World} (hf : FrD n l ds a) (ho : Own w0 bor h w) (N : Act → World → Prop) (hk : ∀ v w' h', R v h' → Own w0 bor h' w' → N (a.put o.dst v) w') : o.wp P a w N Q := by
  have := hlo { a with defers := [] } w hf.fr ho (fun a' w' => a'.defers = [] ∧ N { a' with defers := ds } w') (fun e a' w' => Q e { a' with defers := ds } w') fun v w' h' hR ho' => by
    refine ⟨?_, ?_⟩
    · cases o.dst <;> rfl
    · have h1 : ({ (({ a with defers := [] } : Act).put o.dst v) with defers := ds } : Act) = a.put o.dst v := by
        obtain ⟨t, dd⟩ := a
        have : dd = ds := hf.ds
        subst this
        cases o.dst <;> rfl
      rw [h1]
      exact hk v w' h' hR ho'
  have hput : ∀ v, ({ (({ a with defers := [] } : Act).put o.dst v) with defers := ds } : Act) = a.put o.dst v := fun v => by
    obtain ⟨t, dd⟩ := a
    have : dd = ds := hf.ds
    subst this
    cases o.dst <;> rfl
  unfold Oper.wp at *
  have hev : (execOp ({ a with defers := [] } : Act).eval o).run P w = (execOp a.eval o).run P w := rfl
  rw [hev] at this
  cases hr : (execOp a.eval o).run P w with
  | ok nx w' =>
    rw [hr] at this
    cases nx with
    | value v =>
      show N (a.put o.dst v) w'
      rw [← hput v]; exact this.2
    | skip =>
      show N (a.put o.dst undef) w'
      rw [← hput undef]; exact this.2
    | defer d =>
      have h1 := this.1
      exfalso
      cases hdst : o.dst <;> rw [hdst] at h1 <;> cases h1
    | enter f args =>
      refine Calls.mono this fun e w'' k => ?_
      cases e with
      | returned v =>
        show N (a.put o.dst v) w''
        rw [← hput v]; exact k.2
      | panicked c =>
        have h1 : ({ ({ a with defers := [] } : Act) with defers := ds } : Act) = a := by
          obtain ⟨t, dd⟩ := a
          have : dd = ds := hf.ds
          subst this
          rfl
        show Q (.panic c) a w''
        rw [← h1]; exact k
      | outgrown => obtain ⟨a', w', hh⟩ := k; exact ⟨_, w', hh⟩
    | row r args => exact Rows.mono this fun v w'' k => by rw [← hput v]; exact k.2
    | _ => exact this.elim
  | halt x w' =>
    rw [hr] at this
    cases x with
    | panic v =>
      have h1 : ({ ({ a with defers := [] } : Act) with defers := ds } : Act) = a := by
        obtain ⟨t, dd⟩ := a
        have : dd = ds := hf.ds
        subst this
        rfl
      show Q (.panic _) a w'
      rw [← h1]; exact this
    | _ => exact this.elim
theorem OLD_loud {R : Value → Mem → Prop} (hw : want ops l o = some true) (hd : o.dst = some d) (hlt : Nat.blt d n = true) (hs : LO P n w0 bor h l o R)
    (hk : ∀ v h', R v h' → OLD P n w0 bor ops Q rest ((d, v) :: l) h' ds) : OLD P n w0 bor ops Q (o :: rest) l h ds := by
  intro a w hf ho
  unfold wpList
  rw [if_pos (want_specD hf hw)]
  refine .inl (hs.defs hf ho _ fun v w' h' hR ho' => ?_)
  rw [hd]
  exact hk v h' hR _ _ (hf.put hlt v) ho'
theorem OLD_loud0 {R : Value → Mem → Prop} (hw : want ops l o = some true) (hd : o.dst = none) (hs : LO P n w0 bor h l o R)
    (hk : ∀ v h', R v h' → OLD P n w0 bor ops Q rest l h' ds) : OLD P n w0 bor ops Q (o :: rest) l h ds := by
  intro a w hf ho
  unfold wpList
  rw [if_pos (want_specD hf hw)]
  refine .inl (hs.defs hf ho _ fun v w' h' hR ho' => ?_)
  rw [hd]
  exact hk v h' hR _ _ hf ho'
def ContD.then (K : ContD) (N : Env → Mem → List Deferred → Prop) : ContD
  | .normal, l, h, ds => N l h ds
  | e, l, h, ds => K e l h ds
def ContD.inBlock (K : ContD) (id : Nat) : ContD
  | .exit id', l, h, ds => match Nat.beq id' id with
    | true => K .normal l h ds
    | false => K (.exit id') l h ds
  | e, l, h, ds => K e l h ds
attribute [reducible] ContD.then ContD.inBlock
theorem TCD_seq {x y : Code} (hx : TCD P n w0 bor x (KD.then (TCD P n w0 bor y KD)) l h ds) : TCD P n w0 bor (.seq x y) KD l h ds := by
  intro a w hf ho
  refine wp_seq (wp_mono (hx a w hf ho) fun e a' w' hq => ?_)
  cases e with
  | normal => obtain ⟨l', h', ds', h1, h2, h3⟩ := hq; exact h3 a' w' h1 h2
  | _ => exact hq
theorem TCD_skip (hk : KD .normal l h ds) : TCD P n w0 bor .skip KD l h ds := fun _ _ hf ho => wp_skip ⟨l, h, ds, hf, ho, hk⟩
theorem TCD_exit {id : Nat} (hk : KD (.exit id) l h ds) : TCD P n w0 bor (.exit id) KD l h ds := fun _ _ hf ho => wp_exit ⟨l, h, ds, hf, ho, hk⟩
theorem TCD_ret (hk : KD .ret l h ds) : TCD P n w0 bor .ret KD l h ds := fun _ _ hf ho => wp_ret ⟨l, h, ds, hf, ho, hk⟩
theorem TCD_block {id : Nat} {c : Code} (hk : TCD P n w0 bor c (KD.inBlock id) l h ds) : TCD P n w0 bor (.block id c) KD l h ds := by
  intro a w hf ho
  refine wp_block (wp_mono (hk a w hf ho) fun e a' w' hq => ?_)
  cases e with
  | exit id' =>
    obtain ⟨l', h', ds', h1, h2, h3⟩ := hq
    simp only [Exit.inBlock]
    simp only [ContD.inBlock] at h3
    split
    · rename_i e; subst e; rw [Nat.beq_refl] at h3; exact ⟨l', h', ds', h1, h2, h3⟩
    · rename_i e
      cases hb : Nat.beq id' id with
      | true => exact absurd (Nat.eq_of_beq_eq_true hb) e
      | false => rw [hb] at h3; exact ⟨l', h', ds', h1, h2, h3⟩
  | _ => exact hq
theorem TCD_if {c : Operand} {x y : Code} {p : Prop} [Decidable p] (hc : ev l c = some (.bool (decide p))) (h1 : p → TCD P n w0 bor x KD l h ds) (h0 : ¬ p → TCD P n w0 bor y KD l h ds) : TCD P n w0 bor (.cond c x y) KD l h ds :=
  fun a w hf ho => wp_cond_split (hf.eval hc) (fun e => h1 (of_decide_eq_true e) a w hf ho) (fun e => h0 (of_decide_eq_false e) a w hf ho)
theorem TCD_region {id : Nat} {os : List Oper} (hk : OLD P n w0 bor os.toArray (liftD n w0 bor KD) os l h ds) : TCD P n w0 bor (.region id os.toArray false) KD l h ds :=
  fun a w hf ho => wp_region_lit (hk a w hf ho)
theorem TCD_own {c : Code} {h' : Mem} (hh : ∀ w, Own w0 bor h w → Own w0 bor h' w) (hk : TCD P n w0 bor c KD l h' ds) : TCD P n w0 bor c KD l h ds :=
  fun a w hf ho => hk a w hf (hh w ho)
structure AtD {σ : Type} (L : σ → Env) (H : σ → Mem) (D : σ → List Deferred) (Pr : σ → Prop) (l : Env) (h : Mem) (ds : List Deferred) (x : σ) : Prop where
  pr : Pr x
  sub : Sub (L x) l
  mem : (H x).Sublist h
  df : ds = D x
theorem TCD_loop {c : Code} {σ : Type} (L : σ → Env) (H : σ → Mem) (D : σ → List Deferred) (Pr : σ → Prop) (μ : σ → Nat) (x0 : σ) (h0 : AtD L H D Pr l h ds x0)
    (round : ∀ x, Pr x → TCD P n w0 bor c (KD.then fun l h ds => ∃ x', AtD L H D Pr l h ds x' ∧ μ x' < μ x) (L x) (H x) (D x)) : TCD P n w0 bor (.loop c) KD l h ds := by
  intro a w hf ho b k cs
  have key : ∀ m x, μ x = m → ∀ a w, Pr x → FrD n (L x) (D x) a → Own w0 bor (H x) w →
      ∃ e a' w', liftD n w0 bor KD e a' w' ∧ Arrives P (lone (b.at a (.code c :: .inLoop c :: k)) cs w) b k cs e a' w' := by
    intro m
    induction m using Nat.strongRecOn with
    | _ m ih =>
      intro x hx a w hp hf ho
      obtain ⟨e, a1, w1, hq, harr⟩ := round x hp a w hf ho b (.inLoop c :: k) cs
      cases e with
      | normal =>
        obtain ⟨l', h', ds', h1, h2, x', hx', hlt⟩ := hq
        obtain ⟨e2, a2, w2, hq2, harr2⟩ := ih (μ x') (hx ▸ hlt) x' rfl a1 w1 hx'.pr (hx'.df ▸ h1.weak hx'.sub) (h2.drop hx'.mem)
        exact ⟨e2, a2, w2, hq2, .of_steps (Steps.trans harr (.one step_inLoop)) harr2⟩
      | exit id => exact ⟨.exit id, a1, w1, hq, .pass (x := .inLoop c) rfl (fun _ _ => .inl (by simp)) harr⟩
      | goto l => exact ⟨.goto l, a1, w1, hq, .pass (x := .inLoop c) rfl (fun _ _ => .inl (by simp)) harr⟩
      | ret => exact ⟨.ret, a1, w1, hq, .pass (x := .inLoop c) rfl (fun _ _ => .inl (by simp)) harr⟩
      | panic ch => exact hq.elim
      | outgrown => exact hq.elim
  obtain ⟨e, a', w', hq, harr⟩ := key _ x0 rfl a w h0.pr (h0.df ▸ hf.weak h0.sub) (ho.drop h0.mem)
  exact ⟨e, a', w', hq, .of_steps (.one step_loop) harr⟩

/-! ### leaving -/
def mkD (D : Nat) : Deferred := { target := .collected D, args := #[] }
def mkR (D : Nat) : Res := blk D (.deferred (some []))
theorem leave_marks {fn : Func} {tmps : Array Value} {R : Ending → World → Prop} {A : Mem} : ∀ (Ds : List Nat) (w : World), Own w0 bor (bagR (Ds.map mkR) :: A) w → (∀ w', Own w0 bor A w' → LeavesIn FW m P fn tmps R [] .returning w') →
    LeavesInM FW m P fn tmps R (Ds.map mkD) .returning w
  | [], w, ho, hk => hk w (ho.drop (List.Sublist.cons _ (List.Sublist.refl _)))
  | D :: Ds, w, ho, hk => by
    have ho2 : Own w0 bor (mkR D :: bagR (Ds.map mkR) :: A) w := ho.regroup (fun r hr => by
      rcases List.mem_cons.1 hr with rfl | hr
      · exact ho.mine (bagR ((D :: Ds).map mkR)) (by simp) _ (by simp)
      · rcases List.mem_cons.1 hr with rfl | hr
        · intro r hr; exact ho.mine (bagR ((D :: Ds).map mkR)) (by simp) r (by rw [List.map_cons]; exact List.mem_cons_of_mem _ hr)
        · exact ho.mine r (List.mem_cons_of_mem _ hr)) (by simp [bagR])
    have hD : hf w D = some (.deferred (some [])) := ho2.mine (mkR D) (by simp)
    have hlt : D < w.heap.size := ho2.lt (mkR D) (by simp) D (by simp [mkR, blk])
    have ho3 : Own w0 bor (blk D (.deferred none) :: bagR (Ds.map mkR) :: A) (w.putObj D (.deferred none)) :=
      ho2.set (i := 0) (r := mkR D) (r' := blk D (.deferred none)) rfl rfl rfl rfl rfl (by simp [World.putObj]) (fun k hk' => World.putObj_heap_other (fun e => hk' (by simp [mkR, blk, e]))) (World.putObj_heap_same hlt)
    exact ⟨by simp, .inl ⟨D, _, rfl, run_takeDeferred hD, leave_marks Ds _ (ho3.drop (List.Sublist.cons _ (List.Sublist.refl _))) hk⟩⟩
/-- What a call gives, whose body may leave with marks. -/
theorem gives_marks {f : FuncId} {fn : Func} {c : Code} {vs : List Value} {R : Value → Mem → Prop} {h0 : Mem} (hf : P.funcs[f]? = some fn) (hb : fn.body = some c) (hn : fn.ntmps = n) (hl : Nat.ble vs.length n = true)
    (ho : Own w0 bor h0 w0) (ht : TCD P n w0 bor c (fun e l h ds => match e with
      | .ret => ∃ (t : Nat) (v : Value) (Ds : List Nat) (A h1 : Mem), fn.results = #[.tmp t] ∧ fnd l t = some v ∧ ds = Ds.map mkD ∧ h = bagR (Ds.map mkR) :: A ∧ h1.Sublist A ∧ R v h1
      | _ => False) (argE 0 vs) h0 []) : Gives P f vs w0 bor R := by
  refine callsIn_wide (n := 5).1 (callsIn_of_wp_marks hf hb trivial (wpIn_wide.2 (wp_mono (ht _ w0 ⟨⟨?_, rfl, fun t v htv => ?_⟩, rfl⟩ ho) fun e a w hq => ?_)) rfl)
  · have := Nat.le_of_ble_eq_true hl
    simp [hn]; omega
  · obtain ⟨_, h2⟩ := fnd_argE vs 0 t v htv
    have hlt := (List.getElem?_eq_some_iff.1 h2).1
    rw [Nat.sub_zero] at h2 hlt
    show (vs.toArray ++ _)[t]? = _
    rw [Array.getElem?_append_left (by simpa using hlt)]
    simpa using h2
  · cases e with
    | ret =>
      obtain ⟨l, h, ds, hfr, ho', t, v, Ds, A, h1, e1, e2, e3, e4, e5, e6⟩ := hq
      subst e3 e4
      show LeavesInM FW 5 P fn a.tmps _ a.defers .returning w
      rw [hfr.ds]
      refine leave_marks Ds w ho' fun w' hw' => ?_
      exact ⟨v, by simp [results, e1, Array.getD_eq_getD_getElem?, show a.tmps[t]? = some v from hfr.fr.has t v e2], v, h1, rfl, e6, hw'.drop e5⟩
    | normal => obtain ⟨_, _, _, _, _, hh⟩ := hq; exact hh.elim
    | exit id => obtain ⟨_, _, _, _, _, hh⟩ := hq; exact hh.elim
    | goto id => obtain ⟨_, _, _, _, _, hh⟩ := hq; exact hh.elim
    | panic c => exact hq.elim
    | outgrown => exact hq.elim
end
end Go.Cru
