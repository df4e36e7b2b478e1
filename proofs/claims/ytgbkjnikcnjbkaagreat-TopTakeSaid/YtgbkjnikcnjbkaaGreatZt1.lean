/- Part 1 of the proof of TopTake: TopM, TopQ, TopG, TopN, TopO, TopR, TopS. -/
import Derived.Test.YtgbkjnikcnjbkaaGreatZt0
import Derived.Deep.MidRow
import Derived.RangeFuncCalls
import Derived.RangeFuncIn
import Derived.RangeFuncLeaves
import Derived.TacticsIn
namespace Go.Proofs.YtgbkjnikcnjbkaaGreat.Top
open Go Go.Proofs.YtgbkjnikcnjbkaaGreatW.PrintLast Go.Proofs.YtgbkjnikcnjbkaaGreatW.PrintMore Go.Proofs.YtgbkjnikcnjbkaaGreatW.PrintWords Go.RowKit
set_option linter.unusedSimpArgs false
set_option linter.unusedVariables false
section
abbrev Env := List (Nat × Value)
abbrev Fct := List Nat → World → Prop
/-- What an operand holds. -/
def ev (E : Env) : Operand → Option Value
  | .tmp t => E.lookup t
  | .const v => some v
  | .global g => some (.pointer (some ⟨g, 0, none⟩))
  | .func f => some (.func (.func f) #[] #[])
/-- A frame's slots. -/
structure Sf (n : Nat) (M : List Deferred) (E : Env) (a : Act) : Prop where
  size : a.tmps.size = n
  defers : a.defers = M
  get : ∀ i v, E.lookup i = some v → a.tmps[i]? = some v
theorem Sf.eval {n : Nat} {M : List Deferred} {E : Env} {a : Act} (h : Sf n M E a) {x : Operand} {v : Value} (hx : ev E x = some v) : a.eval x = v := by
  cases x with
  | tmp t => have := h.get t v hx; simp [Act.eval, this]
  | const c => simpa [ev, Act.eval] using hx
  | global g => simpa [ev, Act.eval] using hx
  | func f => simpa [ev, Act.eval] using hx
theorem Sf.put {n : Nat} {M : List Deferred} {E : Env} {a : Act} (h : Sf n M E a) {d : Nat} (hd : Nat.blt d n = true) (v : Value) : Sf n M ((d, v) :: E) (a.put (some d) v) := by
  have hd' : d < n := by simpa [Nat.blt_eq] using hd
  refine ⟨by simp [Act.put, h.size], h.defers, fun i u hi => ?_⟩
  rw [List.lookup_cons] at hi
  cases hb : (i == d) with
  | true =>
    have e : i = d := by simpa using hb
    subst e
    rw [hb] at hi
    injection hi with hi
    subst hi
    simp [Act.put, Array.getElem?_setIfInBounds, h.size, hd']
  | false =>
    rw [hb] at hi
    have e : d ≠ i := fun e => by subst e; simp at hb
    simpa [Act.put, Array.getElem?_setIfInBounds_ne e] using h.get i u hi
/-- The frame of a function, or of a loop's round. -/
def FR (ro : Option Nat) : Fence := { Fence.wide with round := ro }
theorem callsIn_fr {ro : Option Nat} {n : Nat} {f : FuncId} {args : Array Value} {w : World} {R : Ending → World → Prop} : CallsIn (FR ro) n Tryz.prog f args w R ↔ Calls Tryz.prog f args w R := by
  cases ro with
  | none => exact callsIn_wide
  | some l => exact ⟨fun h => callsIn_wide.1 (CallsIn.outOfRound (F := Fence.wide) (l := l) h), fun h => CallsIn.inRound l (callsIn_wide.2 h)⟩
abbrev CW (ro : Option Nat) (c : Code) (Q : Exit → Act → World → Prop) : Act → World → Prop := Code.wpIn (FR ro) 1 Tryz.prog c Q
abbrev LW (ro : Option Nat) (ops : Array Oper) (Q : Exit → Act → World → Prop) (l : List Oper) : Act → World → Prop := wpListIn (FR ro) 1 Tryz.prog ops Q l
theorem semAt_value {ro : Option Nat} {ρ : Operand → Value} {o : Oper} {W W' : World} {v : Value} (h : (execOp ρ o).run Tryz.prog W = .ok (.value v) W') : (o.semAt ro ρ).run Tryz.prog W = .ok (.value v) W' := by
  cases ro with
  | none => exact h
  | some l =>
    by_cases hd : ∃ c, o.op = .defer c
    · obtain ⟨c, hc⟩ := hd
      simp only [execOp, hc, Sem.run_bind] at h
      cases hr : (resolve ρ c o.type).run Tryz.prog W with
      | ok d W1 => rw [hr] at h; simp at h
      | halt x W1 => rw [hr] at h; simp at h
    · rw [Oper.semAt_eq (some l) ρ o (fun c hc => hd ⟨c, hc⟩)]
      exact h
theorem wpIn_value {ro : Option Nat} {o : Oper} {a : Act} {W W' : World} {v : Value} {K : Act → World → Prop} {Q : Exit → Act → World → Prop} (h : (execOp a.eval o).run Tryz.prog W = .ok (.value v) W') (hk : K (a.put o.dst v) W') : o.wpIn (FR ro) 1 Tryz.prog a W K Q := by
  refine ⟨fun _ _ => trivial, ?_⟩
  have : (FR ro).round = ro := rfl
  rw [this, semAt_value h]
  exact hk
theorem wpIn_of_wp {ro : Option Nat} {o : Oper} {a : Act} {W : World} {K : Act → World → Prop} {Q : Exit → Act → World → Prop} (hd : ∀ c, o.op ≠ .defer c) (h : o.wp Tryz.prog a W K Q) : o.wpIn (FR ro) 1 Tryz.prog a W K Q := by
  refine ⟨fun _ _ => trivial, ?_⟩
  have hr : (FR ro).round = ro := rfl
  rw [hr, Oper.semAt_eq ro a.eval o hd]
  unfold Oper.wp at h
  generalize (execOp a.eval o).run Tryz.prog W = r at h ⊢
  cases r with
  | ok x W1 =>
    cases x with
    | value v => exact h
    | skip => exact h
    | defer d => exact h
    | enter f args => exact ⟨fun hx => by simp [FR, Fence.wide] at hx, callsIn_fr.2 (Calls.mono h fun e w' he => by cases e <;> exact he)⟩
    | row row args => exact ⟨fun hx => by simp [FR, Fence.wide] at hx, fun c cs _ => by
        obtain ⟨v, w', h1, h2⟩ := h c cs
        exact ⟨v, w', h1, stepsIn_wide.2 h2⟩⟩
    | _ => exact h.elim
  | halt x W1 => cases x <;> first | exact h | exact h.elim
/-- A place of a walk. -/
def St (n : Nat) (M : List Deferred) (E : Env) (w0 : World) (L : Nat → Prop) (l : Bxs) (F : Fct) (X : Act → World → Prop) : Prop := ∀ a W, Sf n M E a → Kb w0 L l F W → X a W
/-- An operation yields in every world, or wherever the boxes are these. -/
def Pu (n : Nat) (M : List Deferred) (E : Env) (o : Oper) (v : Value) : Prop := ∀ a W, Sf n M E a → (execOp a.eval o).run Tryz.prog W = .ok (.value v) W
def Rn (n : Nat) (M : List Deferred) (E : Env) (w0 : World) (L : Nat → Prop) (l : Bxs) (F : Fct) (o : Oper) (v : Value) : Prop := ∀ a W, Sf n M E a → Kb w0 L l F W → (execOp a.eval o).run Tryz.prog W = .ok (.value v) W
/-- Is an operation wanted? -/
def Wn (n : Nat) (M : List Deferred) (E : Env) (ops : Array Oper) (o : Oper) (b : Bool) : Prop := ∀ a, Sf n M E a → Region.wanted o (yielded ops a.tmps) = b
theorem wn {n : Nat} {M : List Deferred} {E : Env} {ops : Array Oper} {o : Oper} (h : o.guard = none) : Wn n M E ops o true := fun a _ => by simp [Region.wanted, h]
theorem wn_is {n : Nat} {M : List Deferred} {E : Env} {ops : Array Oper} {o p : Oper} {j d : Nat} {b c cv r : Bool} (h : o.guard = some (j, b)) (hp : ops[j]? = some p) (hd : p.dst = some d) (he : ev E (.tmp d) = some (.bool c)) (hc : c = cv) (hr : (cv == b) = r) : Wn n M E ops o r := fun a ha => by
  have h1 : (ops[j]?.bind fun x => x.dst).bind (fun x => a.tmps[x]?) = some (.bool c) := by
    rw [hp]
    show (p.dst).bind _ = _
    rw [hd]
    exact ha.get d _ he
  subst hc
  subst hr
  simp only [Region.wanted, h, yielded, h1]
  cases c <;> cases b <;> rfl
theorem wn_u {n : Nat} {M : List Deferred} {E : Env} {ops : Array Oper} {o p : Oper} {j d : Nat} {b : Bool} (h : o.guard = some (j, b)) (hp : ops[j]? = some p) (hd : p.dst = some d) (he : ev E (.tmp d) = some undef) : Wn n M E ops o false := fun a ha => by
  have h1 : (ops[j]?.bind fun x => x.dst).bind (fun x => a.tmps[x]?) = some undef := by
    rw [hp]
    show (p.dst).bind _ = _
    rw [hd]
    exact ha.get d _ he
  simp only [Region.wanted, h, yielded, h1]
  cases b <;> rfl
section
variable {ro : Option Nat} {n : Nat} {M : List Deferred} {E : Env} {w0 : World} {L : Nat → Prop} {l : Bxs} {F : Fct} {ops : Array Oper} {Q : Exit → Act → World → Prop} {rest : List Oper} {o : Oper} {d : Nat} {v : Value} {X : Act → World → Prop}
def envA : Nat → List Value → Env
  | _, [] => []
  | i, v :: r => (i, v) :: envA (i + 1) r
theorem envA_get : ∀ (vs : List Value) (k i : Nat) (v : Value), (envA k vs).lookup i = some v → k ≤ i ∧ vs[i - k]? = some v
  | [], _, _, _, h => by simp [envA] at h
  | u :: r, k, i, v, h => by
    rw [envA, List.lookup_cons] at h
    cases hb : (i == k) with
    | true =>
      have e : i = k := by simpa using hb
      subst e
      rw [hb] at h
      refine ⟨Nat.le_refl _, ?_⟩
      rw [Nat.sub_self]
      exact h
    | false =>
      rw [hb] at h
      obtain ⟨h1, h2⟩ := envA_get r (k + 1) i v h
      refine ⟨by omega, ?_⟩
      rw [show i - k = (i - (k + 1)) + 1 from by omega]
      exact h2
theorem lH {f : FuncId} {fn : Func} {c : Code} {vs : List Value} {W : World} {R : Ending → World → Prop} (n : Nat) (hf : Tryz.prog.funcs[f]? = some fn) (hb : fn.body = some c) (hn : fn.ntmps = n) (hs : Nat.ble vs.length n = true)
    (k : Kb w0 L l F W) (h : St n [] (envA 0 vs) w0 L l F (CW none c (bodyPost Tryz.prog fn R))) : Calls Tryz.prog f vs.toArray W R := by
  have hs' : vs.length ≤ n := Nat.le_of_ble_eq_true hs
  refine calls_of_wp hf hb (wpIn_wide.1 (h _ _ ⟨?_, rfl, fun i v hi => ?_⟩ k))
  · simp [hn]; omega
  · have h1 := (envA_get vs 0 i v hi).2
    rw [Nat.sub_zero] at h1
    have hlt : i < vs.length := (List.getElem?_eq_some_iff.1 h1).1
    show (vs.toArray ++ _)[i]? = some v
    rw [Array.getElem?_append_left (by simpa using hlt)]
    simpa using h1
theorem aE {x y : Code} (h : St n M E w0 L l F (CW ro x (Exit.then (CW ro y Q) Q))) : St n M E w0 L l F (CW ro (Code.seq x y) Q) := fun a W ha hk => wpIn_seq (h a W ha hk)
theorem aU {id : Nat} {r : List Oper} (h : St n M E w0 L l F (LW ro r.toArray Q r)) : St n M E w0 L l F (CW ro (Code.region id r.toArray false) Q) := fun a W ha hk => wpIn_region_lit (h a W ha hk)
theorem bQ (h : St n M E w0 L l F (Q .normal)) : St n M E w0 L l F (LW ro ops Q []) := fun a W ha hk => wpListIn_nil (h a W ha hk)
theorem aC {K : Act → World → Prop} {Q' : Exit → Act → World → Prop} (h : St n M E w0 L l F K) : St n M E w0 L l F (Exit.then K Q' .normal) := h
theorem aW {id : Nat} (h : St n M E w0 L l F (Q .normal)) : St n M E w0 L l F (Exit.inBlock id Q .normal) := h
theorem aI (h : St n M E w0 L l F (Q .normal)) : St n M E w0 L l F (CW ro Code.skip Q) := fun a W ha hk => wpIn_skip (h a W ha hk)
theorem cV {i : Nat} (h : St n M E w0 L l F (Q .normal)) : St n M E w0 L l F (CW ro (Code.label i) Q) := fun a W ha hk => wpIn_label (h a W ha hk)
theorem aP {id : Nat} {c : Code} (h : St n M E w0 L l F (CW ro c (Exit.inBlock id Q))) : St n M E w0 L l F (CW ro (Code.block id c) Q) := fun a W ha hk => wpIn_block (h a W ha hk)
theorem aX {id : Nat} (h : St n M E w0 L l F (Q (.exit id))) : St n M E w0 L l F (CW ro (Code.exit id) Q) := fun a W ha hk => wpIn_exit (h a W ha hk)
theorem aK {K : Act → World → Prop} {id : Nat} (h : St n M E w0 L l F (Q (.exit id))) : St n M E w0 L l F (Exit.then K Q (.exit id)) := h
theorem aY {id : Nat} (h : St n M E w0 L l F (Q .normal)) : St n M E w0 L l F (Exit.inBlock id Q (.exit id)) := fun a W ha hk => by
  show if id = id then Q .normal a W else Q (.exit id) a W
  rw [if_pos rfl]
  exact h a W ha hk
theorem aV {id id' : Nat} (hi : Nat.beq id' id = false) (h : St n M E w0 L l F (Q (.exit id'))) : St n M E w0 L l F (Exit.inBlock id Q (.exit id')) := fun a W ha hk => by
  show if id' = id then Q .normal a W else Q (.exit id') a W
  rw [if_neg (fun e => by subst e; simp at hi)]
  exact h a W ha hk
theorem aQ {c : Operand} {x y : Code} {b : Bool} (hc : ev E c = some (.bool b)) (hb : b = true) (h : St n M E w0 L l F (CW ro x Q)) : St n M E w0 L l F (CW ro (Code.cond c x y) Q) := fun a W ha hk => by
  subst hb
  exact wpIn_cond_true (ha.eval hc) (h a W ha hk)
theorem aM {c : Operand} {x y : Code} {b : Bool} (hc : ev E c = some (.bool b)) (hb : b = false) (h : St n M E w0 L l F (CW ro y Q)) : St n M E w0 L l F (CW ro (Code.cond c x y) Q) := fun a W ha hk => by
  subst hb
  exact wpIn_cond_false (ha.eval hc) (h a W ha hk)
theorem aF (h : St n M E w0 L l F (Q .ret)) : St n M E w0 L l F (CW ro Code.ret Q) := fun a W ha hk => wpIn_ret (h a W ha hk)
theorem aS {K : Act → World → Prop} (h : St n M E w0 L l F (Q .ret)) : St n M E w0 L l F (Exit.then K Q .ret) := h
theorem bD {id : Nat} (h : St n M E w0 L l F (Q .ret)) : St n M E w0 L l F (Exit.inBlock id Q .ret) := h
/-- What is known, otherwise said. -/
theorem fL (l' : Bxs) (E' : Env) (hl : l = l') (hE : ∀ i v, E'.lookup i = some v → E.lookup i = some v) (h : St n M E' w0 L l' F X) : St n M E w0 L l F X := fun a W ha hk => h a W ⟨ha.size, ha.defers, fun i v hi => ha.get i v (hE i v hi)⟩ (hl ▸ hk)
def subE (E : Env) : Env → Prop
  | [] => True
  | (i, v) :: r => E.lookup i = some v ∧ subE E r
theorem subE_get {E : Env} : ∀ {E' : Env}, subE E E' → ∀ i v, E'.lookup i = some v → E.lookup i = some v
  | [], _, _, _, h => by simp at h
  | (j, u) :: r, hs, i, v, h => by
    rw [List.lookup_cons] at h
    cases hb : (i == j) with
    | true =>
      have e : i = j := by simpa using hb
      subst e
      rw [hb] at h
      injection h with h
      subst h
      exact hs.1
    | false =>
      rw [hb] at h
      exact subE_get hs.2 i v h
theorem Sf.sub {n : Nat} {M : List Deferred} {E E' : Env} {a : Act} (h : Sf n M E a) (hs : subE E E') : Sf n M E' a := ⟨h.size, h.defers, fun i v hi => h.get i v (subE_get hs i v hi)⟩
/-- A loop's round goes on at j. -/
def Rd_ (σ : Type) (n : Nat) (M : List Deferred) (w0 : World) (L : Nat → Prop) (E' : σ → Env) (l' : σ → Bxs) (F' : σ → Fct) (μ : σ → Nat) (i : σ) : Act → World → Prop := fun a W => ∃ j, Sf n M (E' j) a ∧ Kb w0 L (l' j) (F' j) W ∧ μ j < μ i
theorem iE {σ : Type} {c : Code} (E' : σ → Env) (l' : σ → Bxs) (F' : σ → Fct) (μ : σ → Nat) (i0 : σ) (hE : subE E (E' i0)) (hk : ∀ W, Kb w0 L l F W → Kb w0 L (l' i0) (F' i0) W)
    (round : ∀ i, St n M (E' i) w0 L (l' i) (F' i) (CW ro c (Exit.then (Rd_ σ n M w0 L E' l' F' μ i) Q))) : St n M E w0 L l F (CW ro (Code.loop c) Q) := fun a W ha hkb => by
  intro b k cs hro hb hr
  have key : ∀ m, ∀ i a W, μ i = m → Sf n M (E' i) a → Kb w0 L (l' i) (F' i) W →
      ∃ e a' w', Q e a' w' ∧ ArrivesIn (Machine.fenced Tryz.prog (FR ro)) Tryz.prog (lone (b.atR a (.code c :: .inLoop c :: k)) cs W) b k cs e a' w' := by
    intro m
    induction m using Nat.strongRecOn with
    | _ m ih =>
      intro i a W hm ha hk
      obtain ⟨e, a1, w1, hq, harr⟩ := round i a W ha hk b (.inLoop c :: k) cs hro hb hr
      cases e with
      | normal =>
        obtain ⟨j, h1, h2, h3⟩ := hq
        obtain ⟨e2, a2, w2, hq2, harr2⟩ := ih (μ j) (hm ▸ h3) j a1 w1 rfl h1 h2
        exact ⟨e2, a2, w2, hq2, .of_steps (StepsIn.trans harr (.one (fenced_calm hb hr rfl) stepR_inLoop)) harr2⟩
      | exit id => exact ⟨_, a1, w1, hq, .pass (x := .inLoop c) rfl (fun _ _ => .inl (by simp)) harr⟩
      | goto l => exact ⟨_, a1, w1, hq, .pass (x := .inLoop c) rfl (fun _ _ => .inl (by simp)) harr⟩
      | ret => exact ⟨_, a1, w1, hq, .pass (x := .inLoop c) rfl (fun _ _ => .inl (by simp)) harr⟩
      | panic ch => exact ⟨_, a1, w1, hq, .pass (x := .inLoop c) rfl (fun _ _ => .inl (by simp)) harr⟩
      | outgrown => exact ⟨_, a1, w1, hq, .pass (x := .inLoop c) rfl (fun _ _ => .inl (by simp)) harr⟩
  obtain ⟨e, a', w', hq, harr⟩ := key _ i0 a W rfl (ha.sub hE) (hk W hkb)
  exact ⟨e, a', w', hq, .of_steps (.one (fenced_calm hb hr rfl) stepR_loop) harr⟩
theorem jA {σ : Type} {E' : σ → Env} {l' : σ → Bxs} {F' : σ → Fct} {μ : σ → Nat} {i : σ} (j : σ) (hE : subE E (E' j)) (hk : ∀ W, Kb w0 L l F W → Kb w0 L (l' j) (F' j) W) (hm : μ j < μ i) : St n M E w0 L l F (Rd_ σ n M w0 L E' l' F' μ i) := fun a W ha hkb => ⟨j, ha.sub hE, hk W hkb, hm⟩
/-- A loop that counts. -/
def Rk (n : Nat) (M : List Deferred) (w0 : World) (L : Nat → Prop) (F : Fct) (N : Nat) (E' : Nat → Env) (l' : Nat → Bxs) (k : Nat) : Act → World → Prop := Rd_ {i : Nat // i ≤ N} n M w0 L (fun i => E' i.1) (fun i => l' i.1) (fun _ => F) (fun i => N - i.1) ⟨min k N, Nat.min_le_right _ _⟩
theorem cR {c : Code} (E' : Nat → Env) (l' : Nat → Bxs) (N : Nat) (hE : subE E (E' 0)) (hl : l = l' 0)
    (round : ∀ k, k ≤ N → St n M (E' k) w0 L (l' k) F (CW ro c (Exit.then (Rk n M w0 L F N E' l' k) Q))) : St n M E w0 L l F (CW ro (Code.loop c) Q) :=
  iE (σ := {i : Nat // i ≤ N}) (fun i => E' i.1) (fun i => l' i.1) (fun _ => F) (fun i => N - i.1) ⟨0, Nat.zero_le _⟩ hE (fun _ h => hl ▸ h) fun i => by
    have := round i.1 i.2
    unfold Rk at this
    have e : (⟨min i.1 N, Nat.min_le_right _ _⟩ : {i : Nat // i ≤ N}) = i := Subtype.ext (Nat.min_eq_left i.2)
    rw [e] at this
    exact this
theorem bW {N k : Nat} {E' : Nat → Env} {l' : Nat → Bxs} (hE : subE E (E' (k + 1))) (hl : l = l' (k + 1)) (hk : k + 1 ≤ N) : St n M E w0 L l F (Rk n M w0 L F N E' l' k) :=
  jA ⟨k + 1, hk⟩ hE (fun _ h => hl ▸ h) (by show N - (k + 1) < N - min k N; omega)
theorem l_p (hp : Pu n M E o v) (hg : o.guard = none) (hd : o.dst = some d) (hn : Nat.blt d n = true) (h : St n M ((d, v) :: E) w0 L l F (LW ro ops Q rest)) : St n M E w0 L l F (LW ro ops Q (o :: rest)) := fun a W ha hk => by
  refine wpListIn_plain hg fun K hK => ?_
  refine wpIn_value (hp a W ha) ?_
  rw [hd]
  exact hK _ _ (h _ _ (ha.put hn v) hk)
theorem l_r (hp : Rn n M E w0 L l F o v) (hg : o.guard = none) (hd : o.dst = some d) (hn : Nat.blt d n = true) (h : St n M ((d, v) :: E) w0 L l F (LW ro ops Q rest)) : St n M E w0 L l F (LW ro ops Q (o :: rest)) := fun a W ha hk => by
  refine wpListIn_plain hg fun K hK => ?_
  refine wpIn_value (hp a W ha hk) ?_
  rw [hd]
  exact hK _ _ (h _ _ (ha.put hn v) hk)
/-- Under a guard. -/
theorem lg_p (hw : Wn n M E ops o true) (hp : Pu n M E o v) (hd : o.dst = some d) (hn : Nat.blt d n = true) (h : St n M ((d, v) :: E) w0 L l F (LW ro ops Q rest)) : St n M E w0 L l F (LW ro ops Q (o :: rest)) := fun a W ha hk => by
  refine wpListIn_step fun K hK => ?_
  rw [if_pos (hw a ha)]
  refine wpIn_value (hp a W ha) ?_
  rw [hd]
  exact hK _ _ (h _ _ (ha.put hn v) hk)
theorem lg_r (hw : Wn n M E ops o true) (hp : Rn n M E w0 L l F o v) (hd : o.dst = some d) (hn : Nat.blt d n = true) (h : St n M ((d, v) :: E) w0 L l F (LW ro ops Q rest)) : St n M E w0 L l F (LW ro ops Q (o :: rest)) := fun a W ha hk => by
  refine wpListIn_step fun K hK => ?_
  rw [if_pos (hw a ha)]
  refine wpIn_value (hp a W ha hk) ?_
  rw [hd]
  exact hK _ _ (h _ _ (ha.put hn v) hk)
theorem pB (hw : Wn n M E ops o false) (hd : o.dst = some d) (hn : Nat.blt d n = true) (h : St n M ((d, undef) :: E) w0 L l F (LW ro ops Q rest)) : St n M E w0 L l F (LW ro ops Q (o :: rest)) := fun a W ha hk => by
  refine wpListIn_step fun K hK => ?_
  rw [if_neg (by rw [hw a ha]; simp), hd]
  exact ⟨fun _ _ => trivial, hK _ _ (h _ _ (ha.put hn undef) hk)⟩
theorem fH {x : Operand} (ho : o.op = .move x) (hx : ev E x = some v) : Pu n M E o v := fun a W ha => by
  have h := ha.eval hx
  simp [execOp, ho, h]
theorem lI {x : Operand} (ho : o.op = .assign x) (hx : ev E x = some v) : Pu n M E o v := fun a W ha => by
  have h := ha.eval hx
  simp [execOp, ho, h]
def foB (P : Program) (t : TypeId) (k m : Nat) : Bool :=
  match P.underlying t with
  | some (.struct fs) => match fs[k]? with
    | some f => f.offset == m && (match P.info? f.type with | some i => i.size != 0 | none => false)
    | none => false
  | _ => false
theorem eC {t : TypeId} {x : Operand} {k b off : Nat} (m : Nat) (r : Nat) (hf : foB Tryz.prog t k m = true) (hr : off + m = r) (ho : o.op = .fieldAddr t x k) (hx : ev E x = some (.pointer (some ⟨b, off, none⟩))) : Pu n M E o (.pointer (some ⟨b, r, none⟩)) := fun a W ha => by
  have h := ha.eval hx
  subst hr
  unfold foB at hf
  cases hu : Tryz.prog.underlying t with
  | none => simp [hu] at hf
  | some D =>
    cases D with
    | struct fs =>
      cases hfk : fs[k]? with
      | none => simp [hu, hfk] at hf
      | some f =>
        cases hi : Tryz.prog.info? f.type with
        | none => simp [hu, hfk, hi] at hf
        | some i =>
          simp only [hu, hfk, hi, Bool.and_eq_true, beq_iff_eq, bne_iff_ne] at hf
          obtain ⟨h1, h3⟩ := hf
          subst h1
          simp [execOp, ho, h, Instr.fieldAt, run_underlying hu, hfk, Instr.sureAddr, fieldPlace, sizeOf, typeInfo, hi, h3, Addr.add_mid]
    | _ => simp [hu] at hf
/-- A row's size; one cell. -/
def rowB (P : Program) (t : TypeId) (m : Nat) : Bool := (match P.underlying t with | some d => d.isRow | none => false) && ((P.info? t).map (·.size) == some m)
def cellB (P : Program) (t : TypeId) : Bool := (match P.underlying t with | some d => !d.isRow | none => false) && ((P.info? t).map (·.size) == some 1)
theorem row_of {t : TypeId} {m : Nat} (h : rowB Tryz.prog t m = true) : (∃ d, Tryz.prog.underlying t = some d ∧ d.isRow = true) ∧ (Tryz.prog.info? t).map (·.size) = some m := by
  unfold rowB at h
  simp only [Bool.and_eq_true, beq_iff_eq] at h
  refine ⟨?_, h.2⟩
  have h1 := h.1
  cases hd : Tryz.prog.underlying t with
  | none => simp [hd] at h1
  | some d => exact ⟨d, rfl, by simpa [hd] using h1⟩
theorem cell_of {t : TypeId} (h : cellB Tryz.prog t = true) : (∃ d, Tryz.prog.underlying t = some d ∧ d.isRow = false) ∧ (Tryz.prog.info? t).map (·.size) = some 1 := by
  unfold cellB at h
  simp only [Bool.and_eq_true, beq_iff_eq] at h
  refine ⟨?_, h.2⟩
  have h1 := h.1
  cases hd : Tryz.prog.underlying t with
  | none => simp [hd] at h1
  | some d => exact ⟨d, rfl, by simpa [hd] using h1⟩
/-- A field of one cell. -/
def fcB (P : Program) (t : TypeId) (k : Nat) : Bool :=
  match P.underlying t with
  | some (.struct fs) => match fs[k]? with
    | some f => cellB P f.type
    | none => false
  | _ => false
def slB (P : Program) (t : TypeId) : Bool := match P.underlying t with | some (.slice _) => true | _ => false
theorem sl_of {t : TypeId} (h : slB Tryz.prog t = true) : ∃ e, Tryz.prog.underlying t = some (.slice e) := by
  unfold slB at h
  cases hd : Tryz.prog.underlying t with
  | none => simp [hd] at h
  | some d => cases d <;> simp [hd] at h ⊢
theorem run_loadVar_cell {t : TypeId} (h : cellB Tryz.prog t = true) {W : World} {a : Addr} (hc : W.cell? a = some v) : (loadVar t a).run Tryz.prog W = .ok v W := by
  obtain ⟨⟨d, hu, hd⟩, _⟩ := cell_of h
  have hagg : (isAgg t).run Tryz.prog W = .ok false W := by
    unfold isAgg
    rw [Sem.run_bind, run_underlying hu W]
    cases d <;> simp_all [TypeDesc.isRow]
  simp [loadVar, Sem.run_bind, hagg, hc]
theorem Kb.range {w : World} (h : Kb w0 L l F w) (k : Nat) {b : Nat} {tt : TypeId} {cs : Array Value} (hk : l[k]? = some (b, Ce tt cs)) {off m : Nat} {vs : List Value} (hv : (cs.toList.drop off).take m = vs) : w.rangeAt b off vs := fun j u hj => by
  subst hv
  rw [List.getElem?_take] at hj
  split at hj
  · rw [List.getElem?_drop] at hj
    have hlt : off + j < cs.size := by have := (List.getElem?_eq_some_iff.1 hj).1; simpa using this
    rw [h.rd k hk (off + j) hlt]
    rw [Array.getElem?_toList, Array.getElem?_eq_getElem hlt] at hj
    exact hj
  · cases hj
theorem kD {t : TypeId} {x : Operand} {b off : Nat} {tt : TypeId} {cs : Array Value} (k m : Nat) (vs : Array Value) (ht : rowB Tryz.prog t m = true) (ho : o.op = .load t x) (hx : ev E x = some (.pointer (some ⟨b, off, none⟩))) (hk : l[k]? = some (b, Ce tt cs)) (hv : (cs.toList.drop off).take m = vs.toList) (hm : Nat.beq vs.size m = true) : Rn n M E w0 L l F o (.agg vs) := fun a W ha hkb => by
  obtain ⟨⟨d, hu, hd⟩, hi⟩ := row_of ht
  have hm' : vs.toList.length = m := by simpa using Nat.eq_of_beq_eq_true hm
  have h := ha.eval hx
  have hl := run_loadVar_mid (P := Tryz.prog) W b off t vs.toList d (hkb.range k hk hv) hu hd (by rw [hi, hm'])
  rw [Array.toArray_toList] at hl
  simp [execOp, ho, h, Instr.loadAt, Instr.sureAddr, hl]
/-- A whole box. -/
theorem gO {t : TypeId} {x : Operand} {b : Nat} {tt : TypeId} {cs : Array Value} (k m : Nat) (ht : rowB Tryz.prog t m = true) (ho : o.op = .load t x) (hx : ev E x = some (.pointer (some ⟨b, 0, none⟩))) (hk : l[k]? = some (b, Ce tt cs)) (hm : Nat.beq cs.size m = true) : Rn n M E w0 L l F o (.agg cs) :=
  kD k m cs ht ho hx hk (by rw [List.drop_zero, List.take_of_length_le (by rw [Array.length_toList, Nat.eq_of_beq_eq_true hm]; exact Nat.le_refl _)]) hm
theorem cT {t : TypeId} {x : Operand} {b off : Nat} {tt : TypeId} {cs : Array Value} (k : Nat) (v : Value) (ht : cellB Tryz.prog t = true) (ho : o.op = .load t x) (hx : ev E x = some (.pointer (some ⟨b, off, none⟩))) (hk : l[k]? = some (b, Ce tt cs)) (hv : cs[off]? = some v) : Rn n M E w0 L l F o v := fun a W ha hkb => by
  have h := ha.eval hx
  have hlt : off < cs.size := (Array.getElem?_eq_some_iff.1 hv).1
  have hc := hkb.rd k hk off hlt
  rw [(Array.getElem?_eq_some_iff.1 hv).2] at hc
  have hl := run_loadVar_cell ht hc
  simp [execOp, ho, h, Instr.loadAt, Instr.sureAddr, hl]
def evs0 (E : Env) : List Operand → Option (List Value)
  | [] => some []
  | x :: r => match ev E x, evs0 E r with
    | some v, some vs => some (v :: vs)
    | _, _ => none
theorem evs0_eval {a : Act} (ha : Sf n M E a) : ∀ {xs : List Operand} {vs : List Value}, evs0 E xs = some vs → xs.map a.eval = vs
  | [], vs, h => by simpa [evs0] using h
  | x :: r, vs, h => by
    rw [evs0] at h
    cases h1 : ev E x with
    | none => simp [h1] at h
    | some v =>
      cases h2 : evs0 E r with
      | none => simp [h1, h2] at h
      | some us =>
        rw [h1, h2] at h
        injection h with h
        subst h
        rw [List.map_cons, ha.eval h1, evs0_eval ha h2]
theorem cS {op : BinOp} {t t' : TypeId} {x y : Operand} {u w : Value} (ho : o.op = .binOp op t x y t') (hx : ev E x = some u) (hy : ev E y = some w) (hr : ∀ W, ((do eqGuard op t x y u w; binOp op t u w : Sem Value)).run Tryz.prog W = .ok v W) : Pu n M E o v := fun a W ha => by
  have h := ha.eval hx
  have h' := ha.eval hy
  have := hr W
  simp only [execOp, ho, h, h', Sem.run_bind] at this ⊢
  rw [this]
  rfl
section
variable {t t' : TypeId} {x y : Operand} {p q : Int} {c e : Bool}
theorem oG (ho : o.op = .binOp .lss t x y t') (hx : ev E x = some (I p)) (hy : ev E y = some (I q)) : Pu n M E o (.bool (decide (p < q))) := cS ho hx hy fun W => by simp [go_sem]
theorem oH (ho : o.op = .binOp .leq t x y t') (hx : ev E x = some (I p)) (hy : ev E y = some (I q)) : Pu n M E o (.bool (decide (p ≤ q))) := cS ho hx hy fun W => by simp [go_sem]
theorem qI (ho : o.op = .binOp .gtr t x y t') (hx : ev E x = some (I p)) (hy : ev E y = some (I q)) : Pu n M E o (.bool (decide (q < p))) := cS ho hx hy fun W => by simp [go_sem]
theorem qJ (ho : o.op = .binOp .geq t x y t') (hx : ev E x = some (I p)) (hy : ev E y = some (I q)) : Pu n M E o (.bool (decide (q ≤ p))) := cS ho hx hy fun W => by simp [go_sem]
theorem eO (ho : o.op = .binOp .eql t x y t') (hx : ev E x = some (I p)) (hy : ev E y = some (I q)) : Pu n M E o (.bool (decide (p = q))) := cS ho hx hy fun W => by simp [go_sem]; rfl
theorem qK (ho : o.op = .binOp .neq t x y t') (hx : ev E x = some (I p)) (hy : ev E y = some (I q)) : Pu n M E o (.bool (!decide (p = q))) := cS ho hx hy fun W => by simp [go_sem]; rfl
theorem qL (z : Int) (hz : wrap64 (p + q) = z) (ho : o.op = .binOp .add t x y t') (hx : ev E x = some (I p)) (hy : ev E y = some (I q)) : Pu n M E o (I z) := cS ho hx hy fun W => by subst hz; simp [go_sem, i64_w]
theorem lJ (z : Int) (hz : wrap64 (p - q) = z) (ho : o.op = .binOp .sub t x y t') (hx : ev E x = some (I p)) (hy : ev E y = some (I q)) : Pu n M E o (I z) := cS ho hx hy fun W => by subst hz; simp [go_sem, i64_w]
theorem lK (z : Int) (hz : wrap64 (p * q) = z) (ho : o.op = .binOp .mul t x y t') (hx : ev E x = some (I p)) (hy : ev E y = some (I q)) : Pu n M E o (I z) := cS ho hx hy fun W => by subst hz; simp [go_sem, i64_w]
theorem kE (z : Int) (hz : andS p q = z) (ho : o.op = .binOp .and t x y t') (hx : ev E x = some (I p)) (hy : ev E y = some (I q)) : Pu n M E o (I z) := cS ho hx hy fun W => by subst hz; rfl
theorem qM (z : Int) (hz : orS p q = z) (ho : o.op = .binOp .or t x y t') (hx : ev E x = some (I p)) (hy : ev E y = some (I q)) : Pu n M E o (I z) := cS ho hx hy fun W => by subst hz; rfl
theorem jN (ho : o.op = .binOp .shr t x y t') (hx : ev E x = some (I p)) (hy : ev E y = some (.int .u64 1)) : Pu n M E o (I (p / 2)) := cS ho hx hy fun W => by simp [go_sem]
theorem pC (ho : o.op = .binOp .shr t x y t') (hx : ev E x = some (I p)) (hy : ev E y = some (.int .u64 3)) : Pu n M E o (I (p / 8)) := cS ho hx hy fun W => by simp [go_sem]
theorem pD (ho : o.op = .binOp .shr t x y t') (hx : ev E x = some (I p)) (hy : ev E y = some (.int .u64 4)) : Pu n M E o (I (p / 16)) := cS ho hx hy fun W => by simp [go_sem]
theorem eq188 (op : BinOp) (a b c d : Int) (x y : Operand) (W : World) : ((do eqGuard .eql 188 x y (.agg #[I a, I b]) (.agg #[I c, I d]); binOp .eql 188 (.agg #[I a, I b]) (.agg #[I c, I d]) : Sem Value)).run Tryz.prog W = .ok (.bool (decide (a = c ∧ b = d))) W := by
  simp [go_sem]
  by_cases h : a = c <;> by_cases h' : b = d <;> simp [h, h']
theorem ne188 (op : BinOp) (a b c d : Int) (x y : Operand) (W : World) : ((do eqGuard .neq 188 x y (.agg #[I a, I b]) (.agg #[I c, I d]); binOp .neq 188 (.agg #[I a, I b]) (.agg #[I c, I d]) : Sem Value)).run Tryz.prog W = .ok (.bool (!decide (a = c ∧ b = d))) W := by
  simp [go_sem]
  by_cases h : a = c <;> by_cases h' : b = d <;> simp [h, h']
theorem nG {a b c d : Int} (ho : o.op = .binOp .eql 188 x y t') (hx : ev E x = some (.agg #[I a, I b])) (hy : ev E y = some (.agg #[I c, I d])) : Pu n M E o (.bool (decide (a = c ∧ b = d))) := cS ho hx hy (eq188 .eql a b c d x y)
theorem nH {a b c d : Int} (ho : o.op = .binOp .neq 188 x y t') (hx : ev E x = some (.agg #[I a, I b])) (hy : ev E y = some (.agg #[I c, I d])) : Pu n M E o (.bool (!decide (a = c ∧ b = d))) := cS ho hx hy (ne188 .neq a b c d x y)
def evps (E : Env) : List (Nat × Operand) → Option (List (Nat × Value))
  | [] => some []
  | (i, x) :: r => match ev E x, evps E r with
    | some v, some vs => some ((i, v) :: vs)
    | _, _ => none
theorem evps_eval {a : Act} (ha : Sf n M E a) : ∀ {xs : List (Nat × Operand)} {vs : List (Nat × Value)}, evps E xs = some vs → xs.map (fun (i, x) => (i, a.eval x)) = vs
  | [], vs, h => by simpa [evps] using h
  | (i, x) :: r, vs, h => by
    rw [evps] at h
    cases h1 : ev E x with
    | none => simp [h1] at h
    | some v =>
      cases h2 : evps E r with
      | none => simp [h1, h2] at h
      | some us =>
        rw [h1, h2] at h
        injection h with h
        subst h
        rw [List.map_cons, evps_eval ha h2]
        simp only [ha.eval h1]
theorem bB {t : TypeId} {ps : List (Nat × Operand)} {us : List (Nat × Value)} (cells : Array Value) (ho : o.op = .build t ps.toArray) (hx : evps E ps = some us) (hb : Tryz.prog.built t us = some cells) : Pu n M E o (.agg cells) := fun a W ha => by
  have h := evps_eval ha hx
  have hr := run_build (P := Tryz.prog) W t us.toArray cells (by simpa using hb)
  simp [execOp, ho, h, hr]
theorem hO {ts : Array TypeId} (ho : o.op = .call { callee := .builtin .max, args := [x, y].toArray, argTypes := ts }) (hx : ev E x = some (I p)) (hy : ev E y = some (I q)) : Pu n M E o (I (mxS p q)) := fun a W ha => by
  have h := ha.eval hx
  have h' := ha.eval hy
  have hr : (Builtin.max_ ts o.type #[I p, I q]).run Tryz.prog W = .ok (I (mxS p q)) W := by rw [max_two]; simp [max2_int, mxS]
  simp only [execOp, ho, resolve, invoke, builtin, Sem.run_bind, Sem.run_pure, Result.andThen_ok, List.map_toArray, List.map_cons, List.map_nil, h, h', hr]
theorem fM {ts : Array TypeId} (ho : o.op = .call { callee := .builtin .min, args := [x, y].toArray, argTypes := ts }) (hx : ev E x = some (I p)) (hy : ev E y = some (I q)) : Pu n M E o (I (mnS p q)) := fun a W ha => by
  have h := ha.eval hx
  have h' := ha.eval hy
  have hr : (Builtin.min_ ts o.type #[I p, I q]).run Tryz.prog W = .ok (I (mnS p q)) W := by rw [min_two]; simp [min2_int, mnS]
  simp only [execOp, ho, resolve, invoke, builtin, Sem.run_bind, Sem.run_pure, Result.andThen_ok, List.map_toArray, List.map_cons, List.map_nil, h, h', hr]
theorem qN (z : Int) (hz : wrap64 (-p) = z) (ho : o.op = .unOp .neg t x) (hx : ev E x = some (I p)) : Pu n M E o (I z) := fun a W ha => by
  have h := ha.eval hx
  subst hz
  have hr : (Op.unary .neg (I p)).run Tryz.prog W = .ok (I (wrap64 (-p))) W := by simp [go_sem, i64_w]
  simp [execOp, ho, h, hr]
theorem eH {xs : Array Value} {k : Nat} (m sz : Nat) (hf : foB Tryz.prog t k m = true) (ho : o.op = .field t x k) (hx : ev E x = some (.agg xs)) (hv : xs[m]? = some v) (hc : fcB Tryz.prog t k = true) : Pu n M E o v := fun a W ha => by
  have h := ha.eval hx
  unfold foB at hf
  unfold fcB at hc
  cases hu : Tryz.prog.underlying t with
  | none => simp [hu] at hf
  | some D =>
    cases D with
    | struct fs =>
      cases hfk : fs[k]? with
      | none => simp [hu, hfk] at hf
      | some f =>
        cases hi : Tryz.prog.info? f.type with
        | none => simp [hu, hfk, hi] at hf
        | some i =>
          simp only [hu, hfk, hi, Bool.and_eq_true, beq_iff_eq, bne_iff_ne] at hf
          obtain ⟨h1, h3⟩ := hf
          subst h1
          simp only [hu, hfk] at hc
          obtain ⟨⟨d, hud, hd⟩, _⟩ := cell_of hc
          have hagg : (isAgg f.type).run Tryz.prog W = .ok false W := by
            unfold isAgg
            rw [Sem.run_bind, run_underlying hud W]
            cases d <;> simp_all [TypeDesc.isRow]
          simp [execOp, ho, h, Instr.field, run_underlying hu, hfk, part, hagg, hv, asAgg]
    | _ => simp [hu] at hf
/-- .. the other side not reckoned. -/
theorem nI {x y z : Operand} (ho : o.op = .pick x y z) (hx : ev E x = some (.bool c)) (hc : c = true) (hy : ev E y = some v) : Pu n M E o v := fun a W ha => by
  have h := ha.eval hx
  have h' := ha.eval hy
  subst hc
  simp [execOp, ho, h, h', asBool]
theorem nJ {x y z : Operand} (ho : o.op = .pick x y z) (hx : ev E x = some (.bool c)) (hc : c = false) (hy : ev E z = some v) : Pu n M E o v := fun a W ha => by
  have h := ha.eval hx
  have h' := ha.eval hy
  subst hc
  simp [execOp, ho, h, h', asBool]
theorem oI {t : TypeId} {x : Operand} (ho : o.op = .unOp .not t x) (hx : ev E x = some (.bool c)) : Pu n M E o (.bool (!c)) := fun a W ha => by
  have h := ha.eval hx
  have hr : ∀ c, (Op.unary .not (.bool c)).run Tryz.prog W = .ok (.bool !c) W := fun c => by simp [go_sem]
  simp [execOp, ho, h, hr]
theorem jB {x : Operand} {k : Nat} {vs : List Value} (ho : o.op = .extract x k) (hx : ev E x = some (.tuple vs.toArray)) (hk : vs[k]? = some v) : Pu n M E o v := fun a W ha => by
  have h := ha.eval hx
  simp [execOp, ho, h, Instr.extract, hk]
theorem cE {fn : Nat} {xs ys : List Operand} {us vs : List Value} (ho : o.op = .makeFunc (.func fn) xs.toArray ys.toArray) (hx : evs0 E xs = some us) (hy : evs0 E ys = some vs) : Pu n M E o (.func (.func fn) us.toArray vs.toArray) := fun a W ha => by
  have h := evs0_eval ha hx
  have h' := evs0_eval ha hy
  simp [execOp, ho, Instr.makeFunc, h, h']
/-- An element's place. -/
def elB (P : Program) (t : TypeId) (sz : Nat) : Bool := match P.underlying t with | some (.slice e) => (P.info? e).map (·.size) == some sz | _ => false
theorem jC {t : TypeId} {x ix : Operand} {A : Option Addr} {m c b p : Nat} {i : Int} (sz : Nat) (hs : elB Tryz.prog t sz = true) (ho : o.op = .indexAddr t x ix) (hx : ev E x = some (.slice A m c)) (hi : ev E ix = some (I i)) (hA : A = some ⟨b, p, none⟩) (h0 : 0 ≤ i) (h1 : i < m) : Pu n M E o (.pointer (some ⟨b, p + i.toNat * sz, none⟩)) := fun a W ha => by
  have h := ha.eval hx
  have h' := ha.eval hi
  subst hA
  unfold elB at hs
  cases hu : Tryz.prog.underlying t with
  | none => simp [hu] at hs
  | some D =>
    cases D with
    | slice e =>
      simp only [hu, beq_iff_eq] at hs
      cases hi : Tryz.prog.info? e with
      | none => simp [hi] at hs
      | some ie =>
        have hsz : ie.size = sz := by simpa [hi] using hs
        subst hsz
        simp [execOp, ho, h, h', Instr.indexAt, asIntOf, run_underlying hu, h0, h1, sizeOf, typeInfo, hi, Addr.add_mid]
    | _ => simp [hu] at hs
/-- What can be read, at a place. -/
theorem dE {t : TypeId} {x : Operand} {b off : Nat} (m : Nat) (vs : Array Value) (ht : rowB Tryz.prog t m = true) (ho : o.op = .load t x) (hx : ev E x = some (.pointer (some ⟨b, off, none⟩))) (hm : Nat.beq vs.size m = true) (hr : ∀ W, Kb w0 L l F W → W.rangeAt b off vs.toList) : Rn n M E w0 L l F o (.agg vs) := fun a W ha hkb => by
  obtain ⟨⟨d, hu, hd⟩, hi⟩ := row_of ht
  have hm' : vs.toList.length = m := by simpa using Nat.eq_of_beq_eq_true hm
  have h := ha.eval hx
  have hl := run_loadVar_mid (P := Tryz.prog) W b off t vs.toList d (hr W hkb) hu hd (by rw [hi, hm'])
  rw [Array.toArray_toList] at hl
  simp [execOp, ho, h, Instr.loadAt, Instr.sureAddr, hl]
theorem cA {t : TypeId} {x : Operand} {b off : Nat} (v : Value) (ht : cellB Tryz.prog t = true) (ho : o.op = .load t x) (hx : ev E x = some (.pointer (some ⟨b, off, none⟩))) (hr : ∀ W, Kb w0 L l F W → W.cell? ⟨b, off, none⟩ = some v) : Rn n M E w0 L l F o v := fun a W ha hkb => by
  have h := ha.eval hx
  have hl := run_loadVar_cell ht (hr W hkb)
  simp [execOp, ho, h, Instr.loadAt, Instr.sureAddr, hl]
theorem jD {t : TypeId} {x : Operand} {A : Option Addr} {m c : Nat} (hs : slB Tryz.prog t = true) (ho : o.op = .call { callee := .builtin .len, args := [x].toArray, argTypes := [t].toArray }) (hx : ev E x = some (.slice A m c)) : Pu n M E o (I m) := fun a W ha => by
  have h := ha.eval hx
  obtain ⟨e, he⟩ := sl_of hs
  have hr : (Builtin.len_ [t].toArray o.type #[.slice A m c]).run Tryz.prog W = .ok (I m) W := by simp [Builtin.len_, goInt, run_underlying he]
  simp only [execOp, ho, resolve, invoke, builtin, Sem.run_bind, Sem.run_pure, Result.andThen_ok, List.map_toArray, List.map_cons, List.map_nil, h, hr]
end
end
section
variable {ro : Option Nat} {n : Nat} {M : List Deferred} {E : Env} {w0 : World} {L : Nat → Prop} {l : Bxs} {F : Fct} {ops : Array Oper} {Q : Exit → Act → World → Prop} {rest : List Oper} {o : Oper} {d : Nat} {v : Value} {X K : Act → World → Prop}
def Fx (n : Nat) (M : List Deferred) (E : Env) (w0 : World) (L : Nat → Prop) (l : Bxs) (F : Fct) (Q : Exit → Act → World → Prop) (o : Oper) (K : Act → World → Prop) : Prop := (∀ c, o.op ≠ .defer c) ∧ ∀ a W, Sf n M E a → Kb w0 L l F W → o.wp Tryz.prog a W K Q
theorem l_x (hf : Fx n M E w0 L l F Q o (LW ro ops Q rest)) (hg : o.guard = none) : St n M E w0 L l F (LW ro ops Q (o :: rest)) := fun a W ha hk =>
  wpListIn_plain hg fun K hK => wpIn_of_wp hf.1 (Oper.wp_mono hK (hf.2 a W ha hk))
theorem kY (hw : Wn n M E ops o true) (hf : Fx n M E w0 L l F Q o (LW ro ops Q rest)) : St n M E w0 L l F (LW ro ops Q (o :: rest)) := fun a W ha hk =>
  wpListIn_step fun K hK => by
    rw [if_pos (hw a ha)]
    exact wpIn_of_wp hf.1 (Oper.wp_mono hK (hf.2 a W ha hk))
def szB (P : Program) (t : TypeId) (m : Nat) : Bool := (P.info? t).map (·.size) == some m
theorem run_storeVar_at {t : TypeId} {b off : Nat} {W : World} (v : Value) (hi : szB Tryz.prog t v.cells.size = true) (ht : W.there b off v.cells.size) (h1 : v.cells.all (·.oneCell') = true) : (storeVar t ⟨b, off, none⟩ v).run Tryz.prog W = .ok () (W.setCells b off v.cells.toList) := by
  have := run_storeCells_cells (P := Tryz.prog) b off v.cells.toList 0 W (fun j hj => by simpa using (ht j (by simpa using hj)).1) (fun j hj => by simpa using (ht j (by simpa using hj)).2)
    (fun v hv => (Array.all_eq_true_iff_forall_mem.1 h1) v (by simpa using hv))
  unfold szB at hi
  cases hq : Tryz.prog.info? t with
  | none => simp [hq] at hi
  | some i =>
    have hs : i.size = v.cells.size := by simpa [hq] using hi
    simp only [Nat.add_zero] at this
    simp [storeVar, sizeOf, typeInfo, hq, hs, this]
theorem Kb.there {w : World} (h : Kb w0 L l F w) (k : Nat) {b : Nat} {tt : TypeId} {cs : Array Value} (hk : l[k]? = some (b, Ce tt cs)) {off m : Nat} (hm : off + m ≤ cs.size) : w.there b off m := fun j hj => ⟨by rw [h.rd k hk (off + j) (by omega)]; rfl, h.fz k hk (off + j)⟩
theorem jE {t : TypeId} {x y : Operand} {b off : Nat} {tt : TypeId} {cs : Array Value} (k : Nat) (l' : Bxs) (ho : o.op = .store t x y) (hd : o.dst = none) (hx : ev E x = some (.pointer (some ⟨b, off, none⟩))) (hy : ev E y = some v) (hk : l[k]? = some (b, Ce tt cs)) (hi : szB Tryz.prog t v.cells.size = true)
    (h1 : v.cells.toList.all (·.oneCell') = true) (hs : Nat.ble (off + v.cells.size) cs.size = true) (hl : l.set k (b, Ce tt (putL cs off v.cells.toList)) = l') (h : St n M E w0 L l' F K) : Fx n M E w0 L l F Q o K := by
  refine ⟨fun c => by rw [ho]; simp, fun a W ha hkb => ?_⟩
  subst hl
  have hX := ha.eval hx
  have hY := ha.eval hy
  have hle := Nat.le_of_ble_eq_true hs
  have hr := run_storeVar_at v hi (hkb.there k hk hle) (by rw [← Array.all_toList]; exact h1)
  unfold Oper.wp
  simp only [execOp, ho, hX, hY, Instr.storeAt, Instr.sureAddr, Sem.run_bind, Sem.run_pure, Result.andThen_ok, hr, Oper.upon_skip, hd]
  exact h a _ ha (Kb.puts k v.cells.toList cs off hkb hk)
/-- .. of a whole box. -/
theorem nK {t : TypeId} {x y : Operand} {b : Nat} {tt : TypeId} {cs : Array Value} (k : Nat) (cs' : Array Value) (l' : Bxs) (ho : o.op = .store t x y) (hd : o.dst = none) (hx : ev E x = some (.pointer (some ⟨b, 0, none⟩))) (hy : ev E y = some (.agg cs')) (hk : l[k]? = some (b, Ce tt cs)) (hi : szB Tryz.prog t cs'.size = true)
    (h1 : cs'.toList.all (·.oneCell') = true) (hs : Nat.beq cs'.size cs.size = true) (hl : l.set k (b, Ce tt cs') = l') (h : St n M E w0 L l' F K) : Fx n M E w0 L l F Q o K := by
  refine ⟨fun c => by rw [ho]; simp, fun a W ha hkb => ?_⟩
  subst hl
  have hX := ha.eval hx
  have hY := ha.eval hy
  have hr := run_storeVar_at (b := b) (off := 0) (W := W) (.agg cs') hi (hkb.there k hk (by rw [Nat.zero_add]; exact Nat.le_of_eq (Nat.eq_of_beq_eq_true hs))) (by rw [← Array.all_toList]; exact h1)
  unfold Oper.wp
  simp only [execOp, ho, hX, hY, Instr.storeAt, Instr.sureAddr, Sem.run_bind, Sem.run_pure, Result.andThen_ok, hr, Oper.upon_skip, hd]
  exact h a _ ha (hkb.fill k hk cs' hs)
/-- A store of one cell at a reckoned place. -/
theorem dM {t : TypeId} {x y : Operand} {b off : Nat} {tt : TypeId} {cs : Array Value} (k : Nat) (l' : Bxs) (ho : o.op = .store t x y) (hd : o.dst = none) (hx : ev E x = some (.pointer (some ⟨b, off, none⟩))) (hy : ev E y = some v) (hk : l[k]? = some (b, Ce tt cs)) (hi : szB Tryz.prog t 1 = true)
    (h1 : v.oneCell' = true) (hs : off < cs.size) (hl : l.set k (b, Ce tt (cs.setIfInBounds off v)) = l') (h : St n M E w0 L l' F K) : Fx n M E w0 L l F Q o K := by
  refine ⟨fun c => by rw [ho]; simp, fun a W ha hkb => ?_⟩
  subst hl
  have hX := ha.eval hx
  have hY := ha.eval hy
  have hv : v.cells = #[v] := by cases v <;> first | rfl | cases h1
  have hr := run_storeVar_at (b := b) (off := off) (W := W) v (by rw [hv]; exact hi) (hkb.there k hk (by rw [hv]; exact hs)) (by rw [hv]; simpa using h1)
  rw [hv] at hr
  unfold Oper.wp
  simp only [execOp, ho, hX, hY, Instr.storeAt, Instr.sureAddr, Sem.run_bind, Sem.run_pure, Result.andThen_ok, hr, Oper.upon_skip, hd]
  exact h a _ ha (Kb.puts k [v] cs off hkb hk)
/-- A new box: of a type's zero; of a value. -/
def zeroB (P : Program) (t : TypeId) (cs : Array Value) : Prop := ((P.info? t).bind (·.zero)).map (·.cells) = some cs
theorem lL {t : TypeId} (cs : Array Value) (hz : zeroB Tryz.prog t cs) (ho : o.op = .alloc t) (hd : o.dst = some d) (hn : Nat.blt d n = true) (h : ∀ g, St n M ((d, .pointer (some ⟨g, 0, none⟩)) :: E) w0 L ((g, Ce t cs) :: l) F K) : Fx n M E w0 L l F Q o K := by
  refine ⟨fun c => by rw [ho]; simp, fun a W ha hkb => ?_⟩
  revert ha hkb
  intro ha hkb
  unfold zeroB at hz
  cases hi : Tryz.prog.info? t with
  | none => simp [hi] at hz
  | some i =>
    cases hq : i.zero with
    | none => simp [hi, hq] at hz
    | some z =>
      have hz' : z.cells = cs := by simpa [hi, hq] using hz
      subst hz'
      unfold Oper.wp
      have hr : (Instr.alloc t true (.tuple #[])).run Tryz.prog W = .ok (.pointer (some ⟨W.heap.size, 0, none⟩)) (W.alloc (.cells z.cells t)) := by
        simp only [Instr.alloc, zeroValue, typeInfo, newVar, newRow, Sem.run_bind, Sem.run_pure, Result.andThen_ok, run_program, hi, hq, run_newObj_alloc]
      simp only [execOp, ho, Sem.run_bind, Sem.run_pure, Result.andThen_ok, hr, Oper.upon_value, hd]
      exact h W.heap.size _ _ (ha.put hn _) (hkb.alloc (.cells z.cells t))
theorem bC {t : TypeId} {x : Operand} (cs : Array Value) (ho : o.op = .box t x) (hx : ev E x = some v) (hv : v.cells = cs) (hd : o.dst = some d) (hn : Nat.blt d n = true) (h : ∀ g, St n M ((d, .pointer (some ⟨g, 0, none⟩)) :: E) w0 L ((g, Ce t cs) :: l) F K) : Fx n M E w0 L l F Q o K := by
  refine ⟨fun c => by rw [ho]; simp, fun a W ha hkb => ?_⟩
  revert ha hkb
  intro ha hkb
  subst hv
  have hX := ha.eval hx
  unfold Oper.wp
  have hr : (Instr.box t v).run Tryz.prog W = .ok (.pointer (some ⟨W.heap.size, 0, none⟩)) (W.alloc (.cells v.cells t)) := by
    simp only [Instr.box, newVar, newRow, Sem.run_bind, Sem.run_pure, Result.andThen_ok, run_newObj_alloc]
  simp only [execOp, ho, hX, Sem.run_bind, Sem.run_pure, Result.andThen_ok, hr, Oper.upon_value, hd]
  exact h W.heap.size _ _ (ha.put hn _) (hkb.alloc (.cells v.cells t))
/-- What a call leaves, and what follows. -/
def Nx (n : Nat) (M : List Deferred) (E : Env) (d : Nat) (X : Act → World → Prop) (e : Ending) (W : World) : Prop := ∃ v, e = .returned v ∧ ∀ a, Sf n M ((d, v) :: E) a → X a W
theorem nx {W : World} {l' : Bxs} {F' : Fct} (k : Kb w0 L l' F' W) (h : St n M ((d, v) :: E) w0 L l' F' X) : Nx n M E d X (.returned v) W := ⟨v, rfl, fun a ha => h a W ha k⟩
def fnB (P : Program) (f : FuncId) : Bool := match P.funcs[f]? with | some fn => fn.name != "runtime.NumGoroutine" && fn.body.isSome | none => false
theorem cU {f : FuncId} {xs : List Operand} {ts : Array TypeId} (vs : List Value) (R : World → Ending → World → Prop) (hf : fnB Tryz.prog f = true) (ho : o.op = .call { callee := .value (.func f), args := xs.toArray, argTypes := ts }) (hx : evs0 E xs = some vs) (hd : o.dst = some d) (hn : Nat.blt d n = true)
    (hc : ∀ W, Kb w0 L l F W → Calls Tryz.prog f vs.toArray W (R W)) (h : ∀ W e W', Kb w0 L l F W → R W e W' → Nx n M E d K e W') : Fx n M E w0 L l F Q o K := by
  refine ⟨fun c => by rw [ho]; simp, fun a W ha hkb => ?_⟩
  unfold fnB at hf
  cases hfn : Tryz.prog.funcs[f]? with
  | none => simp [hfn] at hf
  | some fn =>
    simp only [hfn, Bool.and_eq_true] at hf
    have he := enters_ hfn (by simpa using hf.1) hf.2 vs.toArray W
    have hX := evs0_eval ha hx
    have hrun : (execOp a.eval o).run Tryz.prog W = .ok (.enter f vs.toArray) W := by
      unfold execOp
      simp [ho, resolve, Deferred.ofValue, invoke, Act.eval, hX, he]
    unfold Oper.wp
    rw [hrun, Oper.upon_enter]
    refine (hc W hkb).mono fun e w'' hh => ?_
    obtain ⟨v, rfl, hk⟩ := h W e w'' hkb hh
    rw [hd]
    exact hk _ (ha.put hn v)
/-- A call that is walked in its place. -/
theorem qO {f : FuncId} {xs : List Operand} {ts : Array TypeId} (vs : List Value) (hf : fnB Tryz.prog f = true) (ho : o.op = .call { callee := .value (.func f), args := xs.toArray, argTypes := ts }) (hx : evs0 E xs = some vs) (hd : o.dst = some d) (hn : Nat.blt d n = true)
    (h : ∀ W, Kb w0 L l F W → Calls Tryz.prog f vs.toArray W (Nx n M E d K)) : Fx n M E w0 L l F Q o K :=
  cU vs (fun _ => Nx n M E d K) hf ho hx hd hn h fun _ _ _ _ hr => hr
/-- A call of a closure. -/
theorem bV {x : Operand} {f : FuncId} {xs : List Operand} {ts : Array TypeId} {first caps : Array Value} (vs : List Value) (R : World → Ending → World → Prop) (hf : fnB Tryz.prog f = true) (ho : o.op = .call { callee := .value x, args := xs.toArray, argTypes := ts }) (hv : ev E x = some (.func (.func f) first caps)) (hx : evs0 E xs = some vs) (hd : o.dst = some d) (hn : Nat.blt d n = true)
    (args : List Value) (hargs : first ++ vs.toArray ++ caps = args.toArray)
    (hc : ∀ W, Kb w0 L l F W → Calls Tryz.prog f args.toArray W (R W)) (h : ∀ W e W', Kb w0 L l F W → R W e W' → Nx n M E d K e W') : Fx n M E w0 L l F Q o K := by
  refine ⟨fun c => by rw [ho]; simp, fun a W ha hkb => ?_⟩
  unfold fnB at hf
  cases hfn : Tryz.prog.funcs[f]? with
  | none => simp [hfn] at hf
  | some fn =>
    simp only [hfn, Bool.and_eq_true] at hf
    have he := enters_ hfn (by simpa using hf.1) hf.2 args.toArray W
    have hX := evs0_eval ha hx
    have hV := ha.eval hv
    have hrun : (execOp a.eval o).run Tryz.prog W = .ok (.enter f args.toArray) W := by
      unfold execOp
      simp only [ho, resolve, hV, Deferred.ofValue, List.map_toArray, hX, Sem.run_bind, Sem.run_pure, Result.andThen_ok, invoke]
      rw [hargs, he]
    unfold Oper.wp
    rw [hrun, Oper.upon_enter]
    refine (hc W hkb).mono fun e w'' hh => ?_
    obtain ⟨v, rfl, hk⟩ := h W e w'' hkb hh
    rw [hd]
    exact hk _ (ha.put hn v)
theorem cB {x : Operand} {f : FuncId} {xs : List Operand} {ts : Array TypeId} {first caps : Array Value} (vs : List Value) (hf : fnB Tryz.prog f = true) (ho : o.op = .call { callee := .value x, args := xs.toArray, argTypes := ts }) (hv : ev E x = some (.func (.func f) first caps)) (hx : evs0 E xs = some vs) (hd : o.dst = some d) (hn : Nat.blt d n = true)
    (args : List Value) (hargs : first ++ vs.toArray ++ caps = args.toArray) (h : ∀ W, Kb w0 L l F W → Calls Tryz.prog f args.toArray W (Nx n M E d K)) : Fx n M E w0 L l F Q o K :=
  bV vs (fun _ => Nx n M E d K) hf ho hv hx hd hn args hargs h fun _ _ _ _ hr => hr
abbrev QOk (Q : Exit → Act → World → Prop) : Prop := ∀ c a w d v, Q (.panic c) (a.put (some d) v) w → Q (.panic c) a w
/-- Which operations are done, as a number's bits. -/
def bA (n m : Nat) : Array Bool := (Array.range n).map (Nat.testBit m)
theorem nL {id : Nat} {r : List Oper} (k : Nat) (ds : List Nat) (lst : Array Bool) (hn : Nat.beq r.length k = true) (hl : Array.replicate k false = lst) (h : St n M E w0 L l F (wpAnyLast Tryz.prog .any r.toArray Q (Kb w0 L l F) ds k lst)) : St n M E w0 L l F (CW none (Code.region id r.toArray true) Q) := fun a W ha hk =>
  wpIn_wide.2 <| start_ lst (by kernel_rfl) (by simpa using Nat.eq_of_beq_eq_true hn) hl hk.drew (fun _ => h a W.drew ha hk.drew)
variable {S : World → Prop} {ds : List Nat} {fuel : Nat} {lst : Array Bool} {l0 : Bxs} {F0 : Fct}
theorem dN (i : Nat) (lst' : Array Bool) (hq : QOk Q) (hi : ops[i]? = some o) (hc : anyB .any ops lst lst' i = true) (hp : Pu n M E o v) (hw : Wn n M E ops o true) (hd : o.dst = some d) (hn : Nat.blt d n = true) (h : St n M ((d, v) :: E) w0 L l F (wpAnyLast Tryz.prog .any ops Q S ds fuel lst')) : St n M E w0 L l F (wpAnyLast Tryz.prog .any ops Q S ds (fuel + 1) lst) := fun a W ha hk =>
  pure_ (N := some d) lst' hi hd hc (by rw [hd]; exact fun c a w => hq c a w d v) (Or.inl ⟨hw a ha, fun w => hp a w ha⟩) rfl (h _ _ (ha.put hn v) hk)
theorem qP (i : Nat) (lst' : Array Bool) (hq : QOk Q) (hi : ops[i]? = some o) (hc : anyB .any ops lst lst' i = true) (hw : Wn n M E ops o false) (hd : o.dst = some d) (hn : Nat.blt d n = true) (h : St n M ((d, undef) :: E) w0 L l F (wpAnyLast Tryz.prog .any ops Q S ds fuel lst')) : St n M E w0 L l F (wpAnyLast Tryz.prog .any ops Q S ds (fuel + 1) lst) := fun a W ha hk =>
  pure_ (N := some d) lst' hi hd hc (by rw [hd]; exact fun c a w => hq c a w d undef) (Or.inr ⟨hw a ha, rfl⟩) rfl (h _ _ (ha.put hn undef) hk)
/-- What reads: hS: what the region began with still holds. -/
theorem gI (i : Nat) (lst' : Array Bool) (hq : QOk Q) (hS : ∀ W, Kb w0 L l F W → Kb w0 L l0 F0 W) (hi : ops[i]? = some o) (hc : takeB .any ops ds lst lst' i = true) (hp : Rn n M E w0 L l0 F0 o v) (hw : Wn n M E ops o true) (hd : o.dst = some d) (hn : Nat.blt d n = true) (h : St n M ((d, v) :: E) w0 L l F (wpAnyLast Tryz.prog .any ops Q (Kb w0 L l0 F0) ds fuel lst')) : St n M E w0 L l F (wpAnyLast Tryz.prog .any ops Q (Kb w0 L l0 F0) ds (fuel + 1) lst) := fun a W ha hk =>
  take_ (N := some d) lst' hi hd hc (by rw [hd]; exact fun c a w => hq c a w d v) (Or.inl ⟨hw a ha, fun w hw' => hp a w ha hw'⟩) (hS W hk) rfl (h _ _ (ha.put hn v) hk)
/-- What acts, alone: what the region began with holds behind it. -/
theorem sS (i : Nat) (lst' : Array Bool) (hi : ops[i]? = some o) (hc : readyB .any ops lst lst' i = true) (hds : ds.contains i = false) (hw : Wn n M E ops o true) (h : Fx n M E w0 L l F Q o (fun a W => S W ∧ wpAnyLast Tryz.prog .any ops Q S ds fuel lst' a W)) : St n M E w0 L l F (wpAnyLast Tryz.prog .any ops Q S ds (fuel + 1) lst) := fun a W ha hk =>
  one_ (N := o.dst) lst' hi rfl hc (by simpa using hds) fun K hK => by
    rw [if_pos (hw a ha)]
    exact Oper.wp_mono (fun a' w' h' => hK.out a' w' h'.1 (fun _ => h'.2)) (h.2 a W ha hk)
/-- Two that act. -/
theorem qQ {o' : Oper} (i j : Nat) (li lj : Array Bool) (hi : ops[i]? = some o) (hj : ops[j]? = some o') (hc : (Region.ready .any ops lst == [i, j] && lst.setIfInBounds i true == li && lst.setIfInBounds j true == lj) = true) (hdi : ds.contains i = false) (hdj : ds.contains j = false) (hw : Wn n M E ops o true) (hw' : Wn n M E ops o' true)
    (h : Fx n M E w0 L l F Q o (fun a W => S W ∧ wpAnyLast Tryz.prog .any ops Q S ds fuel li a W)) (h' : Fx n M E w0 L l F Q o' (fun a W => S W ∧ wpAnyLast Tryz.prog .any ops Q S ds fuel lj a W)) : St n M E w0 L l F (wpAnyLast Tryz.prog .any ops Q S ds (fuel + 1) lst) := fun a W ha hk =>
  two_ (Ni := o.dst) (Nj := o'.dst) li lj hi hj rfl rfl hc (by simpa using hdi) (by simpa using hdj)
    (fun K hK => by
      rw [if_pos (hw a ha)]
      exact Oper.wp_mono (fun a' w' h' => hK.out a' w' h'.1 (fun _ => h'.2)) (h.2 a W ha hk))
    (fun K hK => by
      rw [if_pos (hw' a ha)]
      exact Oper.wp_mono (fun a' w' h' => hK.out a' w' h'.1 (fun _ => h'.2)) (h'.2 a W ha hk))
/-- .. at the end. -/
theorem pE (i : Nat) (lst' : Array Bool) (hi : ops[i]? = some o) (hc : readyB .any ops lst lst' i = true) (hds : ds.contains i = true) (hw : Wn n M E ops o true) (h : Fx n M E w0 L l F Q o (wpAnyLast Tryz.prog .any ops Q S ds fuel lst')) : St n M E w0 L l F (wpAnyLast Tryz.prog .any ops Q S ds (fuel + 1) lst) := fun a W ha hk =>
  last_ (N := o.dst) lst' hi rfl hc (by simpa using hds) fun K hK => by
    rw [if_pos (hw a ha)]
    exact Oper.wp_mono (fun a' w' h' => hK.out a' w' h') (h.2 a W ha hk)
theorem aH (hS : ∀ W, Kb w0 L l F W → S W) (h : St n M E w0 L l F X) : St n M E w0 L l F (fun a W => S W ∧ X a W) := fun a W ha hk => ⟨hS W hk, h a W ha hk⟩
theorem pF {m : Nat} (hr : (Region.ready .any ops lst == []) = true) (h : St n M E w0 L l F (Q .normal)) : St n M E w0 L l F (wpAnyLast Tryz.prog .any ops Q S ds m lst) := fun a W ha hk => done_ hr (h a W ha hk)
theorem Kb.drop {G : Fct} {W : World} (h : Kb w0 L l (fun O W => G O W ∧ F O W) W) : Kb w0 L l F W := ⟨h.bs, h.own, h.below, fun O W g => (h.kn O W g).2, h.cx0⟩
/-- A plain fact out of what is known. -/
theorem bP {P : Prop} (hp : ∀ W, Kb w0 L l F W → P) (h : P → St n M E w0 L l F X) : St n M E w0 L l F X := fun a W ha hk => h (hp W hk) a W ha hk
/-- What is known turns into something else. -/
theorem bR {l' : Bxs} {F' : Fct} (hk : ∀ W, Kb w0 L l F W → Kb w0 L l' F' W) (h : St n M E w0 L l' F' X) : St n M E w0 L l F X := fun a W ha h' => h a W ha (hk W h')
/-- A block is one's own no more: it can be read. -/
theorem Kb.pub {W : World} (h : Kb w0 L l F W) (k : Nat) {g ty : Nat} {cur : Array Value} (hk : l[k]? = some (g, Ce ty cur)) (m c : Nat) (cs : List Value) (hc : m ≤ c) (hp : ∀ (i : Nat) (v : Value), cs[i]? = some v → cur[i]? = some v) :
    Kb w0 L (l.eraseIdx k) (fun O W => RS (Av L O) ⟨some ⟨g, 0, none⟩, c⟩ m cs W ∧ F O W) W := by
  refine (h.leave k).and (RS.kn ?_)
  refine RS.of_bk (h.bs.get k hk) ?_ hc hp
  have key : ∀ (l : Bxs) (k : Nat), Bs l W → l[k]? = some (g, Ce ty cur) → g ∉ (l.eraseIdx k).map Prod.fst := by
    intro l
    induction l with
    | nil => intro k _ h; simp at h
    | cons x r ih =>
      intro k hb hk
      cases k with
      | zero =>
        simp at hk; subst hk
        intro hm
        simp at hm
        obtain ⟨o, hm⟩ := hm
        exact hb.2.1 _ hm rfl
      | succ k =>
        have hk' : r[k]? = some (g, Ce ty cur) := by simpa using hk
        intro hm
        rcases List.mem_cons.1 (by simpa using hm : g ∈ x.1 :: (r.eraseIdx k).map Prod.fst) with e | e
        · exact hb.2.1 _ (List.mem_of_getElem? hk') e
        · exact ih k hb.2.2 hk' e
  exact fun hv => hv.elim (fun h1 => absurd (h.cx0 g h1) (Nat.not_lt.2 (h.own _ (List.mem_of_getElem? hk)))) (key l k h.bs hk)
theorem Kb.re {G : Fct} {W : World} (h : Kb w0 L l F W) (g : ∀ O W, F O W → G O W) : Kb w0 L l G W := ⟨h.bs, h.own, h.below, fun O W e => g O W (h.kn O W e), h.cx0⟩
theorem mem_front {α : Type} : ∀ (l : List α) (k : Nat) {x : α}, l[k]? = some x → ∀ y, y ∈ l ↔ y = x ∨ y ∈ l.eraseIdx k
  | [], _, _, h, _ => by simp at h
  | z :: r, 0, x, h, y => by simp at h; subst h; simp
  | z :: r, k + 1, x, h, y => by
    have := mem_front r k (by simpa using h) y
    rw [List.mem_cons, List.eraseIdx_cons_succ, List.mem_cons, this]
    constructor <;> (rintro (h | h | h) <;> simp [h])
theorem bs_front : ∀ (l : Bxs) (k : Nat) {x : Nat × Obj} {W : World}, Bs l W → l[k]? = some x → Bs (x :: l.eraseIdx k) W
  | [], _, _, _, _, h => by simp at h
  | z :: r, 0, x, W, hb, h => by simp at h; subst h; exact hb
  | z :: r, k + 1, x, W, hb, h => by
    have h' : r[k]? = some x := by simpa using h
    have h2 := bs_front r k hb.2.2 h'
    have hm : x ∈ r := List.mem_of_getElem? h'
    refine ⟨h2.1, fun y hy => ?_, hb.1, fun y hy => hb.2.1 y ((List.eraseIdx_sublist r k).mem hy), h2.2.2⟩
    rcases List.mem_cons.1 (by simpa using hy) with rfl | h3
    · exact fun e => hb.2.1 x hm e.symm
    · exact h2.2.1 y h3
theorem Kb.front {W : World} (h : Kb w0 L l F W) (k : Nat) {x : Nat × Obj} (hk : l[k]? = some x) : Kb w0 L (x :: l.eraseIdx k) F W := by
  have hm := mem_front l k hk
  have hm2 : ∀ j, j ∈ (x :: l.eraseIdx k).map Prod.fst ↔ j ∈ l.map Prod.fst := fun j => by
    simp only [List.mem_map, List.mem_cons]
    exact ⟨fun ⟨a, h1, h2⟩ => ⟨a, (hm a).2 h1, h2⟩, fun ⟨a, h1, h2⟩ => ⟨a, (hm a).1 h1, h2⟩⟩
  refine ⟨bs_front l k h.bs hk, fun y hy => h.own y ((hm y).2 (List.mem_cons.1 hy)), h.below, fun O W' g => h.kn O W' ⟨g.size, fun j hj => (g.own j hj).imp (fun h1 => (hm2 j).1 h1) id, fun j hj hl => g.block j (fun h1 => hj ((hm2 j).1 h1)) hl⟩, h.cx0⟩
def Mt (σ : Type) (n : Nat) (M : List Deferred) (w0 : World) (L : Nat → Prop) (E' : σ → Env) (l' : σ → Bxs) (F' : σ → Fct) : Exit → Act → World → Prop
  | .normal, a, W => ∃ x, Sf n M (E' x) a ∧ Kb w0 L (l' x) (F' x) W
  | _, _, _ => False
theorem cJ {σ : Type} {c : Code} (E' : σ → Env) (l' : σ → Bxs) (G : σ → Fct → Fct) (h1 : St n M E w0 L l F (CW ro c (Mt σ n M w0 L E' l' (fun x => G x F)))) (h2 : ∀ x, St n M (E' x) w0 L (l' x) (G x F) (Q .normal)) : St n M E w0 L l F (CW ro c Q) := fun a W ha hk =>
  wpIn_mono (h1 a W ha hk) fun e a' w' hq => by
    cases e with
    | normal => obtain ⟨x, h3, h4⟩ := hq; exact h2 x a' w' h3 h4
    | _ => exact hq.elim
theorem bE {σ : Type} {E' : σ → Env} {l' : σ → Bxs} {F' : σ → Fct} (x : σ) (hE : subE E (E' x)) (hk : ∀ W, Kb w0 L l F W → Kb w0 L (l' x) (F' x) W) : St n M E w0 L l F (Mt σ n M w0 L E' l' F' .normal) := fun a W ha hkb => ⟨x, ha.sub hE, hk W hkb⟩
theorem aG {fn : Func} {R : Ending → World → Prop} (v : Value) (hr : ∀ a W, Sf n [] E a → Kb w0 L l F W → (results fn a.tmps).run Tryz.prog W = .ok v W) (h : ∀ W, Kb w0 L l F W → R (.returned v) W) : St n [] E w0 L l F (bodyPost Tryz.prog fn R .ret) := fun a W ha hk => bodyPost_ret (hr a W ha hk) ha.defers (h W hk)
theorem cL {fn : Func} {R : Ending → World → Prop} (v : Value) (hr : ∀ a W, Sf n [] E a → Kb w0 L l F W → (results fn a.tmps).run Tryz.prog W = .ok v W) (h : ∀ W, Kb w0 L l F W → R (.returned v) W) : St n [] E w0 L l F (bodyPost Tryz.prog fn R .normal) := fun a W ha hk => bodyPost_end (hr a W ha hk) ha.defers (h W hk)
/-- What each result holds. -/
def Res (n : Nat) (M : List Deferred) (E : Env) (w0 : World) (L : Nat → Prop) (l : Bxs) (F : Fct) (r : ResultVar) (v : Value) : Prop := ∀ a W, Sf n M E a → Kb w0 L l F W → (match r with | .tmp t => (pure (a.tmps.getD t undef) : Sem Value) | .cell p t => do loadVar t (← asAddr (a.tmps.getD p undef))).run Tryz.prog W = .ok v W
theorem aD {t : Nat} (h : E.lookup t = some v) : Res n M E w0 L l F (.tmp t) v := fun a W ha _ => by simp [ha.get t v h]
theorem aO {p : Nat} {t : TypeId} {b : Nat} {tt : TypeId} {cs : Array Value} (k m : Nat) (ht : rowB Tryz.prog t m = true) (hx : E.lookup p = some (.pointer (some ⟨b, 0, none⟩))) (hk : l[k]? = some (b, Ce tt cs)) (hm : Nat.beq cs.size m = true) : Res n M E w0 L l F (.cell p t) (.agg cs) := fun a W ha hkb => by
  obtain ⟨⟨d, hu, hd⟩, hi⟩ := row_of ht
  have hm' : cs.toList.length = m := by simpa using Nat.eq_of_beq_eq_true hm
  have hl := run_loadVar_mid (P := Tryz.prog) W b 0 t cs.toList d (hkb.range k hk (m := m) (by rw [List.drop_zero, List.take_of_length_le (Nat.le_of_eq hm')])) hu hd (by rw [hi, hm'])
  rw [Array.toArray_toList] at hl
  simp [ha.get p _ hx, asAddr, hl]
theorem jF {p : Nat} {t : TypeId} {b off : Nat} {tt : TypeId} {cs : Array Value} (k : Nat) (ht : cellB Tryz.prog t = true) (hx : E.lookup p = some (.pointer (some ⟨b, off, none⟩))) (hk : l[k]? = some (b, Ce tt cs)) (hv : cs[off]? = some v) : Res n M E w0 L l F (.cell p t) v := fun a W ha hkb => by
  have hlt : off < cs.size := (Array.getElem?_eq_some_iff.1 hv).1
  have hc := hkb.rd k hk off hlt
  rw [(Array.getElem?_eq_some_iff.1 hv).2] at hc
  have hl := run_loadVar_cell ht hc
  simp [ha.get p _ hx, asAddr, hl]
def resOf (a : Act) : ResultVar → Sem Value
  | .tmp t => pure (a.tmps.getD t undef)
  | .cell p t => do loadVar t (← asAddr (a.tmps.getD p undef))
theorem res1 {fn : Func} {r : ResultVar} (hf : fn.results = #[r]) (h : Res n M E w0 L l F r v) : ∀ a W, Sf n M E a → Kb w0 L l F W → (results fn a.tmps).run Tryz.prog W = .ok v W := fun a W ha hk => by
  have := h a W ha hk
  simp only [results, hf]
  cases r <;> simp_all
theorem res2 {fn : Func} {r r' : ResultVar} {v' : Value} (hf : fn.results = #[r, r']) (h : Res n M E w0 L l F r v) (h' : Res n M E w0 L l F r' v') : ∀ a W, Sf n M E a → Kb w0 L l F W → (results fn a.tmps).run Tryz.prog W = .ok (.tuple #[v, v']) W := fun a W ha hk => by
  have h1 : (resOf a r).run Tryz.prog W = _ := h a W ha hk
  have h2 : (resOf a r').run Tryz.prog W = _ := h' a W ha hk
  show (do let vs ← fn.results.mapM (resOf a); pure (if h : vs.size = 1 then vs[0] else .tuple vs) : Sem Value).run Tryz.prog W = _
  simp [hf, h1, h2]
theorem res3 {fn : Func} {r r' r'' : ResultVar} {v' v'' : Value} (hf : fn.results = #[r, r', r'']) (h : Res n M E w0 L l F r v) (h' : Res n M E w0 L l F r' v') (h'' : Res n M E w0 L l F r'' v'') : ∀ a W, Sf n M E a → Kb w0 L l F W → (results fn a.tmps).run Tryz.prog W = .ok (.tuple #[v, v', v'']) W := fun a W ha hk => by
  have h1 : (resOf a r).run Tryz.prog W = _ := h a W ha hk
  have h2 : (resOf a r').run Tryz.prog W = _ := h' a W ha hk
  have h3 : (resOf a r'').run Tryz.prog W = _ := h'' a W ha hk
  show (do let vs ← fn.results.mapM (resOf a); pure (if h : vs.size = 1 then vs[0] else .tuple vs) : Sem Value).run Tryz.prog W = _
  simp [hf, h1, h2, h3]
theorem res4 {fn : Func} {r r' r'' r3 : ResultVar} {v' v'' v3 : Value} (hf : fn.results = #[r, r', r'', r3]) (h : Res n M E w0 L l F r v) (h' : Res n M E w0 L l F r' v') (h'' : Res n M E w0 L l F r'' v'') (h3' : Res n M E w0 L l F r3 v3) : ∀ a W, Sf n M E a → Kb w0 L l F W → (results fn a.tmps).run Tryz.prog W = .ok (.tuple #[v, v', v'', v3]) W := fun a W ha hk => by
  have h1 : (resOf a r).run Tryz.prog W = _ := h a W ha hk
  have h2 : (resOf a r').run Tryz.prog W = _ := h' a W ha hk
  have h3 : (resOf a r'').run Tryz.prog W = _ := h'' a W ha hk
  have h4 : (resOf a r3).run Tryz.prog W = _ := h3' a W ha hk
  show (do let vs ← fn.results.mapM (resOf a); pure (if h : vs.size = 1 then vs[0] else .tuple vs) : Sem Value).run Tryz.prog W = _
  simp [hf, h1, h2, h3, h4]
theorem res0 {fn : Func} (hf : fn.results = #[]) : ∀ a W, Sf n M E a → Kb w0 L l F W → (results fn a.tmps).run Tryz.prog W = .ok (.tuple [].toArray) W := fun a W _ _ => by
  show (do let vs ← fn.results.mapM (resOf a); pure (if h : vs.size = 1 then vs[0] else .tuple vs) : Sem Value).run Tryz.prog W = _
  simp [hf]
end
end
section
section
variable {ro : Option Nat} {n : Nat} {M : List Deferred} {E : Env} {w0 : World} {L : Nat → Prop} {l : Bxs} {F : Fct} {ops : Array Oper} {Q : Exit → Act → World → Prop} {rest : List Oper} {o : Oper} {d : Nat} {v : Value} {X : Act → World → Prop}
/-- A loop's record. -/
def Lo (s : LoopState) (p : Option Code) (fn : Nat) (tm : Array Value) (ps : Array Tmp) (ag bd : Code) (D : Nat) : Obj := .loop { state := s, pending := p, fn := fn, tmps := tm, params := ps, assign := ag, body := bd, defers := D }
/-- A function's ranges over functions. -/
def rfs : Code → List (Array Tmp × Code × Code)
  | .rangeFunc _ ps a b => [(ps, a, b)]
  | .seq x y => rfs x ++ rfs y
  | .cond _ x y => rfs x ++ rfs y
  | .block _ c => rfs c
  | .loop c => rfs c
  | _ => []
def rfOf (fn : Func) (i : Nat) : Array Tmp × Code × Code := ((rfs (fn.body.getD .skip))[i]?).getD (#[], .skip, .skip)
def Lf (f : Func) (i : Nat) (s : LoopState) (p : Option Code) (fn : Nat) (tm : Array Value) (D : Nat) : Obj := Lo s p fn tm (rfOf f i).1 (rfOf f i).2.1 (rfOf f i).2.2 D
abbrev De (D : Nat) : Deferred := { target := .collected D, args := #[] }
abbrev Do : Obj := .deferred (some [])
/-- What the iterator's call must leave. -/
def Ra (n : Nat) (M : List Deferred) (Q : Exit → Act → World → Prop) (ln : Nat) (a : Act) (e : Ending) (W : World) : Prop := (∃ v, e = .returned v) ∧ rangePost Fence.wide 1 Tryz.prog ln Q a e W
theorem eR {g : Operand} {ps : Array Tmp} {ag bd : Code} {gf : FuncId} {lb : Array Value} (hf : fnB Tryz.prog gf = true) (hg : ev E g = some (.func (.func gf) #[] lb)) (args : List Value) (hargs : ∀ ln, (Value.func (.yield ln) #[] #[] :: args).toArray = #[.func (.yield ln) #[] #[]] ++ lb)
    (h : ∀ fn ln D (a : Act) W, Sf n M E a → Kb w0 L ((ln, Lo .ready none fn a.tmps ps ag bd D) :: (D, Do) :: l) F W → Calls Tryz.prog gf (Value.func (.yield ln) #[] #[] :: args).toArray W (Ra n M Q ln { a with defers := De D :: a.defers })) : St n M E w0 L l F (CW none (.rangeFunc g ps ag bd) Q) := fun a W ha hk => by
  unfold fnB at hf
  cases hfn : Tryz.prog.funcs[gf]? with
  | none => simp [hfn] at hf
  | some fn =>
    simp only [hfn, Bool.and_eq_true] at hf
    refine wpIn_rangeFunc ?_
    intro fi _
    have hk2 := (hk.alloc (.deferred (some []))).alloc (.loop { state := .ready, pending := none, fn := fi, tmps := a.tmps, params := ps, assign := ag, body := bd, defers := W.heap.size })
    rw [World.size_alloc] at hk2
    have hrl := run_enterLoop_outer (P := Tryz.prog) (w := W) fi a.tmps ps ag bd
    generalize (W.alloc (.deferred (some []))).alloc (.loop { state := .ready, pending := none, fn := fi, tmps := a.tmps, params := ps, assign := ag, body := bd, defers := W.heap.size }) = W1 at hk2 hrl
    have he := enters_ hfn (by simpa using hf.1) hf.2 (#[.func (.yield (W.heap.size + 1)) #[] #[]] ++ lb) W1
    refine ⟨W.heap.size + 1, [De W.heap.size], W1, { target := .fn (.func gf) lb, args := #[.func (.yield (W.heap.size + 1)) #[] #[]] }, W1, gf, #[.func (.yield (W.heap.size + 1)) #[] #[]] ++ lb, W1, hrl, ?_, fun _ _ => trivial, ?_, fun hx => by simp [FR, Fence.wide] at hx, ?_⟩
    · simp only [resolve, ha.eval hg, rangeCall, Deferred.ofValue]
      simp [Act.eval]
    · simp only [invoke]
      exact he
    · refine callsIn_wide.2 ?_
      have := h fi (W.heap.size + 1) W.heap.size a _ ha hk2
      rw [hargs] at this
      exact this.mono fun e w' hr => hr.2
theorem run_endLoop' {ln : Nat} {s : LoopState} {p : Option Code} {fn : Nat} {tm : Array Value} {ps : Array Tmp} {ag bd : Code} {D : Nat} {W : World} (h : W.heap[ln]? = some (Lo s p fn tm ps ag bd D)) (hb : s ≠ .busy) : (Instr.endLoop ln).run Tryz.prog W = .ok p (W.putObj ln (Lo .exhausted p fn tm ps ag bd D)) := run_endLoop h hb
/-- All have come. -/
theorem ra_none {ln D k : Nat} {a : Act} {W : World} {l' : Bxs} {F' : Fct} {s : LoopState} {fn : Nat} {tm : Array Value} {ps : Array Tmp} {ag bd : Code} {D' : Nat} (ha : Sf n M E a) (kb : Kb w0 L l' F' W) (hk : l'[k]? = some (ln, Lo s none fn tm ps ag bd D')) (hs : s ≠ .busy)
    (h : St n (De D :: M) E w0 L (l'.set k (ln, Lo .exhausted none fn tm ps ag bd D')) F' (Q .normal)) : Ra n M Q ln { a with defers := De D :: a.defers } (.returned v) W :=
  ⟨⟨v, rfl⟩, none, _, run_endLoop' (kb.bs.get k hk) hs, h _ _ ⟨ha.size, by rw [ha.defers], ha.get⟩ (kb.turn k hk _)⟩
theorem cw_n {ro : Option Nat} {m : Nat} {c : Code} {Q : Exit → Act → World → Prop} {a : Act} {W : World} (h : CW ro c Q a W) : c.wpIn (FR ro) m Tryz.prog Q a W := fun b k cs h1 h2 _ => h b k cs h1 h2 (fun d hd => by simp [FR, Fence.wide] at hd)
def yE : List (Tmp × Value) → Env → Env
  | [], E => E
  | (t, v) :: r, E => yE r ((t, v) :: E)
theorem Sf.yE {n : Nat} {M : List Deferred} : ∀ {ps : List (Tmp × Value)} {E : Env} {a : Act}, Sf n M E a → (∀ p, p ∈ ps → p.1 < n) → Sf n M (yE ps E) ⟨ps.foldl (fun t (p, v) => t.setIfInBounds p v) a.tmps, a.defers⟩
  | [], E, a, h, _ => h
  | (t, v) :: r, E, a, h, hp => Sf.yE (a := a.put (some t) v) (h.put (d := t) (by rw [Nat.blt_eq]; exact hp _ (List.mem_cons_self ..)) v) fun p hm => hp p (List.mem_cons_of_mem _ hm)
theorem zip_foldl (ps : List Tmp) (vs : List Value) (tm : Array Value) : ((ps.toArray.zip vs.toArray).foldl (fun tmps (t, a) => tmps.setIfInBounds t a) tm) = (ps.zip vs).foldl (fun t (p, v) => t.setIfInBounds p v) tm := by
  rw [← Array.foldl_toList]
  simp
/-- A call of yield. -/
theorem iF {ln k : Nat} {x : Operand} {xs : List Operand} {ts : Array TypeId} {vs : List Value} {fn : Nat} {ps : List Tmp} {ag bd : Code} {D n' : Nat} {M' : List Deferred} {E' : Env} {a0 : Act} (h0 : Sf n' M' E' a0) (hg : o.guard = none) (ho : o.op = .call { callee := .value x, args := xs.toArray, argTypes := ts }) (hv : ev E x = some (.func (.yield ln) #[] #[])) (hx : evs0 E xs = some vs) (hd : o.dst = some d) (hn : Nat.blt d n = true)
    (hk : l[k]? = some (ln, Lo .ready none fn a0.tmps ps.toArray ag bd D)) (hsz : Nat.beq vs.length ps.length = true) (hps : ps.all (Nat.blt · n') = true)
    (h : St n' [] (yE (ps.zip vs) E') w0 L l F (CW (some ln) ag (Exit.then (fun a W => ∃ W2, (Instr.beginRound ln).run Tryz.prog W = .ok () W2 ∧ CW (some ln) bd (roundPost Tryz.prog ln (Nx n M E d (LW none ops Q rest))) a W2) (fun _ _ _ => False)))) :
    St n M E w0 L l F (LW none ops Q (o :: rest)) := fun a W ha hkb => by
  refine wpListIn_plain hg fun K hK => ?_
  have hX := evs0_eval ha hx
  have hV := ha.eval hv
  have hL : W.heap[ln]? = some (.loop { state := .ready, pending := none, fn := fn, tmps := a0.tmps, params := ps.toArray, assign := ag, body := bd, defers := D }) := hkb.bs.get k hk
  have hy := run_yield (P := Tryz.prog) (args := vs.toArray) hL (by simpa using Nat.eq_of_beq_eq_true hsz)
  have hrun : (execOp a.eval o).run Tryz.prog W = .ok (.round ln fn ((ps.toArray.zip vs.toArray).foldl (fun tmps (t, a) => tmps.setIfInBounds t a) a0.tmps) ag bd) W := by
    unfold execOp
    simp only [ho, resolve, hV, Deferred.ofValue, List.map_toArray, hX, Sem.run_bind, Sem.run_pure, Result.andThen_ok, invoke]
    simpa using hy
  refine ⟨fun _ _ => trivial, ?_⟩
  have hr : (FR none).round = none := rfl
  rw [hr, Oper.semAt_none, hrun, Oper.uponIn_round, zip_foldl]
  refine ⟨fun hx => by simp [FR, Fence.wide] at hx, RoundIn.mono (roundIn_of_wpIn trivial (n := 0) (R := Nx n M E d (LW none ops Q rest)) ?_) fun e w' hN => ?_⟩
  · have h1 := h ⟨(ps.zip vs).foldl (fun t (p, v) => t.setIfInBounds p v) a0.tmps, []⟩ W (Sf.yE (a := ⟨a0.tmps, []⟩) ⟨h0.size, rfl, h0.get⟩ fun p hp => by
      have := List.all_eq_true.1 hps p.1 (List.of_mem_zip (a := p.1) (b := p.2) hp).1
      simpa [Nat.blt_eq] using this) hkb
    refine wpIn_mono (cw_n h1) fun e a' w' hq => ?_
    cases e with
    | normal =>
      obtain ⟨W2, h2, h3⟩ := hq
      exact ⟨W2, h2, cw_n h3⟩
    | _ => exact hq
  · obtain ⟨v, rfl, hN⟩ := hN
    rw [hd]
    exact hK _ _ (hN _ (ha.put hn v))
variable {ln k D : Nat} {s : LoopState} {p : Option Code} {fn : Nat} {tm : Array Value} {ps : Array Tmp} {ag bd : Code}
/-- The assignments are done: the round begins. -/
theorem fN {bd' : Code} {Q' : Exit → Act → World → Prop} (l' : Bxs) (hk : l[k]? = some (ln, Lo .ready p fn tm ps ag bd D)) (hl : l.set k (ln, Lo .busy p fn tm ps ag bd D) = l') (h : St n M E w0 L l' F (CW (some ln) bd' Q')) : St n M E w0 L l F (fun a W => ∃ W2, (Instr.beginRound ln).run Tryz.prog W = .ok () W2 ∧ CW (some ln) bd' Q' a W2) := fun a W ha hkb => by
  subst hl
  exact ⟨_, run_beginRound (hkb.bs.get k hk) rfl, h a _ ha (hkb.turn k hk _)⟩
/-- A round's end: it goes on; it leaves. -/
theorem eD {n' : Nat} {M' : List Deferred} {E' : Env} {d : Nat} {X : Act → World → Prop} (l' : Bxs) (hk : l[k]? = some (ln, Lo s p fn tm ps ag bd D)) (hl : l.set k (ln, Lo .ready none fn tm ps ag bd D) = l') (h : St n' M' ((d, .bool true) :: E') w0 L l' F X) : St n M E w0 L l F (roundPost Tryz.prog ln (Nx n' M' E' d X) .normal) := fun a W ha hkb => by
  subst hl
  exact ⟨.bool true, _, run_endRound none (hkb.bs.get k hk), nx (hkb.turn k hk _) h⟩
theorem dO {f : FuncId} {fn : Func} {c : Code} {vs : List Value} {W : World} {R : Ending → World → Prop} (n : Nat) (hf : Tryz.prog.funcs[f]? = some fn) (hb : fn.body = some c) (hn : fn.ntmps = n) (hs : Nat.ble vs.length n = true)
    (k : Kb w0 L l F W) (h : St n [] (envA 0 vs) w0 L l F (CW none c (bodyPostM Fence.wide 1 Tryz.prog fn R))) : Calls Tryz.prog f vs.toArray W R := by
  have hs' : vs.length ≤ n := Nat.le_of_ble_eq_true hs
  refine (callsIn_wide (n := 1)).1 (callsIn_of_wp_marks hf hb trivial (h _ _ ⟨?_, rfl, fun i v hi => ?_⟩ k))
  · simp [hn]; omega
  · have h1 := (envA_get vs 0 i v hi).2
    rw [Nat.sub_zero] at h1
    have hlt : i < vs.length := (List.getElem?_eq_some_iff.1 h1).1
    show (vs.toArray ++ _)[i]? = some v
    rw [Array.getElem?_append_left (by simpa using hlt)]
    simpa using h1
theorem eS {fn : Func} {R : Ending → World → Prop} (v : Value) (l' : Bxs) (hk : l[k]? = some (D, Do)) (hl : l.set k (D, .deferred none) = l') (hr : ∀ a W, Sf n [De D] E a → Kb w0 L l' F W → (results fn a.tmps).run Tryz.prog W = .ok v W) (h : ∀ W, Kb w0 L l' F W → R (.returned v) W) : St n [De D] E w0 L l F (bodyPostM Fence.wide 1 Tryz.prog fn R .ret) := fun a W ha hkb => by
  subst hl
  have hk2 := hkb.turn k hk (.deferred none)
  show LeavesInM _ _ _ _ _ _ a.defers _ _
  rw [ha.defers]
  exact ⟨by simp, .inl ⟨D, _, rfl, run_takeDeferred (hkb.bs.get k hk), v, hr a _ ha hk2, h _ hk2⟩⟩
end
end
section
section
variable {ro : Option Nat} {n : Nat} {M : List Deferred} {E : Env} {w0 : World} {L : Nat → Prop} {l : Bxs} {F : Fct} {ops : Array Oper} {Q : Exit → Act → World → Prop} {rest : List Oper} {o : Oper} {d : Nat} {v : Value} {X K : Act → World → Prop}
theorem e2 {α β : Type} {a a' : α} {b b' : β} (h : (a, b) = (a', b')) : a = a' ∧ b = b' := by injection h with h1 h2; exact ⟨h1, h2⟩
abbrev O3 (o : Oper) (n d : Nat) : Option (Nat × Bool) × Option Nat × Bool := (o.guard, o.dst, Nat.blt d n)
abbrev Y3 (d : Nat) : Option (Nat × Bool) × Option Nat × Bool := (none, some d, true)
theorem o3 {d : Nat} (h : O3 o n d = Y3 d) : o.guard = none ∧ o.dst = some d ∧ Nat.blt d n = true := by
  obtain ⟨h1, h2⟩ := e2 h; obtain ⟨h2, h3⟩ := e2 h2; exact ⟨h1, h2, h3⟩
abbrev SL (ro : Option Nat) (n : Nat) (M : List Deferred) (E : Env) (w0 : World) (L : Nat → Prop) (l : Bxs) (F : Fct) (ops : Array Oper) (Q : Exit → Act → World → Prop) (r : List Oper) : Prop := St n M E w0 L l F (LW ro ops Q r)
theorem lp (hp : Pu n M E o v) (h3 : O3 o n d = Y3 d) (h : SL ro n M ((d, v) :: E) w0 L l F ops Q rest) : SL ro n M E w0 L l F ops Q (o :: rest) := l_p hp (o3 h3).1 (o3 h3).2.1 (o3 h3).2.2 h
theorem lr (hp : Rn n M E w0 L l F o v) (h3 : O3 o n d = Y3 d) (h : SL ro n M ((d, v) :: E) w0 L l F ops Q rest) : SL ro n M E w0 L l F ops Q (o :: rest) := l_r hp (o3 h3).1 (o3 h3).2.1 (o3 h3).2.2 h
theorem gp (hw : Wn n M E ops o true) (hp : Pu n M E o v) (h3 : (o.dst, Nat.blt d n) = (some d, true)) (h : SL ro n M ((d, v) :: E) w0 L l F ops Q rest) : SL ro n M E w0 L l F ops Q (o :: rest) := lg_p hw hp (e2 h3).1 (e2 h3).2 h
theorem gr (hw : Wn n M E ops o true) (hp : Rn n M E w0 L l F o v) (h3 : (o.dst, Nat.blt d n) = (some d, true)) (h : SL ro n M ((d, v) :: E) w0 L l F ops Q rest) : SL ro n M E w0 L l F ops Q (o :: rest) := lg_r hw hp (e2 h3).1 (e2 h3).2 h
theorem gof (hw : Wn n M E ops o false) (h3 : (o.dst, Nat.blt d n) = (some d, true)) (h : SL ro n M ((d, undef) :: E) w0 L l F ops Q rest) : SL ro n M E w0 L l F ops Q (o :: rest) := pB hw (e2 h3).1 (e2 h3).2 h
theorem wi {p : Oper} {j d : Nat} {b c cv r : Bool} (h : (o.guard, ops[j]?, p.dst, ev E (.tmp d)) = (some (j, b), some p, some d, some (.bool c))) (hc : c = cv) (hr : (cv == b) = r) : Wn n M E ops o r := by
  obtain ⟨h1, h2⟩ := e2 h; obtain ⟨h2, h3⟩ := e2 h2; obtain ⟨h3, h4⟩ := e2 h3
  exact wn_is h1 h2 h3 h4 hc hr
section
variable {t t' : TypeId} {x y : Operand} {p q : Int} {b off : Nat}
theorem pas (h : (o.op, ev E x) = (.assign x, some v)) : Pu n M E o v := lI (e2 h).1 (e2 h).2
theorem pmv (h : (o.op, ev E x) = (.move x, some v)) : Pu n M E o v := fH (e2 h).1 (e2 h).2
theorem pfa {k m : Nat} (hf : foB Tryz.prog t k m = true) (r : Nat) (h : (o.op, ev E x, off + m) = (.fieldAddr t x k, some (.pointer (some ⟨b, off, none⟩)), r)) : Pu n M E o (.pointer (some ⟨b, r, none⟩)) := eC m r hf (e2 (e2 h).2).2 (e2 h).1 (e2 (e2 h).2).1
theorem pex {k : Nat} {vs : List Value} (h : (o.op, ev E x, vs[k]?) = (.extract x k, some (.tuple vs.toArray), some v)) : Pu n M E o v := jB (e2 h).1 (e2 (e2 h).2).1 (e2 (e2 h).2).2
theorem pno {c : Bool} (h : (o.op, ev E x) = (.unOp .not t x, some (.bool c))) : Pu n M E o (.bool (!c)) := oI (e2 h).1 (e2 h).2
theorem b3 {op : BinOp} {u w : Value} (h : (o.op, ev E x, ev E y) = (.binOp op t x y t', some u, some w)) : o.op = .binOp op t x y t' ∧ ev E x = some u ∧ ev E y = some w := ⟨(e2 h).1, (e2 (e2 h).2).1, (e2 (e2 h).2).2⟩
theorem pls (h : (o.op, ev E x, ev E y) = (.binOp .lss t x y t', some (I p), some (I q))) : Pu n M E o (.bool (decide (p < q))) := oG (b3 h).1 (b3 h).2.1 (b3 h).2.2
theorem ple (h : (o.op, ev E x, ev E y) = (.binOp .leq t x y t', some (I p), some (I q))) : Pu n M E o (.bool (decide (p ≤ q))) := oH (b3 h).1 (b3 h).2.1 (b3 h).2.2
theorem pgt (h : (o.op, ev E x, ev E y) = (.binOp .gtr t x y t', some (I p), some (I q))) : Pu n M E o (.bool (decide (q < p))) := qI (b3 h).1 (b3 h).2.1 (b3 h).2.2
theorem pge (h : (o.op, ev E x, ev E y) = (.binOp .geq t x y t', some (I p), some (I q))) : Pu n M E o (.bool (decide (q ≤ p))) := qJ (b3 h).1 (b3 h).2.1 (b3 h).2.2
theorem peq (h : (o.op, ev E x, ev E y) = (.binOp .eql t x y t', some (I p), some (I q))) : Pu n M E o (.bool (decide (p = q))) := eO (b3 h).1 (b3 h).2.1 (b3 h).2.2
theorem pne (h : (o.op, ev E x, ev E y) = (.binOp .neq t x y t', some (I p), some (I q))) : Pu n M E o (.bool (!decide (p = q))) := qK (b3 h).1 (b3 h).2.1 (b3 h).2.2
theorem pad (z : Int) (hz : wrap64 (p + q) = z) (h : (o.op, ev E x, ev E y) = (.binOp .add t x y t', some (I p), some (I q))) : Pu n M E o (I z) := qL z hz (b3 h).1 (b3 h).2.1 (b3 h).2.2
theorem psb (z : Int) (hz : wrap64 (p - q) = z) (h : (o.op, ev E x, ev E y) = (.binOp .sub t x y t', some (I p), some (I q))) : Pu n M E o (I z) := lJ z hz (b3 h).1 (b3 h).2.1 (b3 h).2.2
theorem pml (z : Int) (hz : wrap64 (p * q) = z) (h : (o.op, ev E x, ev E y) = (.binOp .mul t x y t', some (I p), some (I q))) : Pu n M E o (I z) := lK z hz (b3 h).1 (b3 h).2.1 (b3 h).2.2
theorem ppt {y z : Operand} {c : Bool} (hc : c = true) (h : (o.op, ev E x, ev E y) = (.pick x y z, some (.bool c), some v)) : Pu n M E o v := nI (e2 h).1 (e2 (e2 h).2).1 hc (e2 (e2 h).2).2
theorem ppf {y z : Operand} {c : Bool} (hc : c = false) (h : (o.op, ev E x, ev E z) = (.pick x y z, some (.bool c), some v)) : Pu n M E o v := nJ (e2 h).1 (e2 (e2 h).2).1 hc (e2 (e2 h).2).2
theorem pln {A : Option Addr} {m c : Nat} (hs : slB Tryz.prog t = true) (h : (o.op, ev E x) = (.call { callee := .builtin .len, args := [x].toArray, argTypes := [t].toArray }, some (.slice A m c))) : Pu n M E o (I m) := jD hs (e2 h).1 (e2 h).2
theorem pix {ix : Operand} {A : Option Addr} {m c b p : Nat} {i : Int} {sz : Nat} (hs : elB Tryz.prog t sz = true) (h : (o.op, ev E x, ev E ix) = (.indexAddr t x ix, some (.slice A m c), some (I i))) (hA : A = some ⟨b, p, none⟩) (h0 : 0 ≤ i) (h1 : i < m) : Pu n M E o (.pointer (some ⟨b, p + i.toNat * sz, none⟩)) := jC sz hs (e2 h).1 (e2 (e2 h).2).1 (e2 (e2 h).2).2 hA h0 h1
theorem ral {tt : TypeId} {cs : Array Value} (k : Nat) {m : Nat} (ht : rowB Tryz.prog t m = true) (h : (o.op, ev E x, l[k]?, Nat.beq cs.size m) = (.load t x, some (.pointer (some ⟨b, 0, none⟩)), some (b, Ce tt cs), true)) : Rn n M E w0 L l F o (.agg cs) := gO k m ht (e2 h).1 (e2 (e2 h).2).1 (e2 (e2 (e2 h).2).2).1 (e2 (e2 (e2 h).2).2).2
theorem rce {tt : TypeId} {cs : Array Value} (k : Nat) (v : Value) (ht : cellB Tryz.prog t = true) (h : (o.op, ev E x, l[k]?, cs[off]?) = (.load t x, some (.pointer (some ⟨b, off, none⟩)), some (b, Ce tt cs), some v)) : Rn n M E w0 L l F o v := cT k v ht (e2 h).1 (e2 (e2 h).2).1 (e2 (e2 (e2 h).2).2).1 (e2 (e2 (e2 h).2).2).2
theorem rro {tt : TypeId} {cs : Array Value} (k : Nat) {m : Nat} (vs : Array Value) (ht : rowB Tryz.prog t m = true) (h : (o.op, ev E x, l[k]?, (cs.toList.drop off).take m, Nat.beq vs.size m) = (.load t x, some (.pointer (some ⟨b, off, none⟩)), some (b, Ce tt cs), vs.toList, true)) : Rn n M E w0 L l F o (.agg vs) := kD k m vs ht (e2 h).1 (e2 (e2 h).2).1 (e2 (e2 (e2 h).2).2).1 (e2 (e2 (e2 (e2 h).2).2).2).1 (e2 (e2 (e2 (e2 h).2).2).2).2
theorem fal {cs : Array Value} (hz : zeroB Tryz.prog t cs) (h3 : (o.op, o.dst, Nat.blt d n) = (.alloc t, some d, true)) (h : ∀ g, St n M ((d, .pointer (some ⟨g, 0, none⟩)) :: E) w0 L ((g, Ce t cs) :: l) F K) : Fx n M E w0 L l F Q o K := lL cs hz (e2 h3).1 (e2 (e2 h3).2).1 (e2 (e2 h3).2).2 h
theorem fba {cs : Array Value} (h3 : (o.op, o.dst, Nat.blt d n, ev E x) = (.box t x, some d, true, some (.agg cs))) (h : ∀ g, St n M ((d, .pointer (some ⟨g, 0, none⟩)) :: E) w0 L ((g, Ce t cs) :: l) F K) : Fx n M E w0 L l F Q o K := bC cs (e2 h3).1 (e2 (e2 (e2 h3).2).2).2 rfl (e2 (e2 h3).2).1 (e2 (e2 (e2 h3).2).2).1 h
theorem fst {tt : TypeId} {cs : Array Value} (k : Nat) (l' : Bxs) {sz : Nat} (hi : szB Tryz.prog t sz = true) (h3 : (o.op, o.dst, ev E x, ev E y, l[k]?, v.cells.size) = (.store t x y, none, some (.pointer (some ⟨b, off, none⟩)), some v, some (b, Ce tt cs), sz)) (h4 : (v.cells.toList.all (·.oneCell'), Nat.ble (off + v.cells.size) cs.size, l.set k (b, Ce tt (putL cs off v.cells.toList))) = (true, true, l')) (h : St n M E w0 L l' F K) : Fx n M E w0 L l F Q o K := by
  have q := e2 h3; have q2 := e2 q.2; have q3 := e2 q2.2; have q4 := e2 q3.2; have q5 := e2 q4.2
  exact jE k l' q.1 q2.1 q3.1 q4.1 q5.1 (q5.2 ▸ hi) (e2 h4).1 (e2 (e2 h4).2).1 (e2 (e2 h4).2).2 h
theorem ffl {tt : TypeId} {cs cs' : Array Value} (k : Nat) (l' : Bxs) {sz : Nat} (hi : szB Tryz.prog t sz = true) (h3 : (o.op, o.dst, ev E x, ev E y, l[k]?, cs'.size) = (.store t x y, none, some (.pointer (some ⟨b, 0, none⟩)), some (.agg cs'), some (b, Ce tt cs), sz)) (h4 : (cs'.toList.all (·.oneCell'), Nat.beq cs'.size cs.size, l.set k (b, Ce tt cs')) = (true, true, l')) (h : St n M E w0 L l' F K) : Fx n M E w0 L l F Q o K := by
  have q := e2 h3; have q2 := e2 q.2; have q3 := e2 q2.2; have q4 := e2 q3.2; have q5 := e2 q4.2
  exact nK k cs' l' q.1 q2.1 q3.1 q4.1 q5.1 (q5.2 ▸ hi) (e2 h4).1 (e2 (e2 h4).2).1 (e2 (e2 h4).2).2 h
theorem fca {f : FuncId} {xs : List Operand} {ts : Array TypeId} {vs : List Value} {R : World → Ending → World → Prop} (hf : fnB Tryz.prog f = true) (h3 : (o.op, o.dst, Nat.blt d n, evs0 E xs) = (.call { callee := .value (.func f), args := xs.toArray, argTypes := ts }, some d, true, some vs))
    (hc : ∀ W, Kb w0 L l F W → Calls Tryz.prog f vs.toArray W (R W)) (h : ∀ W e W', Kb w0 L l F W → R W e W' → Nx n M E d K e W') : Fx n M E w0 L l F Q o K := cU vs R hf (e2 h3).1 (e2 (e2 (e2 h3).2).2).2 (e2 (e2 h3).2).1 (e2 (e2 (e2 h3).2).2).1 hc h
/-- A call that yields a value. -/
theorem fcv {f : FuncId} {xs : List Operand} {ts : Array TypeId} {vs : List Value} (hf : fnB Tryz.prog f = true) (h3 : (o.op, o.dst, Nat.blt d n, evs0 E xs) = (.call { callee := .value (.func f), args := xs.toArray, argTypes := ts }, some d, true, some vs))
    (hc : ∀ W, Kb w0 L l F W → Calls Tryz.prog f vs.toArray W (fun e w' => e = .returned v ∧ Below W.heap.size W w')) (h : St n M ((d, v) :: E) w0 L l F K) : Fx n M E w0 L l F Q o K := fca hf h3 hc fun W e W' hk hr => hr.1 ▸ nx (hk.call hr.2) h
theorem fin {f : FuncId} {xs : List Operand} {ts : Array TypeId} {vs : List Value} (hf : fnB Tryz.prog f = true) (h3 : (o.op, o.dst, Nat.blt d n, evs0 E xs) = (.call { callee := .value (.func f), args := xs.toArray, argTypes := ts }, some d, true, some vs))
    (h : ∀ W, Kb w0 L l F W → Calls Tryz.prog f vs.toArray W (Nx n M E d K)) : Fx n M E w0 L l F Q o K := qO vs hf (e2 h3).1 (e2 (e2 (e2 h3).2).2).2 (e2 (e2 h3).2).1 (e2 (e2 (e2 h3).2).2).1 h
end
theorem lx (h0 : o.guard = none) (h : Fx n M E w0 L l F Q o (LW ro ops Q rest)) : SL ro n M E w0 L l F ops Q (o :: rest) := l_x h h0
variable {S : World → Prop} {ds : List Nat} {fuel N m : Nat} {l0 : Bxs} {F0 : Fct}
theorem dst {id : Nat} {r : List Oper} (ds : List Nat) (h : St n M E w0 L l F (wpAnyLast Tryz.prog .any r.toArray Q (Kb w0 L l F) ds r.length (bA r.length 0))) : St n M E w0 L l F (CW none (Code.region id r.toArray true) Q) := nL r.length ds _ (by simp) (by
  refine Array.ext (by simp [bA]) fun i h1 h2 => ?_
  simp [bA]) h
abbrev D4 (ops : Array Oper) (o : Oper) (n d i : Nat) : Option Oper × Option (Nat × Bool) × Option Nat × Bool := (ops[i]?, o.guard, o.dst, Nat.blt d n)
theorem d4 {i d : Nat} (h : D4 ops o n d i = (some o, none, some d, true)) : ops[i]? = some o ∧ o.guard = none ∧ o.dst = some d ∧ Nat.blt d n = true := ⟨(e2 h).1, (e2 (e2 h).2).1, (e2 (e2 (e2 h).2).2).1, (e2 (e2 (e2 h).2).2).2⟩
theorem dp (i : Nat) (h4 : D4 ops o n d i = (some o, none, some d, true)) (hp : Pu n M E o v) (h : St n M ((d, v) :: E) w0 L l F (wpAnyLast Tryz.prog .any ops Q S ds fuel (bA N (m + 2 ^ i)))) (hc : anyB .any ops (bA N m) (bA N (m + 2 ^ i)) i = true := by kernel_rfl) (hq : QOk Q := by exact fun _ _ _ _ _ h => h) : St n M E w0 L l F (wpAnyLast Tryz.prog .any ops Q S ds (fuel + 1) (bA N m)) := dN i _ hq (d4 h4).1 hc hp (wn (d4 h4).2.1) (d4 h4).2.2.1 (d4 h4).2.2.2 h
theorem dr (i : Nat) (h4 : D4 ops o n d i = (some o, none, some d, true)) (hS : ∀ W, Kb w0 L l F W → Kb w0 L l0 F0 W) (hp : Rn n M E w0 L l0 F0 o v) (h : St n M ((d, v) :: E) w0 L l F (wpAnyLast Tryz.prog .any ops Q (Kb w0 L l0 F0) ds fuel (bA N (m + 2 ^ i)))) (hc : takeB .any ops ds (bA N m) (bA N (m + 2 ^ i)) i = true := by kernel_rfl) (hq : QOk Q := by exact fun _ _ _ _ _ h => h) : St n M E w0 L l F (wpAnyLast Tryz.prog .any ops Q (Kb w0 L l0 F0) ds (fuel + 1) (bA N m)) := gI i _ hq hS (d4 h4).1 hc hp (wn (d4 h4).2.1) (d4 h4).2.2.1 (d4 h4).2.2.2 h
theorem doff (i : Nat) (hi : ops[i]? = some o) (hw : Wn n M E ops o false) (h2 : (o.dst, Nat.blt d n) = (some d, true)) (h : St n M ((d, undef) :: E) w0 L l F (wpAnyLast Tryz.prog .any ops Q S ds fuel (bA N (m + 2 ^ i)))) (hc : anyB .any ops (bA N m) (bA N (m + 2 ^ i)) i = true := by kernel_rfl) (hq : QOk Q := by exact fun _ _ _ _ _ h => h) : St n M E w0 L l F (wpAnyLast Tryz.prog .any ops Q S ds (fuel + 1) (bA N m)) := qP i _ hq hi hc hw (e2 h2).1 (e2 h2).2 h
theorem dx (i : Nat) (h3 : (ops[i]?, o.guard, ds.contains i) = (some o, none, false)) (h : Fx n M E w0 L l F Q o (fun a W => S W ∧ wpAnyLast Tryz.prog .any ops Q S ds fuel (bA N (m + 2 ^ i)) a W)) (hc : readyB .any ops (bA N m) (bA N (m + 2 ^ i)) i = true := by kernel_rfl) : St n M E w0 L l F (wpAnyLast Tryz.prog .any ops Q S ds (fuel + 1) (bA N m)) := sS i _ (e2 h3).1 hc (e2 (e2 h3).2).2 (wn (e2 (e2 h3).2).1) h
theorem dl (i : Nat) (h3 : (ops[i]?, o.guard, ds.contains i) = (some o, none, true)) (h : Fx n M E w0 L l F Q o (wpAnyLast Tryz.prog .any ops Q S ds fuel (bA N (m + 2 ^ i)))) (hc : readyB .any ops (bA N m) (bA N (m + 2 ^ i)) i = true := by kernel_rfl) : St n M E w0 L l F (wpAnyLast Tryz.prog .any ops Q S ds (fuel + 1) (bA N m)) := pE i _ (e2 h3).1 hc (e2 (e2 h3).2).2 (wn (e2 (e2 h3).2).1) h
theorem d2 {o' : Oper} (i j : Nat) (h3 : ((ops[i]?, o.guard, ds.contains i), ops[j]?, o'.guard, ds.contains j) = ((some o, none, false), some o', none, false)) (h : Fx n M E w0 L l F Q o (fun a W => S W ∧ wpAnyLast Tryz.prog .any ops Q S ds fuel (bA N (m + 2 ^ i)) a W)) (h' : Fx n M E w0 L l F Q o' (fun a W => S W ∧ wpAnyLast Tryz.prog .any ops Q S ds fuel (bA N (m + 2 ^ j)) a W)) (hc : (Region.ready .any ops (bA N m) == [i, j] && (bA N m).setIfInBounds i true == bA N (m + 2 ^ i) && (bA N m).setIfInBounds j true == bA N (m + 2 ^ j)) = true := by kernel_rfl) : St n M E w0 L l F (wpAnyLast Tryz.prog .any ops Q S ds (fuel + 1) (bA N m)) :=
  qQ i j _ _ (e2 (e2 h3).1).1 (e2 (e2 h3).2).1 hc (e2 (e2 (e2 h3).1).2).2 (e2 (e2 (e2 h3).2).2).2 (wn (e2 (e2 (e2 h3).1).2).1) (wn (e2 (e2 (e2 h3).2).2).1) h h'
theorem dd {k : Nat} (h : St n M E w0 L l F (Q .normal)) (hr : (Region.ready .any ops (bA N m) == []) = true := by kernel_rfl) : St n M E w0 L l F (wpAnyLast Tryz.prog .any ops Q S ds k (bA N m)) := pF hr h
theorem sr {y : Code} {id : Nat} {r : List Oper} (h : St n M E w0 L l F (LW ro r.toArray (Exit.then (CW ro y Q) Q) r)) : St n M E w0 L l F (CW ro (Code.seq (Code.region id r.toArray false) y) Q) := aE (aU h)
theorem nt {K : Act → World → Prop} {Q' : Exit → Act → World → Prop} (h : St n M E w0 L l F K) : St n M E w0 L l F (LW ro ops (Exit.then K Q') []) := bQ h
theorem RetT.of {T T1 : Tn} {s : Sl} {w w' : World} (e : T1 = T) (h : RT L s T1 w') (hb : Below w.heap.size w w') : RetT L w T (.returned (.agg (tc T1 s))) w' := ⟨s, T1, e, rfl, h, hb⟩
theorem RetB.of {T T1 : Tn} {s : Sl} {b : Bool} {w w' : World} (e : T1 = T) (h : RT L s T1 w') (hb : Below w.heap.size w w') : RetB L w T b (.returned (.tuple #[.agg (tc T1 s), .bool b])) w' := ⟨s, T1, e, rfl, h, hb⟩
theorem ent {f : FuncId} {fn : Func} {c : Code} {vs : List Value} {W : World} {R : Ending → World → Prop} (n : Nat) (hf : Tryz.prog.funcs[f]? = some fn) (h3 : (fn.body, fn.ntmps, Nat.ble vs.length n) = (some c, n, true))
    (k : Kb w0 L l F W) (h : St n [] (envA 0 vs) w0 L l F (CW none c (bodyPost Tryz.prog fn R))) : Calls Tryz.prog f vs.toArray W R := lH n hf (e2 h3).1 (e2 (e2 h3).2).1 (e2 (e2 h3).2).2 k h
end
end
set_option maxHeartbeats 8000000
set_option maxRecDepth 100000
theorem aN : foB Tryz.prog 124 4 16 = true := by kernel_rfl
theorem iG : foB Tryz.prog 84 15 16 = true := by kernel_rfl
theorem aJ : cellB Tryz.prog 3 = true := by kernel_rfl
theorem nM : foB Tryz.prog 124 2 13 = true := by kernel_rfl
theorem fI : foB Tryz.prog 23 1 1 = true := by kernel_rfl
theorem jG : fnB Tryz.prog 44 = true := by kernel_rfl
theorem qR : fnB Tryz.prog 114 = true := by kernel_rfl
theorem bM : rowB Tryz.prog 23 12 = true := by kernel_rfl
theorem fn62 : fnB Tryz.prog 62 = true := by kernel_rfl
theorem qS : fnB Tryz.prog 115 = true := by kernel_rfl
theorem jO : fnB Tryz.prog 46 = true := by kernel_rfl
theorem fc103_2 : fcB Tryz.prog 103 2 = true := by kernel_rfl
theorem iH : foB Tryz.prog 103 2 2 = true := by kernel_rfl
theorem qT : fnB Tryz.prog 157 = true := by kernel_rfl
theorem fU : foB Tryz.prog 23 4 4 = true := by kernel_rfl
theorem qU : fnB Tryz.prog 158 = true := by kernel_rfl
theorem fV : foB Tryz.prog 23 5 5 = true := by kernel_rfl
theorem qV : fnB Tryz.prog 159 = true := by kernel_rfl
theorem fc103_1 : fcB Tryz.prog 103 1 = true := by kernel_rfl
theorem nN : foB Tryz.prog 103 1 1 = true := by kernel_rfl
theorem gK : zeroB Tryz.prog 188 (#[I 0, I 0]) := by unfold zeroB; kernel_rfl
theorem cN : szB Tryz.prog 188 2 = true := by kernel_rfl
theorem fO : foB Tryz.prog 188 1 1 = true := by kernel_rfl
theorem bS : rowB Tryz.prog 188 2 = true := by kernel_rfl
theorem dG : foB Tryz.prog 188 0 0 = true := by kernel_rfl
theorem oJ : fnB Tryz.prog 135 = true := by kernel_rfl
theorem late_is (L : Nat → Prop) (s : Sl) (T : Tn) (w : World) (cx : Cx L w) : Calls Tryz.prog 113 [.agg (tc T s)].toArray w (fun e w' => e = .returned (.bool (lateP T)) ∧ Below w.heap.size w w') := by
  refine ent 15 Tryz.func113 rfl (Kb.start cx (Kn.top _ _)) <| sr <| lx rfl <| fba rfl fun g1 => ?_
  refine lp (pas rfl) rfl <| nt <| sr <| lp (pfa aN 16 rfl) rfl <| lp (pfa iG 32 rfl) rfl <| lr (rce 0 (I T.th.until_) aJ rfl) rfl <| lp (pls rfl) rfl <| lp (pmv rfl) rfl ?_
  by_cases c1 : 0 < T.th.until_
  refine gp (wi rfl (aA c1) rfl) (pfa aN 16 rfl) rfl <| gp (wi rfl (aA c1) rfl) (pfa iG 32 rfl) rfl <| gr (wi rfl (aA c1) rfl) (rce 0 (I T.th.until_) aJ rfl) rfl <| gp (wi rfl (aA c1) rfl) (pfa nM 13 rfl) rfl <| gr (wi rfl (aA c1) rfl) (rce 0 (I T.now) aJ rfl) rfl <| gp (wi rfl (aA c1) rfl) (ple rfl) rfl <| lp (ppt (aA c1) rfl) rfl <| lp (pas rfl) rfl <| nt <| aF <| aG _ (res1 rfl (aD rfl)) (fun W k => ?_)
  exact ⟨congrArg Ending.returned (congrArg Value.bool (by simp [lateP, c1])), k.below⟩
  refine gof (wi rfl (aB c1) rfl) rfl <| gof (wi rfl (aB c1) rfl) rfl <| gof (wi rfl (aB c1) rfl) rfl <| gof (wi rfl (aB c1) rfl) rfl <| gof (wi rfl (aB c1) rfl) rfl <| gof (wi rfl (aB c1) rfl) rfl <| lp (ppf (aB c1) rfl) rfl <| lp (pas rfl) rfl <| nt <| aF <| aG _ (res1 rfl (aD rfl)) (fun W k => ?_)
  exact ⟨congrArg Ending.returned (congrArg Value.bool (by simp [lateP, c1])), k.below⟩
theorem node_is (L : Nat → Prop) (c : Cf) (hc : CfOk c) (item n : Int) (w : World) (cx : Cx L w) : Calls Tryz.prog 91 [.agg c.cells, I item, I n].toArray w (fun e w' => e = .returned (I (nodeS c item n)) ∧ Below w.heap.size w w') := by
  have hb0 := block_le hc
  have hp0 := p2_le hc.de
  have hi0 := hc.it
  have hl0 := hc.la
  have hw0 := hc.wi
  have hq : wrap64 (1 + (p2 c.de - 1)) = p2 c.de := by unfold wrap64; omega
  refine ent 12 Tryz.func91 rfl (Kb.start cx (Kn.top _ _)) <| sr <| lx rfl <| bC c.cells rfl rfl rfl rfl rfl fun g1 => ?_
  refine lx rfl <| bC (#[I item]) rfl rfl rfl rfl rfl fun g2 => ?_
  refine lx rfl <| bC (#[I n]) rfl rfl rfl rfl rfl fun g3 => ?_
  refine lp (pas rfl) rfl <| nt <| sr <| lr (rce 1 (I item) aJ rfl) rfl <| lp (pfa fI 1 rfl) rfl <| lr (rce 2 (I c.it) aJ rfl) rfl <| lp (cE rfl rfl rfl) rfl <| lx rfl <| fin jG rfl (fun W k => ?_)
  refine ent 19 Tryz.func44 rfl k <| sr <| lp (pas rfl) rfl <| nt <| aE <| sr <| lp (pmv rfl) rfl <| lp (pmv rfl) rfl <| lp (pls rfl) rfl <| lp (pmv rfl) rfl ?_
  by_cases c1 : item < 0
  refine gof (wi rfl (aA c1) rfl) rfl <| gof (wi rfl (aA c1) rfl) rfl <| gof (wi rfl (aA c1) rfl) rfl <| lp (ppt (aA c1) rfl) rfl <| nt <| aQ rfl rfl <| sr <| lp (pas rfl) rfl <| nt <| aF (aS ?_)
  refine aG _ (res1 rfl (aD rfl)) (fun W k => ?_)
  refine nx k <| lp (pas rfl) rfl <| nt <| aF <| aG _ (res1 rfl (aD rfl)) (fun W k => ?_)
  exact ⟨congrArg Ending.returned (congrArg I (by unfold nodeS; first | (rw [if_neg (by omega)]) | (rw [if_pos (by omega)]))), k.below⟩
  refine gp (wi rfl (aB c1) rfl) (pmv rfl) rfl <| gp (wi rfl (aB c1) rfl) (pmv rfl) rfl <| gp (wi rfl (aB c1) rfl) (pge rfl) rfl <| lp (ppf (aB c1) rfl) rfl <| nt ?_
  by_cases c2 : c.it ≤ item
  refine aQ rfl (aA c2) <| sr <| lp (pas rfl) rfl <| nt <| aF (aS ?_)
  refine aG _ (res1 rfl (aD rfl)) (fun W k => ?_)
  refine nx k <| lp (pas rfl) rfl <| nt <| aF <| aG _ (res1 rfl (aD rfl)) (fun W k => ?_)
  exact ⟨congrArg Ending.returned (congrArg I (by unfold nodeS; first | (rw [if_neg (by omega)]) | (rw [if_pos (by omega)]))), k.below⟩
  refine aM rfl (aB c2) <| aI <| aC <| sr <| lp (pmv rfl) rfl <| lx rfl <| cB [] qR rfl rfl rfl rfl rfl [.pointer (some ⟨g3, 0, none⟩), .pointer (some ⟨g1, 0, none⟩), .pointer (some ⟨g2, 0, none⟩)] rfl (fun W k => ?_)
  refine ent 10 Tryz.func114 rfl k <| sr <| lp (pas rfl) rfl <| nt <| aE <| dst [] <| dp 4 rfl (cE rfl rfl rfl) <| dr 0 rfl (fun _ h => h) (rce 0 (I n) aJ rfl) <| dr 1 rfl (fun _ h => h) (ral 2 bM rfl) <| dx 2 rfl <| fcv fn62 rfl (fun W k => nodes_is c hc.de W) (aH (fun _ h => h) ?_)
  refine dp 3 rfl (pad (p2 c.de) hq rfl) <| dx 5 rfl <| fin jG rfl (fun W k => ?_)
  refine ent 19 Tryz.func44 rfl k <| sr <| lp (pas rfl) rfl <| nt <| aE <| sr <| lp (pmv rfl) rfl <| lp (pmv rfl) rfl <| lp (pls rfl) rfl <| lp (pmv rfl) rfl ?_
  by_cases c3 : n < 1
  refine gof (wi rfl (aA c3) rfl) rfl <| gof (wi rfl (aA c3) rfl) rfl <| gof (wi rfl (aA c3) rfl) rfl <| lp (ppt (aA c3) rfl) rfl <| nt <| aQ rfl rfl <| sr <| lp (pas rfl) rfl <| nt <| aF (aS ?_)
  refine aG _ (res1 rfl (aD rfl)) (fun W k => ?_)
  refine nx k (aH (fun _ h => h) ?_)
  refine dp 6 rfl (pas rfl) <| dd <| aC <| aF <| aG _ (res1 rfl (aD rfl)) (fun W k => ?_)
  refine nx k <| lp (pas rfl) rfl <| nt <| aF <| aG _ (res1 rfl (aD rfl)) (fun W k => ?_)
  refine nx k <| lp (pas rfl) rfl <| nt <| aF <| aG _ (res1 rfl (aD rfl)) (fun W k => ?_)
  exact ⟨congrArg Ending.returned (congrArg I (by unfold nodeS; first | (rw [if_neg (by omega)]) | (rw [if_pos (by omega)]))), k.below⟩
  refine gp (wi rfl (aB c3) rfl) (pmv rfl) rfl <| gp (wi rfl (aB c3) rfl) (pmv rfl) rfl <| gp (wi rfl (aB c3) rfl) (pge rfl) rfl <| lp (ppf (aB c3) rfl) rfl <| nt ?_
  by_cases c4 : p2 c.de ≤ n
  refine aQ rfl (aA c4) <| sr <| lp (pas rfl) rfl <| nt <| aF (aS ?_)
  refine aG _ (res1 rfl (aD rfl)) (fun W k => ?_)
  refine nx k (aH (fun _ h => h) ?_)
  refine dp 6 rfl (pas rfl) <| dd <| aC <| aF <| aG _ (res1 rfl (aD rfl)) (fun W k => ?_)
  refine nx k <| lp (pas rfl) rfl <| nt <| aF <| aG _ (res1 rfl (aD rfl)) (fun W k => ?_)
  refine nx k <| lp (pas rfl) rfl <| nt <| aF <| aG _ (res1 rfl (aD rfl)) (fun W k => ?_)
  exact ⟨congrArg Ending.returned (congrArg I (by unfold nodeS; first | (rw [if_neg (by omega)]) | (rw [if_pos (by omega)]))), k.below⟩
  refine aM rfl (aB c4) <| aI <| aC <| sr <| lp (pmv rfl) rfl <| lx rfl <| cB [] qS rfl rfl rfl rfl rfl [.pointer (some ⟨g2, 0, none⟩), .pointer (some ⟨g1, 0, none⟩), .pointer (some ⟨g3, 0, none⟩)] rfl (fun W k => ?_)
  refine ent 11 Tryz.func115 rfl k <| sr <| lp (pas rfl) rfl <| nt <| aE <| dst [] <| dr 0 rfl (fun _ h => h) (rce 1 (I item) aJ rfl) <| dr 1 rfl (fun _ h => h) (ral 2 bM rfl) <| dr 5 rfl (fun _ h => h) (rce 0 (I n) aJ rfl) <| dx 2 rfl <| fcv jO rfl (fun W k => of_is c hc W) (aH (fun _ h => h) ?_)
  refine dp 3 rfl (eH 2 1 iH rfl rfl rfl fc103_2) <| dp 4 rfl (pml (item * blockS c) (by have := mul_le_of (a := item) (p := 3) (b := blockS c) (q := 40) (by omega) (by omega) (by omega) (by omega); unfold wrap64; omega) rfl) <| dp 6 rfl (pad (item * blockS c + n) (by have := mul_le_of (a := item) (p := 3) (b := blockS c) (q := 40) (by omega) (by omega) (by omega) (by omega); unfold wrap64; omega) rfl) <| dp 7 rfl (pas rfl) <| dd <| aC <| aF <| aG _ (res1 rfl (aD rfl)) (fun W k => ?_)
  refine nx k <| lp (pas rfl) rfl <| nt <| aF <| aG _ (res1 rfl (aD rfl)) (fun W k => ?_)
  refine nx k (aH (fun _ h => h) ?_)
  refine dp 6 rfl (pas rfl) <| dd <| aC <| aF <| aG _ (res1 rfl (aD rfl)) (fun W k => ?_)
  refine nx k <| lp (pas rfl) rfl <| nt <| aF <| aG _ (res1 rfl (aD rfl)) (fun W k => ?_)
  refine nx k <| lp (pas rfl) rfl <| nt <| aF <| aG _ (res1 rfl (aD rfl)) (fun W k => ?_)
  exact ⟨congrArg Ending.returned (congrArg I (by unfold nodeS; first | (rw [if_neg (by omega)]) | (rw [if_pos (by omega)]))), k.below⟩
theorem slot_is (L : Nat → Prop) (c : Cf) (hc : CfOk c) (item layer i : Int) (w : World) (cx : Cx L w) : Calls Tryz.prog 148 [.agg c.cells, I item, I layer, I i].toArray w (fun e w' => e = .returned (I (slotS c item layer i)) ∧ Below w.heap.size w w') := by
  have hb0 := block_le hc
  have hp0 := p2_le hc.de
  have hi0 := hc.it
  have hl0 := hc.la
  have hw0 := hc.wi
  have hq : wrap64 (1 + c.la) = 1 + c.la := by unfold wrap64; omega
  refine ent 14 Tryz.func148 rfl (Kb.start cx (Kn.top _ _)) <| sr <| lx rfl <| bC c.cells rfl rfl rfl rfl rfl fun g1 => ?_
  refine lx rfl <| bC (#[I item]) rfl rfl rfl rfl rfl fun g2 => ?_
  refine lx rfl <| bC (#[I layer]) rfl rfl rfl rfl rfl fun g3 => ?_
  refine lx rfl <| bC (#[I i]) rfl rfl rfl rfl rfl fun g4 => ?_
  refine lp (pas rfl) rfl <| nt <| sr <| lr (rce 2 (I item) aJ rfl) rfl <| lp (pfa fI 1 rfl) rfl <| lr (rce 3 (I c.it) aJ rfl) rfl <| lp (cE rfl rfl rfl) rfl <| lx rfl <| fin jG rfl (fun W k => ?_)
  refine ent 19 Tryz.func44 rfl k <| sr <| lp (pas rfl) rfl <| nt <| aE <| sr <| lp (pmv rfl) rfl <| lp (pmv rfl) rfl <| lp (pls rfl) rfl <| lp (pmv rfl) rfl ?_
  by_cases c1 : item < 0
  refine gof (wi rfl (aA c1) rfl) rfl <| gof (wi rfl (aA c1) rfl) rfl <| gof (wi rfl (aA c1) rfl) rfl <| lp (ppt (aA c1) rfl) rfl <| nt <| aQ rfl rfl <| sr <| lp (pas rfl) rfl <| nt <| aF (aS ?_)
  refine aG _ (res1 rfl (aD rfl)) (fun W k => ?_)
  refine nx k <| lp (pas rfl) rfl <| nt <| aF <| aG _ (res1 rfl (aD rfl)) (fun W k => ?_)
  exact ⟨congrArg Ending.returned (congrArg I (by unfold slotS; first | (rw [if_neg (by omega)]) | (rw [if_pos (by omega)]))), k.below⟩
  refine gp (wi rfl (aB c1) rfl) (pmv rfl) rfl <| gp (wi rfl (aB c1) rfl) (pmv rfl) rfl <| gp (wi rfl (aB c1) rfl) (pge rfl) rfl <| lp (ppf (aB c1) rfl) rfl <| nt ?_
  by_cases c2 : c.it ≤ item
  refine aQ rfl (aA c2) <| sr <| lp (pas rfl) rfl <| nt <| aF (aS ?_)
  refine aG _ (res1 rfl (aD rfl)) (fun W k => ?_)
  refine nx k <| lp (pas rfl) rfl <| nt <| aF <| aG _ (res1 rfl (aD rfl)) (fun W k => ?_)
  exact ⟨congrArg Ending.returned (congrArg I (by unfold slotS; first | (rw [if_neg (by omega)]) | (rw [if_pos (by omega)]))), k.below⟩
  refine aM rfl (aB c2) <| aI <| aC <| sr <| lp (pmv rfl) rfl <| lx rfl <| cB [] qT rfl rfl rfl rfl rfl [.pointer (some ⟨g3, 0, none⟩), .pointer (some ⟨g1, 0, none⟩), .pointer (some ⟨g4, 0, none⟩), .pointer (some ⟨g2, 0, none⟩)] rfl (fun W k => ?_)
  refine ent 11 Tryz.func157 rfl k <| sr <| lp (pas rfl) rfl <| nt <| sr <| lr (rce 1 (I layer) aJ rfl) rfl <| lp (pfa fU 4 rfl) rfl <| lr (rce 3 (I c.la) aJ rfl) rfl <| lp (pad (1 + c.la) hq rfl) rfl <| lp (cE rfl rfl rfl) rfl <| lx rfl <| fin jG rfl (fun W k => ?_)
  refine ent 19 Tryz.func44 rfl k <| sr <| lp (pas rfl) rfl <| nt <| aE <| sr <| lp (pmv rfl) rfl <| lp (pmv rfl) rfl <| lp (pls rfl) rfl <| lp (pmv rfl) rfl ?_
  by_cases c3 : layer < 1
  refine gof (wi rfl (aA c3) rfl) rfl <| gof (wi rfl (aA c3) rfl) rfl <| gof (wi rfl (aA c3) rfl) rfl <| lp (ppt (aA c3) rfl) rfl <| nt <| aQ rfl rfl <| sr <| lp (pas rfl) rfl <| nt <| aF (aS ?_)
  refine aG _ (res1 rfl (aD rfl)) (fun W k => ?_)
  refine nx k <| lp (pas rfl) rfl <| nt <| aF <| aG _ (res1 rfl (aD rfl)) (fun W k => ?_)
  refine nx k <| lp (pas rfl) rfl <| nt <| aF <| aG _ (res1 rfl (aD rfl)) (fun W k => ?_)
  refine nx k <| lp (pas rfl) rfl <| nt <| aF <| aG _ (res1 rfl (aD rfl)) (fun W k => ?_)
  exact ⟨congrArg Ending.returned (congrArg I (by unfold slotS; first | (rw [if_neg (by omega)]) | (rw [if_pos (by omega)]))), k.below⟩
  refine gp (wi rfl (aB c3) rfl) (pmv rfl) rfl <| gp (wi rfl (aB c3) rfl) (pmv rfl) rfl <| gp (wi rfl (aB c3) rfl) (pge rfl) rfl <| lp (ppf (aB c3) rfl) rfl <| nt ?_
  by_cases c4 : 1 + c.la ≤ layer
  refine aQ rfl (aA c4) <| sr <| lp (pas rfl) rfl <| nt <| aF (aS ?_)
  refine aG _ (res1 rfl (aD rfl)) (fun W k => ?_)
  refine nx k <| lp (pas rfl) rfl <| nt <| aF <| aG _ (res1 rfl (aD rfl)) (fun W k => ?_)
  refine nx k <| lp (pas rfl) rfl <| nt <| aF <| aG _ (res1 rfl (aD rfl)) (fun W k => ?_)
  refine nx k <| lp (pas rfl) rfl <| nt <| aF <| aG _ (res1 rfl (aD rfl)) (fun W k => ?_)
  exact ⟨congrArg Ending.returned (congrArg I (by unfold slotS; first | (rw [if_neg (by omega)]) | (rw [if_pos (by omega)]))), k.below⟩
  refine aM rfl (aB c4) <| aI <| aC <| sr <| lp (pmv rfl) rfl <| lx rfl <| cB [] qU rfl rfl rfl rfl rfl [.pointer (some ⟨g4, 0, none⟩), .pointer (some ⟨g1, 0, none⟩), .pointer (some ⟨g2, 0, none⟩), .pointer (some ⟨g3, 0, none⟩)] rfl (fun W k => ?_)
  refine ent 10 Tryz.func158 rfl k <| sr <| lp (pas rfl) rfl <| nt <| sr <| lr (rce 0 (I i) aJ rfl) rfl <| lp (pfa fV 5 rfl) rfl <| lr (rce 3 (I c.wi) aJ rfl) rfl <| lp (cE rfl rfl rfl) rfl <| lx rfl <| fin jG rfl (fun W k => ?_)
  refine ent 19 Tryz.func44 rfl k <| sr <| lp (pas rfl) rfl <| nt <| aE <| sr <| lp (pmv rfl) rfl <| lp (pmv rfl) rfl <| lp (pls rfl) rfl <| lp (pmv rfl) rfl ?_
  by_cases c5 : i < 0
  refine gof (wi rfl (aA c5) rfl) rfl <| gof (wi rfl (aA c5) rfl) rfl <| gof (wi rfl (aA c5) rfl) rfl <| lp (ppt (aA c5) rfl) rfl <| nt <| aQ rfl rfl <| sr <| lp (pas rfl) rfl <| nt <| aF (aS ?_)
  refine aG _ (res1 rfl (aD rfl)) (fun W k => ?_)
  refine nx k <| lp (pas rfl) rfl <| nt <| aF <| aG _ (res1 rfl (aD rfl)) (fun W k => ?_)
  refine nx k <| lp (pas rfl) rfl <| nt <| aF <| aG _ (res1 rfl (aD rfl)) (fun W k => ?_)
  refine nx k <| lp (pas rfl) rfl <| nt <| aF <| aG _ (res1 rfl (aD rfl)) (fun W k => ?_)
  refine nx k <| lp (pas rfl) rfl <| nt <| aF <| aG _ (res1 rfl (aD rfl)) (fun W k => ?_)
  refine nx k <| lp (pas rfl) rfl <| nt <| aF <| aG _ (res1 rfl (aD rfl)) (fun W k => ?_)
  exact ⟨congrArg Ending.returned (congrArg I (by unfold slotS; first | (rw [if_neg (by omega)]) | (rw [if_pos (by omega)]))), k.below⟩
  refine gp (wi rfl (aB c5) rfl) (pmv rfl) rfl <| gp (wi rfl (aB c5) rfl) (pmv rfl) rfl <| gp (wi rfl (aB c5) rfl) (pge rfl) rfl <| lp (ppf (aB c5) rfl) rfl <| nt ?_
  by_cases c6 : c.wi ≤ i
  refine aQ rfl (aA c6) <| sr <| lp (pas rfl) rfl <| nt <| aF (aS ?_)
  refine aG _ (res1 rfl (aD rfl)) (fun W k => ?_)
  refine nx k <| lp (pas rfl) rfl <| nt <| aF <| aG _ (res1 rfl (aD rfl)) (fun W k => ?_)
  refine nx k <| lp (pas rfl) rfl <| nt <| aF <| aG _ (res1 rfl (aD rfl)) (fun W k => ?_)
  refine nx k <| lp (pas rfl) rfl <| nt <| aF <| aG _ (res1 rfl (aD rfl)) (fun W k => ?_)
  refine nx k <| lp (pas rfl) rfl <| nt <| aF <| aG _ (res1 rfl (aD rfl)) (fun W k => ?_)
  refine nx k <| lp (pas rfl) rfl <| nt <| aF <| aG _ (res1 rfl (aD rfl)) (fun W k => ?_)
  exact ⟨congrArg Ending.returned (congrArg I (by unfold slotS; first | (rw [if_neg (by omega)]) | (rw [if_pos (by omega)]))), k.below⟩
  refine aM rfl (aB c6) <| aI <| aC <| sr <| lp (pmv rfl) rfl <| lx rfl <| cB [] qV rfl rfl rfl rfl rfl [.pointer (some ⟨g2, 0, none⟩), .pointer (some ⟨g1, 0, none⟩), .pointer (some ⟨g3, 0, none⟩), .pointer (some ⟨g4, 0, none⟩)] rfl (fun W k => ?_)
  refine ent 22 Tryz.func159 rfl k <| sr <| lp (pas rfl) rfl <| nt <| aE <| dst [] <| dp 11 rfl (pfa fV 5 rfl) <| dr 0 rfl (fun _ h => h) (rce 2 (I item) aJ rfl) <| dr 1 rfl (fun _ h => h) (ral 3 bM rfl) <| dr 5 rfl (fun _ h => h) (ral 3 bM rfl) <| dr 9 rfl (fun _ h => h) (rce 1 (I layer) aJ rfl) <| dp 10 rfl (psb (layer - 1) (by have h1 := mul_le_of (a := item) (p := 3) (b := blockS c) (q := 40) (by omega) (by omega) (by omega) (by omega); have h2 := mul_le_of (a := layer - 1) (p := 3) (b := c.wi) (q := 8) (by omega) (by omega) (by omega) (by omega); unfold wrap64; omega) rfl) <| dr 12 rfl (fun _ h => h) (rce 3 (I c.wi) aJ rfl) <| dp 13 rfl (pml ((layer - 1) * c.wi) (by have h1 := mul_le_of (a := item) (p := 3) (b := blockS c) (q := 40) (by omega) (by omega) (by omega) (by omega); have h2 := mul_le_of (a := layer - 1) (p := 3) (b := c.wi) (q := 8) (by omega) (by omega) (by omega) (by omega); unfold wrap64; omega) rfl) <| dr 15 rfl (fun _ h => h) (rce 0 (I i) aJ rfl) <| dx 2 rfl <| fcv jO rfl (fun W k => of_is c hc W) (aH (fun _ h => h) ?_)
  refine dp 3 rfl (eH 2 1 iH rfl rfl rfl fc103_2) <| dp 4 rfl (pml (item * blockS c) (by have h1 := mul_le_of (a := item) (p := 3) (b := blockS c) (q := 40) (by omega) (by omega) (by omega) (by omega); have h2 := mul_le_of (a := layer - 1) (p := 3) (b := c.wi) (q := 8) (by omega) (by omega) (by omega) (by omega); unfold wrap64; omega) rfl) <| dx 6 rfl <| fcv jO rfl (fun W k => of_is c hc W) (aH (fun _ h => h) ?_)
  refine dp 7 rfl (eH 1 1 nN rfl rfl rfl fc103_1) <| dp 8 rfl (pad (item * blockS c + p2 c.de) (by have h1 := mul_le_of (a := item) (p := 3) (b := blockS c) (q := 40) (by omega) (by omega) (by omega) (by omega); have h2 := mul_le_of (a := layer - 1) (p := 3) (b := c.wi) (q := 8) (by omega) (by omega) (by omega) (by omega); unfold wrap64; omega) rfl) <| dp 14 rfl (pad (item * blockS c + p2 c.de + (layer - 1) * c.wi) (by have h1 := mul_le_of (a := item) (p := 3) (b := blockS c) (q := 40) (by omega) (by omega) (by omega) (by omega); have h2 := mul_le_of (a := layer - 1) (p := 3) (b := c.wi) (q := 8) (by omega) (by omega) (by omega) (by omega); unfold wrap64; omega) rfl) <| dp 16 rfl (pad (item * blockS c + p2 c.de + (layer - 1) * c.wi + i) (by have h1 := mul_le_of (a := item) (p := 3) (b := blockS c) (q := 40) (by omega) (by omega) (by omega) (by omega); have h2 := mul_le_of (a := layer - 1) (p := 3) (b := c.wi) (q := 8) (by omega) (by omega) (by omega) (by omega); unfold wrap64; omega) rfl) <| dp 17 rfl (pas rfl) <| dd <| aC <| aF <| aG _ (res1 rfl (aD rfl)) (fun W k => ?_)
  refine nx k <| lp (pas rfl) rfl <| nt <| aF <| aG _ (res1 rfl (aD rfl)) (fun W k => ?_)
  refine nx k <| lp (pas rfl) rfl <| nt <| aF <| aG _ (res1 rfl (aD rfl)) (fun W k => ?_)
  refine nx k <| lp (pas rfl) rfl <| nt <| aF <| aG _ (res1 rfl (aD rfl)) (fun W k => ?_)
  refine nx k <| lp (pas rfl) rfl <| nt <| aF <| aG _ (res1 rfl (aD rfl)) (fun W k => ?_)
  refine nx k <| lp (pas rfl) rfl <| nt <| aF <| aG _ (res1 rfl (aD rfl)) (fun W k => ?_)
  refine nx k <| lp (pas rfl) rfl <| nt <| aF <| aG _ (res1 rfl (aD rfl)) (fun W k => ?_)
  exact ⟨congrArg Ending.returned (congrArg I (by unfold slotS; first | (rw [if_neg (by omega)]) | (rw [if_pos (by omega)]))), k.below⟩
theorem and7 (w : Int) (h : 0 ≤ w ∧ w ≤ 1000) : andS w 7 = w % 8 := by
  have key : ∀ n : Fin 1001, andS (n.val : Int) 7 = (n.val : Int) % 8 := by decide +kernel
  have := key ⟨w.toNat, by omega⟩
  simpa [Int.toNat_of_nonneg h.1] using this
theorem and15 (w : Int) (h : -1 ≤ w ∧ w ≤ 124) : andS w 15 = w % 16 := by
  have key : ∀ n : Fin 126, andS ((n.val : Int) - 1) 15 = ((n.val : Int) - 1) % 16 := by decide +kernel
  have := key ⟨(w + 1).toNat, by omega⟩
  simp only [Int.toNat_of_nonneg (show 0 ≤ w + 1 by omega)] at this
  rwa [show w + 1 - 1 = w by omega] at this
theorem of_said (L : Nat → Prop) (w : Int) (hw : 0 ≤ w ∧ w ≤ 1000) (w0 : World) (cx : Cx L w0) : Calls Tryz.prog 135 [I w].toArray w0 (fun e w' => e = .returned (.agg #[I (saidS w).1, I (saidS w).2]) ∧ Below w0.heap.size w0 w') := by
  have hz : wrap64 (w / 8 - 1) = w / 8 - 1 := by unfold wrap64; omega
  have h7 := and7 w hw
  have h15 := and15 (w / 8 - 1) (by omega)
  refine ent 65 Tryz.func135 rfl (Kb.start cx (Kn.top _ _)) <| sr <| lx rfl <| fal gK rfl fun g1 => ?_
  refine nt <| sr <| lp (pmv rfl) rfl <| lp (kE (w % 8) h7 rfl rfl rfl) rfl <| lp (pmv rfl) rfl <| lp (pC rfl rfl rfl) rfl <| lp (psb (w / 8 - 1) hz rfl) rfl <| lp (bB (#[I (w % 8), I (w / 8 - 1)]) rfl rfl (by kernel_rfl)) rfl <| lx rfl <| fal gK rfl fun g2 => ?_
  refine lx rfl <| ffl 0 [(g2, Ce 188 (#[I (w % 8), I (w / 8 - 1)])), _] cN rfl rfl <| nt <| aE <| dst [] <| dp 0 rfl (pfa fO 1 rfl) <| dp 3 rfl (pfa fO 1 rfl) <| dr 1 rfl (fun _ h => h) (rce 0 (I (w / 8 - 1)) aJ rfl) <| dp 2 rfl (pD rfl rfl rfl) <| dp 6 rfl (pas rfl) <| dr 4 rfl (fun _ h => h) (rce 0 (I (w / 8 - 1)) aJ rfl) <| dp 5 rfl (kE ((w / 8 - 1) % 16) h15 rfl rfl rfl) <| dp 7 rfl (pas rfl) <| dd <| aC <| aE <| aP <| sr <| lr (ral 0 bS rfl) rfl <| lp (bB (#[I 5, I (-1)]) rfl rfl (by kernel_rfl)) rfl <| lp (nG rfl rfl rfl) rfl <| lp (pas rfl) rfl <| nt ?_
  by_cases c1 : w % 8 = 5 ∧ w / 8 - 1 = -1
  refine aQ rfl (aA c1) <| sr <| lr (ral 0 bS rfl) rfl <| lx rfl <| ffl 1 [_, (g1, Ce 188 (#[I (w % 8), I (w / 8 - 1)]))] cN rfl rfl <| nt <| aF (bD (aS ?_))
  refine aG _ (res1 rfl (aO 1 2 bS rfl rfl rfl)) (fun W k => ?_)
  have e : saidS w = (w % 8, w / 8 - 1) := by unfold saidS; (repeat (first | rw [if_pos (by omega)] | rw [if_neg (by omega)])); all_goals (refine Prod.ext ?_ ?_ <;> simp only [] <;> omega)
  exact ⟨by rw [e], k.below⟩
  refine aM rfl (aB c1) <| sr <| lp (pfa dG 0 rfl) rfl <| lr (rce 0 (I (w % 8)) aJ rfl) rfl <| lp (pge rfl) rfl <| lp (pmv rfl) rfl ?_
  by_cases c2 : 1 ≤ w % 8
  refine gp (wi rfl (aA c2) rfl) (pfa dG 0 rfl) rfl <| gr (wi rfl (aA c2) rfl) (rce 0 (I (w % 8)) aJ rfl) rfl <| gp (wi rfl (aA c2) rfl) (ple rfl) rfl <| lp (ppt (aA c2) rfl) rfl <| lp (pmv rfl) rfl ?_
  by_cases c3 : w % 8 ≤ 3
  refine gp (wi rfl (aA c3) rfl) (pfa fO 1 rfl) rfl <| gr (wi rfl (aA c3) rfl) (rce 0 (I (w / 8 - 1)) aJ rfl) rfl <| gp (wi rfl (aA c3) rfl) (pge rfl) rfl <| lp (ppt (aA c3) rfl) rfl <| lp (pmv rfl) rfl ?_
  by_cases c4 : 0 ≤ w / 8 - 1
  refine gp (wi rfl (aA c4) rfl) (pfa fO 1 rfl) rfl <| gr (wi rfl (aA c4) rfl) (rce 0 (I (w / 8 - 1)) aJ rfl) rfl <| gp (wi rfl (aA c4) rfl) (pls rfl) rfl <| lp (ppt (aA c4) rfl) rfl <| lp (pas rfl) rfl <| nt ?_
  by_cases c5 : w / 8 - 1 < 16
  refine aQ rfl (aA c5) <| sr <| lr (ral 0 bS rfl) rfl <| lx rfl <| ffl 1 [_, (g1, Ce 188 (#[I (w % 8), I (w / 8 - 1)]))] cN rfl rfl <| nt <| aF (bD (aS ?_))
  refine aG _ (res1 rfl (aO 1 2 bS rfl rfl rfl)) (fun W k => ?_)
  have e : saidS w = (w % 8, w / 8 - 1) := by unfold saidS; (repeat (first | rw [if_pos (by omega)] | rw [if_neg (by omega)])); all_goals (refine Prod.ext ?_ ?_ <;> simp only [] <;> omega)
  exact ⟨by rw [e], k.below⟩
  refine aM rfl (aB c5) <| sr <| lp (pfa dG 0 rfl) rfl <| lr (rce 0 (I (w % 8)) aJ rfl) rfl <| lp (peq rfl) rfl <| lp (pmv rfl) rfl ?_
  by_cases c6 : w % 8 = 4
  refine gp (wi rfl (aA c6) rfl) (pmv rfl) rfl <| gp (wi rfl (aA c6) rfl) (pge rfl) rfl <| lp (ppt (aA c6) rfl) rfl <| lp (pmv rfl) rfl ?_
  by_cases c7 : 0 ≤ (w / 8 - 1) / 16
  refine gp (wi rfl (aA c7) rfl) (pmv rfl) rfl <| gp (wi rfl (aA c7) rfl) (pls rfl) rfl <| lp (ppt (aA c7) rfl) rfl <| lp (pmv rfl) rfl ?_
  by_cases c8 : (w / 8 - 1) / 16 < 4
  refine gp (wi rfl (aA c8) rfl) (pmv rfl) rfl <| gp (wi rfl (aA c8) rfl) (pge rfl) rfl <| lp (ppt (aA c8) rfl) rfl <| lp (pmv rfl) rfl ?_
  by_cases c9 : 1 ≤ (w / 8 - 1) % 16
  refine gp (wi rfl (aA c9) rfl) (pmv rfl) rfl <| gp (wi rfl (aA c9) rfl) (ple rfl) rfl <| lp (ppt (aA c9) rfl) rfl <| lp (pas rfl) rfl <| nt ?_
  by_cases c10 : (w / 8 - 1) % 16 ≤ 3
  refine aQ rfl (aA c10) <| sr <| lr (ral 0 bS rfl) rfl <| lx rfl <| ffl 1 [_, (g1, Ce 188 (#[I (w % 8), I (w / 8 - 1)]))] cN rfl rfl <| nt <| aF (bD (aS ?_))
  refine aG _ (res1 rfl (aO 1 2 bS rfl rfl rfl)) (fun W k => ?_)
  have e : saidS w = (w % 8, w / 8 - 1) := by unfold saidS; (repeat (first | rw [if_pos (by omega)] | rw [if_neg (by omega)])); all_goals (refine Prod.ext ?_ ?_ <;> simp only [] <;> omega)
  exact ⟨by rw [e], k.below⟩
  refine aM rfl (aB c10) <| aI <| aW <| aC <| sr <| lp (bB (#[I 0, I 0]) rfl rfl (by kernel_rfl)) rfl <| lx rfl <| ffl 1 [_, (g1, Ce 188 (#[I 0, I 0]))] cN rfl rfl <| nt <| aF <| aG _ (res1 rfl (aO 1 2 bS rfl rfl rfl)) (fun W k => ?_)
  have e : saidS w = (0, 0) := by unfold saidS; (repeat (first | rw [if_pos (by omega)] | rw [if_neg (by omega)])); all_goals (refine Prod.ext ?_ ?_ <;> simp only [] <;> omega)
  exact ⟨by rw [e], k.below⟩
  refine gof (wi rfl (aB c9) rfl) rfl <| gof (wi rfl (aB c9) rfl) rfl <| lp (ppf (aB c9) rfl) rfl <| lp (pas rfl) rfl <| nt <| aM rfl rfl <| aI <| aW <| aC <| sr <| lp (bB (#[I 0, I 0]) rfl rfl (by kernel_rfl)) rfl <| lx rfl <| ffl 1 [_, (g1, Ce 188 (#[I 0, I 0]))] cN rfl rfl <| nt <| aF <| aG _ (res1 rfl (aO 1 2 bS rfl rfl rfl)) (fun W k => ?_)
  have e : saidS w = (0, 0) := by unfold saidS; (repeat (first | rw [if_pos (by omega)] | rw [if_neg (by omega)])); all_goals (refine Prod.ext ?_ ?_ <;> simp only [] <;> omega)
  exact ⟨by rw [e], k.below⟩
  refine gof (wi rfl (aB c8) rfl) rfl <| gof (wi rfl (aB c8) rfl) rfl <| lp (ppf (aB c8) rfl) rfl <| lp (pmv rfl) rfl <| gof (wi rfl rfl rfl) rfl <| gof (wi rfl rfl rfl) rfl <| lp (ppf rfl rfl) rfl <| lp (pas rfl) rfl <| nt <| aM rfl rfl <| aI <| aW <| aC <| sr <| lp (bB (#[I 0, I 0]) rfl rfl (by kernel_rfl)) rfl <| lx rfl <| ffl 1 [_, (g1, Ce 188 (#[I 0, I 0]))] cN rfl rfl <| nt <| aF <| aG _ (res1 rfl (aO 1 2 bS rfl rfl rfl)) (fun W k => ?_)
  have e : saidS w = (0, 0) := by unfold saidS; (repeat (first | rw [if_pos (by omega)] | rw [if_neg (by omega)])); all_goals (refine Prod.ext ?_ ?_ <;> simp only [] <;> omega)
  exact ⟨by rw [e], k.below⟩
  refine gof (wi rfl (aB c7) rfl) rfl <| gof (wi rfl (aB c7) rfl) rfl <| lp (ppf (aB c7) rfl) rfl <| lp (pmv rfl) rfl <| gof (wi rfl rfl rfl) rfl <| gof (wi rfl rfl rfl) rfl <| lp (ppf rfl rfl) rfl <| lp (pmv rfl) rfl <| gof (wi rfl rfl rfl) rfl <| gof (wi rfl rfl rfl) rfl <| lp (ppf rfl rfl) rfl <| lp (pas rfl) rfl <| nt <| aM rfl rfl <| aI <| aW <| aC <| sr <| lp (bB (#[I 0, I 0]) rfl rfl (by kernel_rfl)) rfl <| lx rfl <| ffl 1 [_, (g1, Ce 188 (#[I 0, I 0]))] cN rfl rfl <| nt <| aF <| aG _ (res1 rfl (aO 1 2 bS rfl rfl rfl)) (fun W k => ?_)
  have e : saidS w = (0, 0) := by unfold saidS; (repeat (first | rw [if_pos (by omega)] | rw [if_neg (by omega)])); all_goals (refine Prod.ext ?_ ?_ <;> simp only [] <;> omega)
  exact ⟨by rw [e], k.below⟩
  refine gof (wi rfl (aB c6) rfl) rfl <| gof (wi rfl (aB c6) rfl) rfl <| lp (ppf (aB c6) rfl) rfl <| lp (pmv rfl) rfl <| gof (wi rfl rfl rfl) rfl <| gof (wi rfl rfl rfl) rfl <| lp (ppf rfl rfl) rfl <| lp (pmv rfl) rfl <| gof (wi rfl rfl rfl) rfl <| gof (wi rfl rfl rfl) rfl <| lp (ppf rfl rfl) rfl <| lp (pmv rfl) rfl <| gof (wi rfl rfl rfl) rfl <| gof (wi rfl rfl rfl) rfl <| lp (ppf rfl rfl) rfl <| lp (pas rfl) rfl <| nt <| aM rfl rfl <| aI <| aW <| aC <| sr <| lp (bB (#[I 0, I 0]) rfl rfl (by kernel_rfl)) rfl <| lx rfl <| ffl 1 [_, (g1, Ce 188 (#[I 0, I 0]))] cN rfl rfl <| nt <| aF <| aG _ (res1 rfl (aO 1 2 bS rfl rfl rfl)) (fun W k => ?_)
  have e : saidS w = (0, 0) := by unfold saidS; (repeat (first | rw [if_pos (by omega)] | rw [if_neg (by omega)])); all_goals (refine Prod.ext ?_ ?_ <;> simp only [] <;> omega)
  exact ⟨by rw [e], k.below⟩
  refine gof (wi rfl (aB c4) rfl) rfl <| gof (wi rfl (aB c4) rfl) rfl <| gof (wi rfl (aB c4) rfl) rfl <| lp (ppf (aB c4) rfl) rfl <| lp (pas rfl) rfl <| nt <| aM rfl rfl <| sr <| lp (pfa dG 0 rfl) rfl <| lr (rce 0 (I (w % 8)) aJ rfl) rfl <| lp (peq rfl) rfl <| lp (pmv rfl) rfl ?_
  by_cases c11 : w % 8 = 4
  refine gp (wi rfl (aA c11) rfl) (pmv rfl) rfl <| gp (wi rfl (aA c11) rfl) (pge rfl) rfl <| lp (ppt (aA c11) rfl) rfl <| lp (pmv rfl) rfl ?_
  by_cases c12 : 0 ≤ (w / 8 - 1) / 16
  refine gp (wi rfl (aA c12) rfl) (pmv rfl) rfl <| gp (wi rfl (aA c12) rfl) (pls rfl) rfl <| lp (ppt (aA c12) rfl) rfl <| lp (pmv rfl) rfl ?_
  by_cases c13 : (w / 8 - 1) / 16 < 4
  refine gp (wi rfl (aA c13) rfl) (pmv rfl) rfl <| gp (wi rfl (aA c13) rfl) (pge rfl) rfl <| lp (ppt (aA c13) rfl) rfl <| lp (pmv rfl) rfl ?_
  by_cases c14 : 1 ≤ (w / 8 - 1) % 16
  refine gp (wi rfl (aA c14) rfl) (pmv rfl) rfl <| gp (wi rfl (aA c14) rfl) (ple rfl) rfl <| lp (ppt (aA c14) rfl) rfl <| lp (pas rfl) rfl <| nt ?_
  by_cases c15 : (w / 8 - 1) % 16 ≤ 3
  refine aQ rfl (aA c15) <| sr <| lr (ral 0 bS rfl) rfl <| lx rfl <| ffl 1 [_, (g1, Ce 188 (#[I (w % 8), I (w / 8 - 1)]))] cN rfl rfl <| nt <| aF (bD (aS ?_))
  refine aG _ (res1 rfl (aO 1 2 bS rfl rfl rfl)) (fun W k => ?_)
  have e : saidS w = (w % 8, w / 8 - 1) := by unfold saidS; (repeat (first | rw [if_pos (by omega)] | rw [if_neg (by omega)])); all_goals (refine Prod.ext ?_ ?_ <;> simp only [] <;> omega)
  exact ⟨by rw [e], k.below⟩
  refine aM rfl (aB c15) <| aI <| aW <| aC <| sr <| lp (bB (#[I 0, I 0]) rfl rfl (by kernel_rfl)) rfl <| lx rfl <| ffl 1 [_, (g1, Ce 188 (#[I 0, I 0]))] cN rfl rfl <| nt <| aF <| aG _ (res1 rfl (aO 1 2 bS rfl rfl rfl)) (fun W k => ?_)
  have e : saidS w = (0, 0) := by unfold saidS; (repeat (first | rw [if_pos (by omega)] | rw [if_neg (by omega)])); all_goals (refine Prod.ext ?_ ?_ <;> simp only [] <;> omega)
  exact ⟨by rw [e], k.below⟩
  refine gof (wi rfl (aB c14) rfl) rfl <| gof (wi rfl (aB c14) rfl) rfl <| lp (ppf (aB c14) rfl) rfl <| lp (pas rfl) rfl <| nt <| aM rfl rfl <| aI <| aW <| aC <| sr <| lp (bB (#[I 0, I 0]) rfl rfl (by kernel_rfl)) rfl <| lx rfl <| ffl 1 [_, (g1, Ce 188 (#[I 0, I 0]))] cN rfl rfl <| nt <| aF <| aG _ (res1 rfl (aO 1 2 bS rfl rfl rfl)) (fun W k => ?_)
  have e : saidS w = (0, 0) := by unfold saidS; (repeat (first | rw [if_pos (by omega)] | rw [if_neg (by omega)])); all_goals (refine Prod.ext ?_ ?_ <;> simp only [] <;> omega)
  exact ⟨by rw [e], k.below⟩
  refine gof (wi rfl (aB c13) rfl) rfl <| gof (wi rfl (aB c13) rfl) rfl <| lp (ppf (aB c13) rfl) rfl <| lp (pmv rfl) rfl <| gof (wi rfl rfl rfl) rfl <| gof (wi rfl rfl rfl) rfl <| lp (ppf rfl rfl) rfl <| lp (pas rfl) rfl <| nt <| aM rfl rfl <| aI <| aW <| aC <| sr <| lp (bB (#[I 0, I 0]) rfl rfl (by kernel_rfl)) rfl <| lx rfl <| ffl 1 [_, (g1, Ce 188 (#[I 0, I 0]))] cN rfl rfl <| nt <| aF <| aG _ (res1 rfl (aO 1 2 bS rfl rfl rfl)) (fun W k => ?_)
  have e : saidS w = (0, 0) := by unfold saidS; (repeat (first | rw [if_pos (by omega)] | rw [if_neg (by omega)])); all_goals (refine Prod.ext ?_ ?_ <;> simp only [] <;> omega)
  exact ⟨by rw [e], k.below⟩
  refine gof (wi rfl (aB c12) rfl) rfl <| gof (wi rfl (aB c12) rfl) rfl <| lp (ppf (aB c12) rfl) rfl <| lp (pmv rfl) rfl <| gof (wi rfl rfl rfl) rfl <| gof (wi rfl rfl rfl) rfl <| lp (ppf rfl rfl) rfl <| lp (pmv rfl) rfl <| gof (wi rfl rfl rfl) rfl <| gof (wi rfl rfl rfl) rfl <| lp (ppf rfl rfl) rfl <| lp (pas rfl) rfl <| nt <| aM rfl rfl <| aI <| aW <| aC <| sr <| lp (bB (#[I 0, I 0]) rfl rfl (by kernel_rfl)) rfl <| lx rfl <| ffl 1 [_, (g1, Ce 188 (#[I 0, I 0]))] cN rfl rfl <| nt <| aF <| aG _ (res1 rfl (aO 1 2 bS rfl rfl rfl)) (fun W k => ?_)
  have e : saidS w = (0, 0) := by unfold saidS; (repeat (first | rw [if_pos (by omega)] | rw [if_neg (by omega)])); all_goals (refine Prod.ext ?_ ?_ <;> simp only [] <;> omega)
  exact ⟨by rw [e], k.below⟩
  refine gof (wi rfl (aB c11) rfl) rfl <| gof (wi rfl (aB c11) rfl) rfl <| lp (ppf (aB c11) rfl) rfl <| lp (pmv rfl) rfl <| gof (wi rfl rfl rfl) rfl <| gof (wi rfl rfl rfl) rfl <| lp (ppf rfl rfl) rfl <| lp (pmv rfl) rfl <| gof (wi rfl rfl rfl) rfl <| gof (wi rfl rfl rfl) rfl <| lp (ppf rfl rfl) rfl <| lp (pmv rfl) rfl <| gof (wi rfl rfl rfl) rfl <| gof (wi rfl rfl rfl) rfl <| lp (ppf rfl rfl) rfl <| lp (pas rfl) rfl <| nt <| aM rfl rfl <| aI <| aW <| aC <| sr <| lp (bB (#[I 0, I 0]) rfl rfl (by kernel_rfl)) rfl <| lx rfl <| ffl 1 [_, (g1, Ce 188 (#[I 0, I 0]))] cN rfl rfl <| nt <| aF <| aG _ (res1 rfl (aO 1 2 bS rfl rfl rfl)) (fun W k => ?_)
  have e : saidS w = (0, 0) := by unfold saidS; (repeat (first | rw [if_pos (by omega)] | rw [if_neg (by omega)])); all_goals (refine Prod.ext ?_ ?_ <;> simp only [] <;> omega)
  exact ⟨by rw [e], k.below⟩
  refine gof (wi rfl (aB c3) rfl) rfl <| gof (wi rfl (aB c3) rfl) rfl <| gof (wi rfl (aB c3) rfl) rfl <| lp (ppf (aB c3) rfl) rfl <| lp (pmv rfl) rfl <| gof (wi rfl rfl rfl) rfl <| gof (wi rfl rfl rfl) rfl <| gof (wi rfl rfl rfl) rfl <| lp (ppf rfl rfl) rfl <| lp (pas rfl) rfl <| nt <| aM rfl rfl <| sr <| lp (pfa dG 0 rfl) rfl <| lr (rce 0 (I (w % 8)) aJ rfl) rfl <| lp (peq rfl) rfl <| lp (pmv rfl) rfl ?_
  by_cases c16 : w % 8 = 4
  refine gp (wi rfl (aA c16) rfl) (pmv rfl) rfl <| gp (wi rfl (aA c16) rfl) (pge rfl) rfl <| lp (ppt (aA c16) rfl) rfl <| lp (pmv rfl) rfl ?_
  by_cases c17 : 0 ≤ (w / 8 - 1) / 16
  refine gp (wi rfl (aA c17) rfl) (pmv rfl) rfl <| gp (wi rfl (aA c17) rfl) (pls rfl) rfl <| lp (ppt (aA c17) rfl) rfl <| lp (pmv rfl) rfl ?_
  by_cases c18 : (w / 8 - 1) / 16 < 4
  refine gp (wi rfl (aA c18) rfl) (pmv rfl) rfl <| gp (wi rfl (aA c18) rfl) (pge rfl) rfl <| lp (ppt (aA c18) rfl) rfl <| lp (pmv rfl) rfl ?_
  by_cases c19 : 1 ≤ (w / 8 - 1) % 16
  refine gp (wi rfl (aA c19) rfl) (pmv rfl) rfl <| gp (wi rfl (aA c19) rfl) (ple rfl) rfl <| lp (ppt (aA c19) rfl) rfl <| lp (pas rfl) rfl <| nt ?_
  by_cases c20 : (w / 8 - 1) % 16 ≤ 3
  refine aQ rfl (aA c20) <| sr <| lr (ral 0 bS rfl) rfl <| lx rfl <| ffl 1 [_, (g1, Ce 188 (#[I (w % 8), I (w / 8 - 1)]))] cN rfl rfl <| nt <| aF (bD (aS ?_))
  refine aG _ (res1 rfl (aO 1 2 bS rfl rfl rfl)) (fun W k => ?_)
  have e : saidS w = (w % 8, w / 8 - 1) := by unfold saidS; (repeat (first | rw [if_pos (by omega)] | rw [if_neg (by omega)])); all_goals (refine Prod.ext ?_ ?_ <;> simp only [] <;> omega)
  exact ⟨by rw [e], k.below⟩
  refine aM rfl (aB c20) <| aI <| aW <| aC <| sr <| lp (bB (#[I 0, I 0]) rfl rfl (by kernel_rfl)) rfl <| lx rfl <| ffl 1 [_, (g1, Ce 188 (#[I 0, I 0]))] cN rfl rfl <| nt <| aF <| aG _ (res1 rfl (aO 1 2 bS rfl rfl rfl)) (fun W k => ?_)
  have e : saidS w = (0, 0) := by unfold saidS; (repeat (first | rw [if_pos (by omega)] | rw [if_neg (by omega)])); all_goals (refine Prod.ext ?_ ?_ <;> simp only [] <;> omega)
  exact ⟨by rw [e], k.below⟩
  refine gof (wi rfl (aB c19) rfl) rfl <| gof (wi rfl (aB c19) rfl) rfl <| lp (ppf (aB c19) rfl) rfl <| lp (pas rfl) rfl <| nt <| aM rfl rfl <| aI <| aW <| aC <| sr <| lp (bB (#[I 0, I 0]) rfl rfl (by kernel_rfl)) rfl <| lx rfl <| ffl 1 [_, (g1, Ce 188 (#[I 0, I 0]))] cN rfl rfl <| nt <| aF <| aG _ (res1 rfl (aO 1 2 bS rfl rfl rfl)) (fun W k => ?_)
  have e : saidS w = (0, 0) := by unfold saidS; (repeat (first | rw [if_pos (by omega)] | rw [if_neg (by omega)])); all_goals (refine Prod.ext ?_ ?_ <;> simp only [] <;> omega)
  exact ⟨by rw [e], k.below⟩
  refine gof (wi rfl (aB c18) rfl) rfl <| gof (wi rfl (aB c18) rfl) rfl <| lp (ppf (aB c18) rfl) rfl <| lp (pmv rfl) rfl <| gof (wi rfl rfl rfl) rfl <| gof (wi rfl rfl rfl) rfl <| lp (ppf rfl rfl) rfl <| lp (pas rfl) rfl <| nt <| aM rfl rfl <| aI <| aW <| aC <| sr <| lp (bB (#[I 0, I 0]) rfl rfl (by kernel_rfl)) rfl <| lx rfl <| ffl 1 [_, (g1, Ce 188 (#[I 0, I 0]))] cN rfl rfl <| nt <| aF <| aG _ (res1 rfl (aO 1 2 bS rfl rfl rfl)) (fun W k => ?_)
  have e : saidS w = (0, 0) := by unfold saidS; (repeat (first | rw [if_pos (by omega)] | rw [if_neg (by omega)])); all_goals (refine Prod.ext ?_ ?_ <;> simp only [] <;> omega)
  exact ⟨by rw [e], k.below⟩
  refine gof (wi rfl (aB c17) rfl) rfl <| gof (wi rfl (aB c17) rfl) rfl <| lp (ppf (aB c17) rfl) rfl <| lp (pmv rfl) rfl <| gof (wi rfl rfl rfl) rfl <| gof (wi rfl rfl rfl) rfl <| lp (ppf rfl rfl) rfl <| lp (pmv rfl) rfl <| gof (wi rfl rfl rfl) rfl <| gof (wi rfl rfl rfl) rfl <| lp (ppf rfl rfl) rfl <| lp (pas rfl) rfl <| nt <| aM rfl rfl <| aI <| aW <| aC <| sr <| lp (bB (#[I 0, I 0]) rfl rfl (by kernel_rfl)) rfl <| lx rfl <| ffl 1 [_, (g1, Ce 188 (#[I 0, I 0]))] cN rfl rfl <| nt <| aF <| aG _ (res1 rfl (aO 1 2 bS rfl rfl rfl)) (fun W k => ?_)
  have e : saidS w = (0, 0) := by unfold saidS; (repeat (first | rw [if_pos (by omega)] | rw [if_neg (by omega)])); all_goals (refine Prod.ext ?_ ?_ <;> simp only [] <;> omega)
  exact ⟨by rw [e], k.below⟩
  refine gof (wi rfl (aB c16) rfl) rfl <| gof (wi rfl (aB c16) rfl) rfl <| lp (ppf (aB c16) rfl) rfl <| lp (pmv rfl) rfl <| gof (wi rfl rfl rfl) rfl <| gof (wi rfl rfl rfl) rfl <| lp (ppf rfl rfl) rfl <| lp (pmv rfl) rfl <| gof (wi rfl rfl rfl) rfl <| gof (wi rfl rfl rfl) rfl <| lp (ppf rfl rfl) rfl <| lp (pmv rfl) rfl <| gof (wi rfl rfl rfl) rfl <| gof (wi rfl rfl rfl) rfl <| lp (ppf rfl rfl) rfl <| lp (pas rfl) rfl <| nt <| aM rfl rfl <| aI <| aW <| aC <| sr <| lp (bB (#[I 0, I 0]) rfl rfl (by kernel_rfl)) rfl <| lx rfl <| ffl 1 [_, (g1, Ce 188 (#[I 0, I 0]))] cN rfl rfl <| nt <| aF <| aG _ (res1 rfl (aO 1 2 bS rfl rfl rfl)) (fun W k => ?_)
  have e : saidS w = (0, 0) := by unfold saidS; (repeat (first | rw [if_pos (by omega)] | rw [if_neg (by omega)])); all_goals (refine Prod.ext ?_ ?_ <;> simp only [] <;> omega)
  exact ⟨by rw [e], k.below⟩
  refine gof (wi rfl (aB c2) rfl) rfl <| gof (wi rfl (aB c2) rfl) rfl <| gof (wi rfl (aB c2) rfl) rfl <| lp (ppf (aB c2) rfl) rfl <| lp (pmv rfl) rfl <| gof (wi rfl rfl rfl) rfl <| gof (wi rfl rfl rfl) rfl <| gof (wi rfl rfl rfl) rfl <| lp (ppf rfl rfl) rfl <| lp (pmv rfl) rfl <| gof (wi rfl rfl rfl) rfl <| gof (wi rfl rfl rfl) rfl <| gof (wi rfl rfl rfl) rfl <| lp (ppf rfl rfl) rfl <| lp (pas rfl) rfl <| nt <| aM rfl rfl <| sr <| lp (pfa dG 0 rfl) rfl <| lr (rce 0 (I (w % 8)) aJ rfl) rfl <| lp (peq rfl) rfl <| lp (pmv rfl) rfl ?_
  by_cases c21 : w % 8 = 4
  refine gp (wi rfl (aA c21) rfl) (pmv rfl) rfl <| gp (wi rfl (aA c21) rfl) (pge rfl) rfl <| lp (ppt (aA c21) rfl) rfl <| lp (pmv rfl) rfl ?_
  by_cases c22 : 0 ≤ (w / 8 - 1) / 16
  refine gp (wi rfl (aA c22) rfl) (pmv rfl) rfl <| gp (wi rfl (aA c22) rfl) (pls rfl) rfl <| lp (ppt (aA c22) rfl) rfl <| lp (pmv rfl) rfl ?_
  by_cases c23 : (w / 8 - 1) / 16 < 4
  refine gp (wi rfl (aA c23) rfl) (pmv rfl) rfl <| gp (wi rfl (aA c23) rfl) (pge rfl) rfl <| lp (ppt (aA c23) rfl) rfl <| lp (pmv rfl) rfl ?_
  by_cases c24 : 1 ≤ (w / 8 - 1) % 16
  refine gp (wi rfl (aA c24) rfl) (pmv rfl) rfl <| gp (wi rfl (aA c24) rfl) (ple rfl) rfl <| lp (ppt (aA c24) rfl) rfl <| lp (pas rfl) rfl <| nt ?_
  by_cases c25 : (w / 8 - 1) % 16 ≤ 3
  refine aQ rfl (aA c25) <| sr <| lr (ral 0 bS rfl) rfl <| lx rfl <| ffl 1 [_, (g1, Ce 188 (#[I (w % 8), I (w / 8 - 1)]))] cN rfl rfl <| nt <| aF (bD (aS ?_))
  refine aG _ (res1 rfl (aO 1 2 bS rfl rfl rfl)) (fun W k => ?_)
  have e : saidS w = (w % 8, w / 8 - 1) := by unfold saidS; (repeat (first | rw [if_pos (by omega)] | rw [if_neg (by omega)])); all_goals (refine Prod.ext ?_ ?_ <;> simp only [] <;> omega)
  exact ⟨by rw [e], k.below⟩
  refine aM rfl (aB c25) <| aI <| aW <| aC <| sr <| lp (bB (#[I 0, I 0]) rfl rfl (by kernel_rfl)) rfl <| lx rfl <| ffl 1 [_, (g1, Ce 188 (#[I 0, I 0]))] cN rfl rfl <| nt <| aF <| aG _ (res1 rfl (aO 1 2 bS rfl rfl rfl)) (fun W k => ?_)
  have e : saidS w = (0, 0) := by unfold saidS; (repeat (first | rw [if_pos (by omega)] | rw [if_neg (by omega)])); all_goals (refine Prod.ext ?_ ?_ <;> simp only [] <;> omega)
  exact ⟨by rw [e], k.below⟩
  refine gof (wi rfl (aB c24) rfl) rfl <| gof (wi rfl (aB c24) rfl) rfl <| lp (ppf (aB c24) rfl) rfl <| lp (pas rfl) rfl <| nt <| aM rfl rfl <| aI <| aW <| aC <| sr <| lp (bB (#[I 0, I 0]) rfl rfl (by kernel_rfl)) rfl <| lx rfl <| ffl 1 [_, (g1, Ce 188 (#[I 0, I 0]))] cN rfl rfl <| nt <| aF <| aG _ (res1 rfl (aO 1 2 bS rfl rfl rfl)) (fun W k => ?_)
  have e : saidS w = (0, 0) := by unfold saidS; (repeat (first | rw [if_pos (by omega)] | rw [if_neg (by omega)])); all_goals (refine Prod.ext ?_ ?_ <;> simp only [] <;> omega)
  exact ⟨by rw [e], k.below⟩
  refine gof (wi rfl (aB c23) rfl) rfl <| gof (wi rfl (aB c23) rfl) rfl <| lp (ppf (aB c23) rfl) rfl <| lp (pmv rfl) rfl <| gof (wi rfl rfl rfl) rfl <| gof (wi rfl rfl rfl) rfl <| lp (ppf rfl rfl) rfl <| lp (pas rfl) rfl <| nt <| aM rfl rfl <| aI <| aW <| aC <| sr <| lp (bB (#[I 0, I 0]) rfl rfl (by kernel_rfl)) rfl <| lx rfl <| ffl 1 [_, (g1, Ce 188 (#[I 0, I 0]))] cN rfl rfl <| nt <| aF <| aG _ (res1 rfl (aO 1 2 bS rfl rfl rfl)) (fun W k => ?_)
  have e : saidS w = (0, 0) := by unfold saidS; (repeat (first | rw [if_pos (by omega)] | rw [if_neg (by omega)])); all_goals (refine Prod.ext ?_ ?_ <;> simp only [] <;> omega)
  exact ⟨by rw [e], k.below⟩
  refine gof (wi rfl (aB c22) rfl) rfl <| gof (wi rfl (aB c22) rfl) rfl <| lp (ppf (aB c22) rfl) rfl <| lp (pmv rfl) rfl <| gof (wi rfl rfl rfl) rfl <| gof (wi rfl rfl rfl) rfl <| lp (ppf rfl rfl) rfl <| lp (pmv rfl) rfl <| gof (wi rfl rfl rfl) rfl <| gof (wi rfl rfl rfl) rfl <| lp (ppf rfl rfl) rfl <| lp (pas rfl) rfl <| nt <| aM rfl rfl <| aI <| aW <| aC <| sr <| lp (bB (#[I 0, I 0]) rfl rfl (by kernel_rfl)) rfl <| lx rfl <| ffl 1 [_, (g1, Ce 188 (#[I 0, I 0]))] cN rfl rfl <| nt <| aF <| aG _ (res1 rfl (aO 1 2 bS rfl rfl rfl)) (fun W k => ?_)
  have e : saidS w = (0, 0) := by unfold saidS; (repeat (first | rw [if_pos (by omega)] | rw [if_neg (by omega)])); all_goals (refine Prod.ext ?_ ?_ <;> simp only [] <;> omega)
  exact ⟨by rw [e], k.below⟩
  refine gof (wi rfl (aB c21) rfl) rfl <| gof (wi rfl (aB c21) rfl) rfl <| lp (ppf (aB c21) rfl) rfl <| lp (pmv rfl) rfl <| gof (wi rfl rfl rfl) rfl <| gof (wi rfl rfl rfl) rfl <| lp (ppf rfl rfl) rfl <| lp (pmv rfl) rfl <| gof (wi rfl rfl rfl) rfl <| gof (wi rfl rfl rfl) rfl <| lp (ppf rfl rfl) rfl <| lp (pmv rfl) rfl <| gof (wi rfl rfl rfl) rfl <| gof (wi rfl rfl rfl) rfl <| lp (ppf rfl rfl) rfl <| lp (pas rfl) rfl <| nt <| aM rfl rfl <| aI <| aW <| aC <| sr <| lp (bB (#[I 0, I 0]) rfl rfl (by kernel_rfl)) rfl <| lx rfl <| ffl 1 [_, (g1, Ce 188 (#[I 0, I 0]))] cN rfl rfl <| nt <| aF <| aG _ (res1 rfl (aO 1 2 bS rfl rfl rfl)) (fun W k => ?_)
  have e : saidS w = (0, 0) := by unfold saidS; (repeat (first | rw [if_pos (by omega)] | rw [if_neg (by omega)])); all_goals (refine Prod.ext ?_ ?_ <;> simp only [] <;> omega)
  exact ⟨by rw [e], k.below⟩
theorem kind_is (L : Nat → Prop) (w : Int) (hw : 0 ≤ w ∧ w ≤ 1000) (w0 : World) (cx : Cx L w0) : Calls Tryz.prog 120 [I w].toArray w0 (fun e w' => e = .returned (I (kindS w)) ∧ Below w0.heap.size w0 w') := by
  refine ent 15 Tryz.func120 rfl (Kb.start cx (Kn.top _ _)) <| sr <| lp (pas rfl) rfl <| nt <| aE <| sr <| lp (pmv rfl) rfl <| lx rfl <| fcv oJ rfl (fun W k => of_said _ w hw W k.cx) <| lx rfl <| fal gK rfl fun g1 => ?_
  refine lx rfl <| ffl 0 [(g1, Ce 188 (#[I ((saidS w).1), I ((saidS w).2)]))] cN rfl rfl <| nt <| sr <| lp (pmv rfl) rfl <| lp (peq rfl) rfl <| lp (pmv rfl) rfl ?_
  by_cases c1 : w = 0
  refine gof (wi rfl (aA c1) rfl) rfl <| gof (wi rfl (aA c1) rfl) rfl <| gof (wi rfl (aA c1) rfl) rfl <| lp (ppt (aA c1) rfl) rfl <| nt <| aQ rfl rfl <| sr <| lp (pfa dG 0 rfl) rfl <| lr (rce 0 (I ((saidS w).1)) aJ rfl) rfl <| lp (pas rfl) rfl <| nt <| aF (aS ?_)
  refine aG _ (res1 rfl (aD rfl)) (fun W k => ?_)
  exact ⟨congrArg Ending.returned (congrArg I (by unfold kindS; rw [if_pos (.inl c1)])), k.below⟩
  refine gr (wi rfl (aB c1) rfl) (ral 0 bS rfl) rfl <| gp (wi rfl (aB c1) rfl) (bB (#[I 0, I 0]) rfl rfl (by kernel_rfl)) rfl <| gp (wi rfl (aB c1) rfl) (nH rfl rfl rfl) rfl <| lp (ppf (aB c1) rfl) rfl <| nt ?_
  by_cases c2 : (saidS w).1 = 0 ∧ (saidS w).2 = 0
  refine aM rfl (congrArg not (aA c2)) <| aI <| aC <| sr <| lp (pas rfl) rfl <| nt <| aF <| aG _ (res1 rfl (aD rfl)) (fun W k => ?_)
  exact ⟨congrArg Ending.returned (congrArg I (by unfold kindS; rw [if_neg (fun h => h.elim c1 (fun h => h c2))])), k.below⟩
  refine aQ rfl (congrArg not (aB c2)) <| sr <| lp (pfa dG 0 rfl) rfl <| lr (rce 0 (I ((saidS w).1)) aJ rfl) rfl <| lp (pas rfl) rfl <| nt <| aF (aS ?_)
  refine aG _ (res1 rfl (aD rfl)) (fun W k => ?_)
  exact ⟨congrArg Ending.returned (congrArg I (by unfold kindS; rw [if_pos (.inr c2)])), k.below⟩
theorem who_is (L : Nat → Prop) (w : Int) (hw : 0 ≤ w ∧ w ≤ 1000) (w0 : World) (cx : Cx L w0) : Calls Tryz.prog 137 [I w].toArray w0 (fun e w' => e = .returned (I (whoS w)) ∧ Below w0.heap.size w0 w') := by
  refine ent 16 Tryz.func137 rfl (Kb.start cx (Kn.top _ _)) <| sr <| lp (pas rfl) rfl <| nt <| aE <| sr <| lp (pmv rfl) rfl <| lx rfl <| fcv oJ rfl (fun W k => of_said _ w hw W k.cx) <| lx rfl <| fal gK rfl fun g1 => ?_
  refine lx rfl <| ffl 0 [(g1, Ce 188 (#[I ((saidS w).1), I ((saidS w).2)]))] cN rfl rfl <| nt <| sr <| lp (pfa dG 0 rfl) rfl <| lr (rce 0 (I ((saidS w).1)) aJ rfl) rfl <| lp (pge rfl) rfl <| lp (pmv rfl) rfl ?_
  by_cases c1 : 1 ≤ (saidS w).1
  refine gp (wi rfl (aA c1) rfl) (pfa dG 0 rfl) rfl <| gr (wi rfl (aA c1) rfl) (rce 0 (I ((saidS w).1)) aJ rfl) rfl <| gp (wi rfl (aA c1) rfl) (ple rfl) rfl <| lp (ppt (aA c1) rfl) rfl <| nt ?_
  by_cases c2 : (saidS w).1 ≤ 3
  refine aQ rfl (aA c2) <| sr <| lp (pfa fO 1 rfl) rfl <| lr (rce 0 (I ((saidS w).2)) aJ rfl) rfl <| lp (pas rfl) rfl <| nt <| aF (aS ?_)
  refine aG _ (res1 rfl (aD rfl)) (fun W k => ?_)
  exact ⟨congrArg Ending.returned (congrArg I (by unfold whoS; first | (rw [if_pos (by omega)]) | (rw [if_neg (by omega)]))), k.below⟩
  refine aM rfl (aB c2) <| aI <| aC <| sr <| lp (pas rfl) rfl <| nt <| aF <| aG _ (res1 rfl (aD rfl)) (fun W k => ?_)
  exact ⟨congrArg Ending.returned (congrArg I (by unfold whoS; first | (rw [if_pos (by omega)]) | (rw [if_neg (by omega)]))), k.below⟩
  refine gof (wi rfl (aB c1) rfl) rfl <| gof (wi rfl (aB c1) rfl) rfl <| gof (wi rfl (aB c1) rfl) rfl <| lp (ppf (aB c1) rfl) rfl <| nt <| aM rfl rfl <| aI <| aC <| sr <| lp (pas rfl) rfl <| nt <| aF <| aG _ (res1 rfl (aD rfl)) (fun W k => ?_)
  exact ⟨congrArg Ending.returned (congrArg I (by unfold whoS; first | (rw [if_pos (by omega)]) | (rw [if_neg (by omega)]))), k.below⟩
theorem parent_is (L : Nat → Prop) (n : Int) (w : World) (cx : Cx L w) : Calls Tryz.prog 117 [I n].toArray w (fun e w' => e = .returned (I (parentS n)) ∧ Below w.heap.size w w') := by
  refine ent 6 Tryz.func117 rfl (Kb.start cx (Kn.top _ _)) <| sr <| lp (pas rfl) rfl <| nt <| sr <| lp (pmv rfl) rfl <| lp (hO rfl rfl rfl) rfl <| lp (jN rfl rfl rfl) rfl <| lp (pas rfl) rfl <| nt <| aF <| aG _ (res1 rfl (aD rfl)) (fun W k => ?_)
  exact ⟨congrArg Ending.returned rfl, k.below⟩
theorem cQ : foB Tryz.prog 32 0 0 = true := by kernel_rfl
theorem bX : cellB Tryz.prog 24 = true := by kernel_rfl
theorem lM : fnB Tryz.prog 43 = true := by kernel_rfl
theorem bF : zeroB Tryz.prog 32 (#[.slice none 0 0, .slice none 0 0]) := by unfold zeroB; kernel_rfl
theorem bI : rowB Tryz.prog 32 2 = true := by kernel_rfl
theorem lN : fnB Tryz.prog 103 = true := by kernel_rfl
theorem qW : fnB Tryz.prog 104 = true := by kernel_rfl
theorem kZ : fnB Tryz.prog 37 = true := by kernel_rfl
theorem jH : szB Tryz.prog 24 1 = true := by kernel_rfl
theorem fW : elB Tryz.prog 24 1 = true := by kernel_rfl
theorem cG : szB Tryz.prog 3 1 = true := by kernel_rfl
theorem bN : szB Tryz.prog 32 2 = true := by kernel_rfl
theorem qX : fnB Tryz.prog 119 = true := by kernel_rfl
theorem qY : fnB Tryz.prog 156 = true := by kernel_rfl
theorem lO : slB Tryz.prog 30 = true := by kernel_rfl
theorem lA : elB Tryz.prog 30 1 = true := by kernel_rfl
theorem cW : cellB Tryz.prog 81 = true := by kernel_rfl
theorem gP : foB Tryz.prog 32 1 1 = true := by kernel_rfl
theorem iI : cellB Tryz.prog 30 = true := by kernel_rfl
theorem oK : fnB Tryz.prog 151 = true := by kernel_rfl
theorem lP : fnB Tryz.prog 133 = true := by kernel_rfl
theorem qZ : fnB Tryz.prog 154 = true := by kernel_rfl
theorem sz30 : szB Tryz.prog 30 1 = true := by kernel_rfl
theorem nO : szB Tryz.prog 81 1 = true := by kernel_rfl
theorem Mem.set_len (m : Mem) (i v : Int) : (m.set i v).words.length = m.words.length := by simp [Mem.set]
theorem Mem.put_len (m : Mem) (i : Int) (b : List En) : (m.put i b).boxes.length = m.boxes.length := by simp [Mem.put]
theorem mc_set (m : Mem) (i v : Int) (a b : Hd) : mc (m.set i v) a b = #[.slice a.A m.words.length a.c, .slice b.A m.boxes.length b.c] := by unfold mc; rw [Mem.set_len]; rfl
theorem pre_lt {cs : List Value} {cur : Array Value} (hp : ∀ (i : Nat) (v : Value), cs[i]? = some v → cur[i]? = some v) {i : Nat} (h : i < cs.length) : i < cur.size := by
  have := hp i cs[i] (List.getElem?_eq_getElem h)
  exact (Array.getElem?_eq_some_iff.1 this).1
theorem pre_set {cs cs' : List Value} {cur : Array Value} (hp : ∀ (i : Nat) (v : Value), cs[i]? = some v → cur[i]? = some v) (i : Nat) (v : Value) (h : i < cs.length) (hc : cs' = cs.set i v) : ∀ (j : Nat) (u : Value), cs'[j]? = some u → (cur.setIfInBounds i v)[j]? = some u := fun j u hj => by
  subst hc
  rw [List.getElem?_set] at hj
  by_cases e : i = j
  · subst e
    rw [if_pos rfl, if_pos h] at hj
    rw [Array.getElem?_setIfInBounds_self_of_lt (pre_lt hp h)]
    exact hj
  · rw [if_neg e] at hj
    rw [Array.getElem?_setIfInBounds_ne e]
    exact hp j u hj
theorem at43 {L : Nat → Prop} {hd : Hd} {xs : List Int} (i : Int) {w : World} (h : RS L hd xs.length (xs.map I) w) (h0 : 0 ≤ i) (h1 : i < xs.length) : Calls Tryz.prog 43 [.slice hd.A xs.length hd.c, I i].toArray w fun e w' => e = .returned (.tuple [I (xs.getD i.toNat 0), I 0].toArray) ∧ Below w.heap.size w w' := by
  have := at_is _ _ xs i w h.rd
  simpa [atS, h0, h1] using this
theorem cl37 {L : Nat → Prop} {hd : Hd} {xs : List Int} {w : World} (h : RS L hd xs.length (xs.map I) w) (hn : 0 < xs.length) (hm : xs.length ≤ 100000) : Calls Tryz.prog 37 [.slice hd.A xs.length hd.c].toArray w fun e w' => ∃ g c cur, e = .returned (.slice (some ⟨g, 0, none⟩) xs.length c) ∧ w.heap.size ≤ g ∧ Bk (g, Ce 3 cur) w' ∧ xs.length ≤ c ∧ (∀ (i : Nat) (v : Value), (xs.map I)[i]? = some v → cur[i]? = some v) ∧ Below w.heap.size w w' :=
  (clone_ints _ _ xs.length _ w h.rl (by simp) (ints_one xs) (by omega)).mono fun e w' ⟨v', he, ho, hb⟩ => by
    obtain ⟨g, c, cur, rfl, h1, h2, h3, _, _, h6⟩ := owns_pos ho hn
    exact ⟨g, c, cur, he, h1, h2, h3, take_pre h6, hb⟩
theorem cr133 {L : Nat → Prop} {hd : Hd} {xs : List En} {w : World} (cx : Cx L w) (h : RS L hd xs.length (ecs xs) w) (hm : xs.length ≤ 100000) : Calls Tryz.prog 133 [.slice hd.A xs.length hd.c].toArray w fun e w' => ∃ hd' : Hd, e = .returned (.slice hd'.A xs.length hd'.c) ∧ RS L hd' xs.length (ecs xs) w' ∧ Below w.heap.size w w' :=
  (clone_ents _ _ xs.length _ w h.rl (ecs_len xs) (ecs_one xs) (by omega)).mono fun e w' ⟨v', he, ho, hb⟩ => by
    obtain ⟨hd', rfl, h1⟩ := RS.of_owns ho cx
    exact ⟨hd', he, h1, hb⟩
theorem cl154 {L : Nat → Prop} {hd : Hd} {hs : List Hd} {bs : List (List En)} {w : World} (h : RS L hd bs.length (bcs hs bs) w) (hl : hs.length = bs.length) (hn : 0 < bs.length) (hm : bs.length ≤ 100000) : Calls Tryz.prog 154 [.slice hd.A bs.length hd.c].toArray w fun e w' => ∃ g c cur, e = .returned (.slice (some ⟨g, 0, none⟩) bs.length c) ∧ w.heap.size ≤ g ∧ Bk (g, Ce 81 cur) w' ∧ bs.length ≤ c ∧ (∀ (i : Nat) (v : Value), (bcs hs bs)[i]? = some v → cur[i]? = some v) ∧ Below w.heap.size w w' :=
  (clone_boxes _ _ bs.length _ w h.rl (by rw [bcs_len hs bs hl]; simp) (bcs_one hs bs) (by omega)).mono fun e w' ⟨v', he, ho, hb⟩ => by
    obtain ⟨g, c, cur, rfl, h1, h2, h3, _, _, h6⟩ := owns_pos ho hn
    exact ⟨g, c, cur, he, h1, h2, h3, take_pre h6, hb⟩
theorem mload_is (L : Nat → Prop) (m : Mem) (a b : Hd) (i : Int) (w : World) (cx : Cx L w) (h : RS L a m.words.length (m.words.map I) w) (hb : RB L b m.boxes w) (h0 : 0 ≤ i) (h1 : i < m.words.length) (hm : m.words.length ≤ 100000) : Calls Tryz.prog 27 [.agg (mc m a b), I i].toArray w (fun e w' => e = .returned (.tuple [I (m.get i), I 0].toArray) ∧ Below w.heap.size w w') := by
  refine ent 12 Tryz.func27 rfl (Kb.start cx (Kn.and h.kn0 hb.kn0)) <| sr <| lx rfl <| fba rfl fun g1 => ?_
  refine lp (pas rfl) rfl <| lp (pas rfl) rfl <| nt <| sr <| lp (pfa cQ 0 rfl) rfl <| lr (rce 0 (.slice a.A m.words.length a.c) bX rfl) rfl <| lp (pmv rfl) rfl <| lx rfl <| fcv lM rfl (fun W k => at43 i k.kn.here.1 (by omega) (by omega)) <| lp (pex rfl) rfl <| lp (pex rfl) rfl <| lp (pas rfl) rfl <| lp (pas rfl) rfl <| nt <| aF <| aG _ (res2 rfl (aD rfl) (aD rfl)) (fun W k => ?_)
  exact ⟨congrArg Ending.returned rfl, k.below⟩
theorem mstore_is (L : Nat → Prop) (m : Mem) (a b : Hd) (i : Int) (v : Int) (w : World) (cx : Cx L w) (h : RS L a m.words.length (m.words.map I) w) (hb : RB L b m.boxes w) (h0 : 0 ≤ i) (h1 : i < m.words.length) (hm : m.words.length ≤ 100000) : Calls Tryz.prog 80 [.agg (mc m a b), I i, I v].toArray w (fun e w' => ∃ a' : Hd, e = .returned (.tuple [.agg (mc (m.set i v) a' b), I 0].toArray) ∧ RS L a' (m.set i v).words.length ((m.set i v).words.map I) w' ∧ Below w.heap.size w w') := by
  refine ent 23 Tryz.func80 rfl (Kb.start cx (Kn.and h.kn0 hb.kn0)) <| sr <| lx rfl <| fba rfl fun g1 => ?_
  refine lx rfl <| bC (#[I v]) rfl rfl rfl rfl rfl fun g2 => ?_
  refine lx rfl <| fal bF rfl fun g3 => ?_
  refine lp (pas rfl) rfl <| nt <| sr <| lr (ral 2 bI rfl) rfl <| lp (pmv rfl) rfl <| lp (cE rfl rfl rfl) rfl <| lx rfl <| fin lN rfl (fun W k => ?_)
  refine ent 45 Tryz.func103 rfl k <| sr <| lx rfl <| fba rfl fun g4 => ?_
  refine lx rfl <| fal bF rfl fun g5 => ?_
  refine lp (pas rfl) rfl <| lp (pas rfl) rfl <| lp (pas rfl) rfl <| nt <| sr <| lp (pfa cQ 0 rfl) rfl <| lr (rce 1 (.slice a.A m.words.length a.c) bX rfl) rfl <| lp (pmv rfl) rfl <| lx rfl <| fcv lM rfl (fun W k => at43 i k.kn.here.1 h0 h1) <| lp (pmv rfl) rfl <| lp (pex rfl) rfl <| lp (pex rfl) rfl <| lp (pas rfl) rfl <| lp (pas rfl) rfl <| nt <| aE <| sr <| lp (pmv rfl) rfl <| lp (pne rfl) rfl <| nt <| aM rfl (congrArg not rfl) <| aI <| aC <| sr <| lp (pmv rfl) rfl <| lp (pmv rfl) rfl <| lx rfl <| cB [I (m.words.getD (i).toNat 0)] qW rfl rfl rfl rfl rfl [I (m.words.getD (i).toNat 0), .pointer (some ⟨g2, 0, none⟩)] rfl (fun W k => ?_)
  refine ent 6 Tryz.func104 rfl k <| sr <| lp (pas rfl) rfl <| lp (pas rfl) rfl <| nt <| sr <| lr (rce 3 (I v) aJ rfl) rfl <| lp (pas rfl) rfl <| lp (pas rfl) rfl <| nt <| aF <| aG _ (res2 rfl (aD rfl) (aD rfl)) (fun W k => ?_)
  refine nx k <| lp (pmv rfl) rfl <| lp (pex rfl) rfl <| lp (pex rfl) rfl <| lp (pas rfl) rfl <| lp (pas rfl) rfl <| nt <| aE <| sr <| lp (pmv rfl) rfl <| nt <| aQ rfl rfl <| sr <| lp (pfa cQ 0 rfl) rfl <| lr (rce 1 (.slice a.A m.words.length a.c) bX rfl) rfl <| lx rfl <| fca kZ rfl (fun W k => cl37 k.kn.here.1 (by omega) (by omega)) ?_
  rintro _ _ W2 k ⟨g6, C1, cur1, rfl, hg1, hk1, hc1, hp1, hb1⟩
  refine nx (k.adopt hb1 (g6, Ce 3 cur1) hg1 hk1) <| lp (pfa cQ 0 rfl) rfl <| lx rfl <| fst 2 [_, _, (g4, Ce 32 (#[.slice (⟨some ⟨g6, 0, none⟩, C1⟩ : Hd).A m.words.length (⟨some ⟨g6, 0, none⟩, C1⟩ : Hd).c, .slice b.A m.boxes.length b.c])), _, _, _] jH rfl rfl <| nt <| aU <| lp (pfa cQ 0 rfl) rfl <| lr (rce 2 (.slice (⟨some ⟨g6, 0, none⟩, C1⟩ : Hd).A m.words.length (⟨some ⟨g6, 0, none⟩, C1⟩ : Hd).c) bX rfl) rfl <| lp (pmv rfl) rfl <| lp (pmv rfl) rfl <| lp (pix fW rfl rfl h0 h1) rfl <| lx rfl <| dM 0 [(g6, Ce 3 (cur1.setIfInBounds (0 + (i).toNat * 1) (I v))), _, _, _, _, _] rfl rfl rfl rfl rfl cG rfl (pre_lt hp1 (by simp; omega)) rfl <| nt <| sr <| lr (ral 2 bI rfl) rfl <| lp (pmv rfl) rfl <| lp (pmv rfl) rfl <| lp (pmv rfl) rfl <| lx rfl <| ffl 1 [_, (g5, Ce 32 (#[.slice (⟨some ⟨g6, 0, none⟩, C1⟩ : Hd).A m.words.length (⟨some ⟨g6, 0, none⟩, C1⟩ : Hd).c, .slice b.A m.boxes.length b.c])), _, _, _, _] bN rfl rfl <| lp (pas rfl) rfl <| lp (pas rfl) rfl <| lp (pas rfl) rfl <| nt <| aF <| aG _ (res4 rfl (aO 1 2 bI rfl rfl rfl) (aD rfl) (aD rfl) (aD rfl)) (fun W k => ?_)
  refine nx k <| lp (pmv rfl) rfl <| lp (pex rfl) rfl <| lp (pex rfl) rfl <| lp (pex rfl) rfl <| lp (pex rfl) rfl <| lx rfl <| fal bF rfl fun g7 => ?_
  refine lx rfl <| ffl 0 [(g7, Ce 32 (#[.slice (⟨some ⟨g6, 0, none⟩, C1⟩ : Hd).A m.words.length (⟨some ⟨g6, 0, none⟩, C1⟩ : Hd).c, .slice b.A m.boxes.length b.c])), _, _, _, _, _, _] bN rfl rfl <| lp (pas rfl) rfl <| lp (pas rfl) rfl <| lp (pas rfl) rfl <| nt <| sr <| lr (ral 0 bI rfl) rfl <| lp (pmv rfl) rfl <| lx rfl <| ffl 4 [_, _, _, _, (g3, Ce 32 (#[.slice (⟨some ⟨g6, 0, none⟩, C1⟩ : Hd).A m.words.length (⟨some ⟨g6, 0, none⟩, C1⟩ : Hd).c, .slice b.A m.boxes.length b.c])), _, _] bN rfl rfl <| lp (pas rfl) rfl <| nt <| aF <| aG _ (res2 rfl (aO 4 2 bI rfl rfl rfl) (aD rfl)) (fun W k => ?_)
  exact ⟨⟨some ⟨g6, 0, none⟩, C1⟩, by rw [mc_set] <;> rfl, by rw [Mem.set_len]; exact (k.pub 1 rfl _ C1 _ hc1 (pre_set hp1 _ _ (by simp; omega) (by simp [Mem.set]))).kn.here.1.weak, k.below⟩
def casM (m : Mem) (i old v : Int) : Mem := if m.get i = old then m.set i v else m
theorem mcas_is (L : Nat → Prop) (m : Mem) (a b : Hd) (i : Int) (old v : Int) (w : World) (cx : Cx L w) (h : RS L a m.words.length (m.words.map I) w) (hb : RB L b m.boxes w) (h0 : 0 ≤ i) (h1 : i < m.words.length) (hm : m.words.length ≤ 100000) : Calls Tryz.prog 95 [.agg (mc m a b), I i, I old, I v].toArray w (fun e w' => ∃ a' : Hd, e = .returned (.tuple [.agg (mc (casM m i old v) a' b), .bool (decide (m.get i = old)), I 0].toArray) ∧ RS L a' (casM m i old v).words.length ((casM m i old v).words.map I) w' ∧ Below w.heap.size w w') := by
  refine ent 27 Tryz.func95 rfl (Kb.start cx (Kn.and h.kn0 hb.kn0)) <| sr <| lx rfl <| fba rfl fun g1 => ?_
  refine lx rfl <| bC (#[I old]) rfl rfl rfl rfl rfl fun g2 => ?_
  refine lx rfl <| bC (#[I v]) rfl rfl rfl rfl rfl fun g3 => ?_
  refine lx rfl <| fal bF rfl fun g4 => ?_
  refine lp (pas rfl) rfl <| lp (pas rfl) rfl <| nt <| sr <| lr (ral 3 bI rfl) rfl <| lp (pmv rfl) rfl <| lp (cE rfl rfl rfl) rfl <| lx rfl <| fin lN rfl (fun W k => ?_)
  refine ent 45 Tryz.func103 rfl k <| sr <| lx rfl <| fba rfl fun g5 => ?_
  refine lx rfl <| fal bF rfl fun g6 => ?_
  refine lp (pas rfl) rfl <| lp (pas rfl) rfl <| lp (pas rfl) rfl <| nt <| sr <| lp (pfa cQ 0 rfl) rfl <| lr (rce 1 (.slice a.A m.words.length a.c) bX rfl) rfl <| lp (pmv rfl) rfl <| lx rfl <| fcv lM rfl (fun W k => at43 i k.kn.here.1 h0 h1) <| lp (pmv rfl) rfl <| lp (pex rfl) rfl <| lp (pex rfl) rfl <| lp (pas rfl) rfl <| lp (pas rfl) rfl <| nt <| aE <| sr <| lp (pmv rfl) rfl <| lp (pne rfl) rfl <| nt <| aM rfl (congrArg not rfl) <| aI <| aC <| sr <| lp (pmv rfl) rfl <| lp (pmv rfl) rfl <| lx rfl <| cB [I (m.words.getD (i).toNat 0)] qX rfl rfl rfl rfl rfl [I (m.words.getD (i).toNat 0), .pointer (some ⟨g3, 0, none⟩), .pointer (some ⟨g2, 0, none⟩)] rfl (fun W k => ?_)
  refine ent 10 Tryz.func119 rfl k <| sr <| lp (pas rfl) rfl <| lp (pas rfl) rfl <| nt <| aE <| dst [] <| dp 1 rfl (pmv rfl) <| dr 0 rfl (fun _ h => h) (rce 3 (I v) aJ rfl) <| dp 4 rfl (pas rfl) <| dr 2 rfl (fun _ h => h) (rce 4 (I old) aJ rfl) <| dp 3 rfl (peq rfl) <| dp 5 rfl (pas rfl) <| dd <| aC <| aF <| aG _ (res2 rfl (aD rfl) (aD rfl)) (fun W k => ?_)
  refine nx k <| lp (pmv rfl) rfl <| lp (pex rfl) rfl <| lp (pex rfl) rfl <| lp (pas rfl) rfl <| lp (pas rfl) rfl <| nt <| aE <| sr <| lp (pmv rfl) rfl <| nt ?_
  by_cases c1 : m.words.getD (i).toNat 0 = old
  refine aQ rfl (aA c1) <| sr <| lp (pfa cQ 0 rfl) rfl <| lr (rce 1 (.slice a.A m.words.length a.c) bX rfl) rfl <| lx rfl <| fca kZ rfl (fun W k => cl37 k.kn.here.1 (by omega) (by omega)) ?_
  rintro _ _ W2 k ⟨g7, C1, cur1, rfl, hg1, hk1, hc1, hp1, hb1⟩
  refine nx (k.adopt hb1 (g7, Ce 3 cur1) hg1 hk1) <| lp (pfa cQ 0 rfl) rfl <| lx rfl <| fst 2 [_, _, (g5, Ce 32 (#[.slice (⟨some ⟨g7, 0, none⟩, C1⟩ : Hd).A m.words.length (⟨some ⟨g7, 0, none⟩, C1⟩ : Hd).c, .slice b.A m.boxes.length b.c])), _, _, _, _] jH rfl rfl <| nt <| aU <| lp (pfa cQ 0 rfl) rfl <| lr (rce 2 (.slice (⟨some ⟨g7, 0, none⟩, C1⟩ : Hd).A m.words.length (⟨some ⟨g7, 0, none⟩, C1⟩ : Hd).c) bX rfl) rfl <| lp (pmv rfl) rfl <| lp (pmv rfl) rfl <| lp (pix fW rfl rfl h0 h1) rfl <| lx rfl <| dM 0 [(g7, Ce 3 (cur1.setIfInBounds (0 + (i).toNat * 1) (I v))), _, _, _, _, _, _] rfl rfl rfl rfl rfl cG rfl (pre_lt hp1 (by simp; omega)) rfl <| nt <| sr <| lr (ral 2 bI rfl) rfl <| lp (pmv rfl) rfl <| lp (pmv rfl) rfl <| lp (pmv rfl) rfl <| lx rfl <| ffl 1 [_, (g6, Ce 32 (#[.slice (⟨some ⟨g7, 0, none⟩, C1⟩ : Hd).A m.words.length (⟨some ⟨g7, 0, none⟩, C1⟩ : Hd).c, .slice b.A m.boxes.length b.c])), _, _, _, _, _] bN rfl rfl <| lp (pas rfl) rfl <| lp (pas rfl) rfl <| lp (pas rfl) rfl <| nt <| aF <| aG _ (res4 rfl (aO 1 2 bI rfl rfl rfl) (aD rfl) (aD rfl) (aD rfl)) (fun W k => ?_)
  refine nx k <| lp (pmv rfl) rfl <| lp (pex rfl) rfl <| lp (pex rfl) rfl <| lp (pex rfl) rfl <| lp (pex rfl) rfl <| lx rfl <| fal bF rfl fun g8 => ?_
  refine lx rfl <| ffl 0 [(g8, Ce 32 (#[.slice (⟨some ⟨g7, 0, none⟩, C1⟩ : Hd).A m.words.length (⟨some ⟨g7, 0, none⟩, C1⟩ : Hd).c, .slice b.A m.boxes.length b.c])), _, _, _, _, _, _, _] bN rfl rfl <| lp (pas rfl) rfl <| lp (pas rfl) rfl <| lp (pas rfl) rfl <| nt <| sr <| lr (ral 0 bI rfl) rfl <| lp (pmv rfl) rfl <| lp (pmv rfl) rfl <| lx rfl <| ffl 4 [_, _, _, _, (g4, Ce 32 (#[.slice (⟨some ⟨g7, 0, none⟩, C1⟩ : Hd).A m.words.length (⟨some ⟨g7, 0, none⟩, C1⟩ : Hd).c, .slice b.A m.boxes.length b.c])), _, _, _] bN rfl rfl <| lp (pas rfl) rfl <| lp (pas rfl) rfl <| nt <| aF <| aG _ (res3 rfl (aO 4 2 bI rfl rfl rfl) (aD rfl) (aD rfl)) (fun W k => ?_)
  exact ⟨⟨some ⟨g7, 0, none⟩, C1⟩, by rw [show casM m i old v = m.set i v from if_pos c1, mc_set] <;> rfl, by rw [show casM m i old v = m.set i v from if_pos c1]; simp only [Mem.set_len]; exact (k.pub 1 rfl _ C1 _ hc1 (pre_set hp1 _ _ (by simp; omega) (by simp [Mem.set]))).kn.here.1.weak, k.below⟩
  refine aM rfl (aB c1) <| aI <| aC <| sr <| lr (ral 1 bI rfl) rfl <| lp (pmv rfl) rfl <| lp (pmv rfl) rfl <| lp (pmv rfl) rfl <| lx rfl <| ffl 0 [(g6, Ce 32 (mc m a b)), _, _, _, _, _] bN rfl rfl <| lp (pas rfl) rfl <| lp (pas rfl) rfl <| lp (pas rfl) rfl <| nt <| aF <| aG _ (res4 rfl (aO 0 2 bI rfl rfl rfl) (aD rfl) (aD rfl) (aD rfl)) (fun W k => ?_)
  refine nx k <| lp (pmv rfl) rfl <| lp (pex rfl) rfl <| lp (pex rfl) rfl <| lp (pex rfl) rfl <| lp (pex rfl) rfl <| lx rfl <| fal bF rfl fun g9 => ?_
  refine lx rfl <| ffl 0 [(g9, Ce 32 (mc m a b)), _, _, _, _, _, _] bN rfl rfl <| lp (pas rfl) rfl <| lp (pas rfl) rfl <| lp (pas rfl) rfl <| nt <| sr <| lr (ral 0 bI rfl) rfl <| lp (pmv rfl) rfl <| lp (pmv rfl) rfl <| lx rfl <| ffl 3 [_, _, _, (g4, Ce 32 (mc m a b)), _, _, _] bN rfl rfl <| lp (pas rfl) rfl <| lp (pas rfl) rfl <| nt <| aF <| aG _ (res3 rfl (aO 3 2 bI rfl rfl rfl) (aD rfl) (aD rfl)) (fun W k => ?_)
  exact ⟨a, by rw [show casM m i old v = m from if_neg c1]; rfl, by rw [show casM m i old v = m from if_neg c1]; exact k.kn.here.1.weak, k.below⟩
theorem mswap_is (L : Nat → Prop) (m : Mem) (a b : Hd) (i : Int) (v : Int) (w : World) (cx : Cx L w) (h : RS L a m.words.length (m.words.map I) w) (hb : RB L b m.boxes w) (h0 : 0 ≤ i) (h1 : i < m.words.length) (hm : m.words.length ≤ 100000) : Calls Tryz.prog 147 [.agg (mc m a b), I i, I v].toArray w (fun e w' => ∃ a' : Hd, e = .returned (.tuple [.agg (mc (m.set i v) a' b), I (m.get i), I 0].toArray) ∧ RS L a' (m.set i v).words.length ((m.set i v).words.map I) w' ∧ Below w.heap.size w w') := by
  refine ent 25 Tryz.func147 rfl (Kb.start cx (Kn.and h.kn0 hb.kn0)) <| sr <| lx rfl <| fba rfl fun g1 => ?_
  refine lx rfl <| bC (#[I v]) rfl rfl rfl rfl rfl fun g2 => ?_
  refine lx rfl <| fal bF rfl fun g3 => ?_
  refine lp (pas rfl) rfl <| lp (pas rfl) rfl <| nt <| sr <| lr (ral 2 bI rfl) rfl <| lp (pmv rfl) rfl <| lp (cE rfl rfl rfl) rfl <| lx rfl <| fin lN rfl (fun W k => ?_)
  refine ent 45 Tryz.func103 rfl k <| sr <| lx rfl <| fba rfl fun g4 => ?_
  refine lx rfl <| fal bF rfl fun g5 => ?_
  refine lp (pas rfl) rfl <| lp (pas rfl) rfl <| lp (pas rfl) rfl <| nt <| sr <| lp (pfa cQ 0 rfl) rfl <| lr (rce 1 (.slice a.A m.words.length a.c) bX rfl) rfl <| lp (pmv rfl) rfl <| lx rfl <| fcv lM rfl (fun W k => at43 i k.kn.here.1 h0 h1) <| lp (pmv rfl) rfl <| lp (pex rfl) rfl <| lp (pex rfl) rfl <| lp (pas rfl) rfl <| lp (pas rfl) rfl <| nt <| aE <| sr <| lp (pmv rfl) rfl <| lp (pne rfl) rfl <| nt <| aM rfl (congrArg not rfl) <| aI <| aC <| sr <| lp (pmv rfl) rfl <| lp (pmv rfl) rfl <| lx rfl <| cB [I (m.words.getD (i).toNat 0)] qY rfl rfl rfl rfl rfl [I (m.words.getD (i).toNat 0), .pointer (some ⟨g2, 0, none⟩)] rfl (fun W k => ?_)
  refine ent 6 Tryz.func156 rfl k <| sr <| lp (pas rfl) rfl <| lp (pas rfl) rfl <| nt <| sr <| lr (rce 3 (I v) aJ rfl) rfl <| lp (pas rfl) rfl <| lp (pas rfl) rfl <| nt <| aF <| aG _ (res2 rfl (aD rfl) (aD rfl)) (fun W k => ?_)
  refine nx k <| lp (pmv rfl) rfl <| lp (pex rfl) rfl <| lp (pex rfl) rfl <| lp (pas rfl) rfl <| lp (pas rfl) rfl <| nt <| aE <| sr <| lp (pmv rfl) rfl <| nt <| aQ rfl rfl <| sr <| lp (pfa cQ 0 rfl) rfl <| lr (rce 1 (.slice a.A m.words.length a.c) bX rfl) rfl <| lx rfl <| fca kZ rfl (fun W k => cl37 k.kn.here.1 (by omega) (by omega)) ?_
  rintro _ _ W2 k ⟨g6, C1, cur1, rfl, hg1, hk1, hc1, hp1, hb1⟩
  refine nx (k.adopt hb1 (g6, Ce 3 cur1) hg1 hk1) <| lp (pfa cQ 0 rfl) rfl <| lx rfl <| fst 2 [_, _, (g4, Ce 32 (#[.slice (⟨some ⟨g6, 0, none⟩, C1⟩ : Hd).A m.words.length (⟨some ⟨g6, 0, none⟩, C1⟩ : Hd).c, .slice b.A m.boxes.length b.c])), _, _, _] jH rfl rfl <| nt <| aU <| lp (pfa cQ 0 rfl) rfl <| lr (rce 2 (.slice (⟨some ⟨g6, 0, none⟩, C1⟩ : Hd).A m.words.length (⟨some ⟨g6, 0, none⟩, C1⟩ : Hd).c) bX rfl) rfl <| lp (pmv rfl) rfl <| lp (pmv rfl) rfl <| lp (pix fW rfl rfl h0 h1) rfl <| lx rfl <| dM 0 [(g6, Ce 3 (cur1.setIfInBounds (0 + (i).toNat * 1) (I v))), _, _, _, _, _] rfl rfl rfl rfl rfl cG rfl (pre_lt hp1 (by simp; omega)) rfl <| nt <| sr <| lr (ral 2 bI rfl) rfl <| lp (pmv rfl) rfl <| lp (pmv rfl) rfl <| lp (pmv rfl) rfl <| lx rfl <| ffl 1 [_, (g5, Ce 32 (#[.slice (⟨some ⟨g6, 0, none⟩, C1⟩ : Hd).A m.words.length (⟨some ⟨g6, 0, none⟩, C1⟩ : Hd).c, .slice b.A m.boxes.length b.c])), _, _, _, _] bN rfl rfl <| lp (pas rfl) rfl <| lp (pas rfl) rfl <| lp (pas rfl) rfl <| nt <| aF <| aG _ (res4 rfl (aO 1 2 bI rfl rfl rfl) (aD rfl) (aD rfl) (aD rfl)) (fun W k => ?_)
  refine nx k <| lp (pmv rfl) rfl <| lp (pex rfl) rfl <| lp (pex rfl) rfl <| lp (pex rfl) rfl <| lp (pex rfl) rfl <| lx rfl <| fal bF rfl fun g7 => ?_
  refine lx rfl <| ffl 0 [(g7, Ce 32 (#[.slice (⟨some ⟨g6, 0, none⟩, C1⟩ : Hd).A m.words.length (⟨some ⟨g6, 0, none⟩, C1⟩ : Hd).c, .slice b.A m.boxes.length b.c])), _, _, _, _, _, _] bN rfl rfl <| lp (pas rfl) rfl <| lp (pas rfl) rfl <| lp (pas rfl) rfl <| nt <| sr <| lr (ral 0 bI rfl) rfl <| lp (pmv rfl) rfl <| lp (pmv rfl) rfl <| lx rfl <| ffl 4 [_, _, _, _, (g3, Ce 32 (#[.slice (⟨some ⟨g6, 0, none⟩, C1⟩ : Hd).A m.words.length (⟨some ⟨g6, 0, none⟩, C1⟩ : Hd).c, .slice b.A m.boxes.length b.c])), _, _] bN rfl rfl <| lp (pas rfl) rfl <| lp (pas rfl) rfl <| nt <| aF <| aG _ (res3 rfl (aO 4 2 bI rfl rfl rfl) (aD rfl) (aD rfl)) (fun W k => ?_)
  exact ⟨⟨some ⟨g6, 0, none⟩, C1⟩, by rw [mc_set] <;> rfl, by rw [Mem.set_len]; exact (k.pub 1 rfl _ C1 _ hc1 (pre_set hp1 _ _ (by simp; omega) (by simp [Mem.set]))).kn.here.1.weak, k.below⟩
theorem at151 {L : Nat → Prop} {b : Hd} {hs : List Hd} {bs : List (List En)} (i : Int) {w : World} (cx : Cx L w) (h : RS L b bs.length (bcs hs bs) w) (hl : hs.length = bs.length) (h0 : 0 ≤ i) (h1 : i < bs.length) : Calls Tryz.prog 151 [.slice b.A bs.length b.c, I i].toArray w (fun e w' => e = .returned (.tuple [.slice (hs.getD i.toNat hd0).A (bs.getD i.toNat []).length (hs.getD i.toNat hd0).c, I 0].toArray) ∧ Below w.heap.size w w') := by
  refine ent 19 Tryz.func151 rfl (Kb.start cx h.kn0) <| sr <| lp (pas rfl) rfl <| lp (pas rfl) rfl <| nt <| aE <| sr <| lp (pmv rfl) rfl <| lp (pls rfl) rfl <| lp (pmv rfl) rfl <| gp (wi rfl (aB (by omega)) rfl) (pmv rfl) rfl <| gp (wi rfl (aB (by omega)) rfl) (pmv rfl) rfl <| gp (wi rfl (aB (by omega)) rfl) (pln lO rfl) rfl <| gp (wi rfl (aB (by omega)) rfl) (pge rfl) rfl <| lp (ppf (aB (by omega)) rfl) rfl <| nt <| aM rfl (aB (by omega)) <| aI <| aC <| sr <| lp (pmv rfl) rfl <| lp (pmv rfl) rfl <| bP (fun W k => RS.addr k.kn.here (by rw [bcs_len hs bs hl]; omega)) ?_
  rintro ⟨B1, p1, hA1⟩
  refine lp (pix lA rfl hA1 h0 h1) rfl <| lr (cA (.slice (hs.getD (i).toNat hd0).A ((bs.getD (i).toNat []).length) (hs.getD (i).toNat hd0).c) cW rfl rfl (fun W k => RS.one k.kn.here hA1 _ (bcs_at hs bs hl _ h0 h1))) rfl <| lp (pas rfl) rfl <| lp (pas rfl) rfl <| nt <| aF <| aG _ (res2 rfl (aD rfl) (aD rfl)) (fun W k => ?_)
  exact ⟨congrArg Ending.returned rfl, k.below⟩
theorem mbox_is (L : Nat → Prop) (m : Mem) (a b : Hd) (i : Int) (w : World) (cx : Cx L w) (hb : RB L b m.boxes w) (h0 : 0 ≤ i) (h1 : i < m.boxes.length) (hm : m.boxes.length ≤ 100000) (hlen : (m.box i).length ≤ 100000) : Calls Tryz.prog 141 [.agg (mc m a b), I i].toArray w (fun e w' => ∃ hd : Hd, e = .returned (.tuple [.slice hd.A (m.box i).length hd.c, I 0].toArray) ∧ RS L hd (m.box i).length (ecs (m.box i)) w' ∧ Below w.heap.size w w') := by
  obtain ⟨hs, hl, hr, hi⟩ := hb
  refine ent 18 Tryz.func141 rfl (Kb.start cx (Kn.and hr.kn0 (RI.kn0 hi))) <| sr <| lx rfl <| fba rfl fun g1 => ?_
  refine lp (pas rfl) rfl <| lp (pas rfl) rfl <| nt <| sr <| lp (pfa gP 1 rfl) rfl <| lr (rce 0 (.slice b.A m.boxes.length b.c) iI rfl) rfl <| lp (pmv rfl) rfl <| lx rfl <| fcv oK rfl (fun W k => at151 i k.cx k.kn.here.1 hl h0 h1) <| lp (pmv rfl) rfl <| lp (pex rfl) rfl <| lp (pex rfl) rfl <| lp (pas rfl) rfl <| lp (pas rfl) rfl <| nt <| sr <| lp (pmv rfl) rfl <| lx rfl <| fca lP rfl (fun W k => cr133 k.cx (k.kn.here.2 i.toNat (by omega)) hlen) ?_
  rintro _ _ W2 k ⟨z1, rfl, hr1, hb1⟩
  refine nx ((k.call hb1).and hr1.kn) <| lp (pmv rfl) rfl <| lp (pas rfl) rfl <| lp (pas rfl) rfl <| nt <| aF <| aG _ (res2 rfl (aD rfl) (aD rfl)) (fun W k => ?_)
  exact ⟨z1, rfl, k.kn.here.1.weak, k.below⟩
theorem mc_put (m : Mem) (i : Int) (x : List En) (a b : Hd) : mc (m.put i x) a b = #[.slice a.A m.words.length a.c, .slice b.A m.boxes.length b.c] := by unfold mc; rw [Mem.put_len]; rfl
theorem mput_is (L : Nat → Prop) (m : Mem) (a b : Hd) (i : Int) (w : World) (cx : Cx L w) (hb : RB L b m.boxes w) (h0 : 0 ≤ i) (h1 : i < m.boxes.length) (hm : m.boxes.length ≤ 100000) (xs : List En) (x : Hd) (hx : RS L x xs.length (ecs xs) w) (hlen : xs.length ≤ 100000) : Calls Tryz.prog 144 [.agg (mc m a b), I i, .slice x.A xs.length x.c].toArray w (fun e w' => ∃ b' : Hd, e = .returned (.tuple [.agg (mc (m.put i xs) a b'), I 0].toArray) ∧ RB L b' (m.put i xs).boxes w' ∧ Below w.heap.size w w') := by
  obtain ⟨hs, hl, hr, hi⟩ := hb
  refine ent 32 Tryz.func144 rfl (Kb.start cx (Kn.and hx.kn0 (Kn.and hr.kn0 (RI.kn0 hi)))) <| sr <| lx rfl <| fba rfl fun g1 => ?_
  refine lx rfl <| fal bF rfl fun g2 => ?_
  refine lp (pas rfl) rfl <| nt <| aE <| sr <| lp (pfa gP 1 rfl) rfl <| lr (rce 1 (.slice b.A m.boxes.length b.c) iI rfl) rfl <| lp (pmv rfl) rfl <| lx rfl <| fcv oK rfl (fun W k => at151 i k.cx k.kn.here.2.1 hl h0 h1) <| lp (pmv rfl) rfl <| lp (pex rfl) rfl <| lp (pex rfl) rfl <| lp (pas rfl) rfl <| lp (pas rfl) rfl <| nt <| sr <| lp (pmv rfl) rfl <| lp (pne rfl) rfl <| nt <| aM rfl (congrArg not rfl) <| aI <| aC <| sr <| lp (pfa gP 1 rfl) rfl <| lr (rce 1 (.slice b.A m.boxes.length b.c) iI rfl) rfl <| lx rfl <| fca qZ rfl (fun W k => cl154 k.kn.here.2.1 hl (by omega) (by omega)) ?_
  rintro _ _ W2 k ⟨g3, C1, cur1, rfl, hg1, hk1, hc1, hp1, hb1⟩
  refine nx (k.adopt hb1 (g3, Ce 81 cur1) hg1 hk1) <| lp (pfa gP 1 rfl) rfl <| lx rfl <| fst 2 [_, _, (g1, Ce 32 (#[.slice a.A m.words.length a.c, .slice (⟨some ⟨g3, 0, none⟩, C1⟩ : Hd).A m.boxes.length (⟨some ⟨g3, 0, none⟩, C1⟩ : Hd).c]))] sz30 rfl rfl <| nt <| aE <| dst [6] <| dp 0 rfl (pfa gP 1 rfl) <| dp 2 rfl (pmv rfl) <| dp 3 rfl (pmv rfl) <| dr 1 rfl (fun _ h => h) (rce 2 (.slice (⟨some ⟨g3, 0, none⟩, C1⟩ : Hd).A m.boxes.length (⟨some ⟨g3, 0, none⟩, C1⟩ : Hd).c) iI rfl) <| dx 4 rfl <| fca lP rfl (fun W k => cr133 k.cx k.kn.here.1 hlen) ?_
  rintro _ _ W3 k ⟨z1, rfl, hr1, hb2⟩
  refine nx ((k.call hb2).and hr1.kn) (aH (fun _ h => h.drop) ?_)
  refine dp 5 rfl (pix lA rfl rfl h0 h1) <| dl 6 rfl <| dM 0 [(g3, Ce 81 (cur1.setIfInBounds (0 + (i).toNat * 1) (.slice z1.A xs.length z1.c))), _, _] rfl rfl rfl rfl rfl nO rfl (pre_lt hp1 (by rw [bcs_len hs m.boxes hl]; omega)) rfl <| dd <| aC <| sr <| lr (ral 2 bI rfl) rfl <| lx rfl <| ffl 1 [_, (g2, Ce 32 (#[.slice a.A m.words.length a.c, .slice (⟨some ⟨g3, 0, none⟩, C1⟩ : Hd).A m.boxes.length (⟨some ⟨g3, 0, none⟩, C1⟩ : Hd).c])), _] bN rfl rfl <| lp (pas rfl) rfl <| nt <| aF <| aG _ (res2 rfl (aO 1 2 bI rfl rfl rfl) (aD rfl)) (fun W k => ?_)
  refine ⟨⟨some ⟨g3, 0, none⟩, C1⟩, by rw [mc_put] <;> rfl, ?_, k.below⟩
  have hq := (k.pub 0 rfl _ C1 _ hc1 (pre_set hp1 _ _ (by rw [bcs_len hs m.boxes hl]; omega) rfl)).kn.here.1.weak
  rw [Nat.zero_add, Nat.mul_one, bcs_set hs m.boxes hl] at hq
  exact RB.put i.toNat _ (by simp) hl hq (RI.weak k.kn.here.2.2.2) k.kn.here.1.weak
theorem gQ : foB Tryz.prog 29 0 0 = true := by kernel_rfl
theorem cX : foB Tryz.prog 29 1 1 = true := by kernel_rfl
theorem fn61 : fnB Tryz.prog 61 = true := by kernel_rfl
theorem oL : fnB Tryz.prog 132 = true := by kernel_rfl
theorem oM : fnB Tryz.prog 149 = true := by kernel_rfl
theorem fF : slB Tryz.prog 81 = true := by kernel_rfl
theorem lB : elB Tryz.prog 81 3 = true := by kernel_rfl
theorem jP : rowB Tryz.prog 141 3 = true := by kernel_rfl
theorem iJ : zeroB Tryz.prog 141 (#[I 0, I 0, I 0]) := by unfold zeroB; kernel_rfl
theorem lQ : szB Tryz.prog 141 3 = true := by kernel_rfl
theorem iK : foB Tryz.prog 141 1 1 = true := by kernel_rfl
theorem dP : rowB Tryz.prog 29 2 = true := by kernel_rfl
theorem lR : fnB Tryz.prog 42 = true := by kernel_rfl
theorem beyond_is (L : Nat → Prop) (x v lo hi : Int) (w : World) (cx : Cx L w) : Calls Tryz.prog 61 [I x, I v, I lo, I hi].toArray w (fun e w' => e = .returned (.bool (beyondS x v lo hi)) ∧ Below w.heap.size w w') := by
  refine ent 37 Tryz.func61 rfl (Kb.start cx (Kn.top _ _)) <| sr <| lp (pas rfl) rfl <| nt <| aE <| sr <| lp (pmv rfl) rfl <| lp (pmv rfl) rfl <| lp (pad (wrap64 (x + v)) rfl rfl) rfl <| lp (pas rfl) rfl <| nt <| sr <| lp (pmv rfl) rfl <| lp (pge rfl) rfl <| lp (pmv rfl) rfl ?_
  by_cases c1 : 0 ≤ v
  refine gp (wi rfl (aA c1) rfl) (pmv rfl) rfl <| gp (wi rfl (aA c1) rfl) (pmv rfl) rfl <| gp (wi rfl (aA c1) rfl) (pge rfl) rfl <| lp (ppt (aA c1) rfl) rfl <| lp (pmv rfl) rfl ?_
  by_cases c2 : x ≤ wrap64 (x + v)
  refine gof (wi rfl (aA c2) rfl) rfl <| gof (wi rfl (aA c2) rfl) rfl <| gof (wi rfl (aA c2) rfl) rfl <| gof (wn_u rfl rfl rfl rfl) rfl <| gof (wn_u rfl rfl rfl rfl) rfl <| gof (wn_u rfl rfl rfl rfl) rfl <| gof (wi rfl (aA c2) rfl) rfl <| lp (ppt (aA c2) rfl) rfl <| nt <| aQ rfl rfl <| sr <| lp (pmv rfl) rfl <| lp (pmv rfl) rfl <| lp (pls rfl) rfl <| lp (pmv rfl) rfl ?_
  by_cases c3 : wrap64 (x + v) < lo
  refine gof (wi rfl (aA c3) rfl) rfl <| gof (wi rfl (aA c3) rfl) rfl <| gof (wi rfl (aA c3) rfl) rfl <| lp (ppt (aA c3) rfl) rfl <| lp (pas rfl) rfl <| nt <| aF (aS ?_)
  refine aG _ (res1 rfl (aD rfl)) (fun W k => ?_)
  first | (exfalso; omega) | exact ⟨congrArg Ending.returned (congrArg Value.bool (by unfold beyondS; first | (rw [if_pos (by omega)]; simp [c1, c2, c3]) | (rw [if_neg (by omega)]))), k.below⟩
  refine gp (wi rfl (aB c3) rfl) (pmv rfl) rfl <| gp (wi rfl (aB c3) rfl) (pmv rfl) rfl <| gp (wi rfl (aB c3) rfl) (pgt rfl) rfl <| lp (ppf (aB c3) rfl) rfl <| lp (pas rfl) rfl <| nt <| aF (aS ?_)
  refine aG _ (res1 rfl (aD rfl)) (fun W k => ?_)
  first | (exfalso; omega) | exact ⟨congrArg Ending.returned (congrArg Value.bool (by unfold beyondS; first | (rw [if_pos (by omega)]; simp [c1, c2, c3]) | (rw [if_neg (by omega)]))), k.below⟩
  refine gp (wi rfl (aB c2) rfl) (pmv rfl) rfl <| gp (wi rfl (aB c2) rfl) (pls rfl) rfl <| gp (wi rfl (aB c2) rfl) (pmv rfl) rfl ?_
  by_cases c4 : v < 0
  refine gp (wi rfl (aA c4) rfl) (pmv rfl) rfl <| gp (wi rfl (aA c4) rfl) (pmv rfl) rfl <| gp (wi rfl (aA c4) rfl) (pls rfl) rfl <| gp (wi rfl (aB c2) rfl) (ppt (aA c4) rfl) rfl <| lp (ppf (aB c2) rfl) rfl <| nt ?_
  by_cases c5 : wrap64 (x + v) < x
  refine aQ rfl (aA c5) <| sr <| lp (pmv rfl) rfl <| lp (pmv rfl) rfl <| lp (pls rfl) rfl <| lp (pmv rfl) rfl ?_
  by_cases c6 : wrap64 (x + v) < lo
  refine gof (wi rfl (aA c6) rfl) rfl <| gof (wi rfl (aA c6) rfl) rfl <| gof (wi rfl (aA c6) rfl) rfl <| lp (ppt (aA c6) rfl) rfl <| lp (pas rfl) rfl <| nt <| aF (aS ?_)
  refine aG _ (res1 rfl (aD rfl)) (fun W k => ?_)
  first | (exfalso; omega) | exact ⟨congrArg Ending.returned (congrArg Value.bool (by unfold beyondS; first | (rw [if_pos (by omega)]; simp [c1, c2, c4, c5, c6]) | (rw [if_neg (by omega)]))), k.below⟩
  refine gp (wi rfl (aB c6) rfl) (pmv rfl) rfl <| gp (wi rfl (aB c6) rfl) (pmv rfl) rfl <| gp (wi rfl (aB c6) rfl) (pgt rfl) rfl <| lp (ppf (aB c6) rfl) rfl <| lp (pas rfl) rfl <| nt <| aF (aS ?_)
  refine aG _ (res1 rfl (aD rfl)) (fun W k => ?_)
  first | (exfalso; omega) | exact ⟨congrArg Ending.returned (congrArg Value.bool (by unfold beyondS; first | (rw [if_pos (by omega)]; simp [c1, c2, c4, c5, c6]) | (rw [if_neg (by omega)]))), k.below⟩
  refine aM rfl (aB c5) <| aI <| aC <| sr <| lp (pas rfl) rfl <| nt <| aF <| aG _ (res1 rfl (aD rfl)) (fun W k => ?_)
  first | (exfalso; omega) | exact ⟨congrArg Ending.returned (congrArg Value.bool (by unfold beyondS; first | (rw [if_pos (by omega)]; simp [c1, c2, c4, c5]) | (rw [if_neg (by omega)]))), k.below⟩
  refine gof (wi rfl (aB c4) rfl) rfl <| gof (wi rfl (aB c4) rfl) rfl <| gof (wi rfl (aB c4) rfl) rfl <| gp (wi rfl (aB c2) rfl) (ppf (aB c4) rfl) rfl <| lp (ppf (aB c2) rfl) rfl <| nt <| aM rfl rfl <| aI <| aC <| sr <| lp (pas rfl) rfl <| nt <| aF <| aG _ (res1 rfl (aD rfl)) (fun W k => ?_)
  first | (exfalso; omega) | exact ⟨congrArg Ending.returned (congrArg Value.bool (by unfold beyondS; first | (rw [if_pos (by omega)]; simp [c1, c2, c4]) | (rw [if_neg (by omega)]))), k.below⟩
  refine gof (wi rfl (aB c1) rfl) rfl <| gof (wi rfl (aB c1) rfl) rfl <| gof (wi rfl (aB c1) rfl) rfl <| lp (ppf (aB c1) rfl) rfl <| lp (pmv rfl) rfl <| gp (wi rfl rfl rfl) (pmv rfl) rfl <| gp (wi rfl rfl rfl) (pls rfl) rfl <| gp (wi rfl rfl rfl) (pmv rfl) rfl ?_
  by_cases c7 : v < 0
  refine gp (wi rfl (aA c7) rfl) (pmv rfl) rfl <| gp (wi rfl (aA c7) rfl) (pmv rfl) rfl <| gp (wi rfl (aA c7) rfl) (pls rfl) rfl <| gp (wi rfl rfl rfl) (ppt (aA c7) rfl) rfl <| lp (ppf rfl rfl) rfl <| nt ?_
  by_cases c8 : wrap64 (x + v) < x
  refine aQ rfl (aA c8) <| sr <| lp (pmv rfl) rfl <| lp (pmv rfl) rfl <| lp (pls rfl) rfl <| lp (pmv rfl) rfl ?_
  by_cases c9 : wrap64 (x + v) < lo
  refine gof (wi rfl (aA c9) rfl) rfl <| gof (wi rfl (aA c9) rfl) rfl <| gof (wi rfl (aA c9) rfl) rfl <| lp (ppt (aA c9) rfl) rfl <| lp (pas rfl) rfl <| nt <| aF (aS ?_)
  refine aG _ (res1 rfl (aD rfl)) (fun W k => ?_)
  first | (exfalso; omega) | exact ⟨congrArg Ending.returned (congrArg Value.bool (by unfold beyondS; first | (rw [if_pos (by omega)]; simp [c1, c7, c8, c9]) | (rw [if_neg (by omega)]))), k.below⟩
  refine gp (wi rfl (aB c9) rfl) (pmv rfl) rfl <| gp (wi rfl (aB c9) rfl) (pmv rfl) rfl <| gp (wi rfl (aB c9) rfl) (pgt rfl) rfl <| lp (ppf (aB c9) rfl) rfl <| lp (pas rfl) rfl <| nt <| aF (aS ?_)
  refine aG _ (res1 rfl (aD rfl)) (fun W k => ?_)
  first | (exfalso; omega) | exact ⟨congrArg Ending.returned (congrArg Value.bool (by unfold beyondS; first | (rw [if_pos (by omega)]; simp [c1, c7, c8, c9]) | (rw [if_neg (by omega)]))), k.below⟩
  refine aM rfl (aB c8) <| aI <| aC <| sr <| lp (pas rfl) rfl <| nt <| aF <| aG _ (res1 rfl (aD rfl)) (fun W k => ?_)
  first | (exfalso; omega) | exact ⟨congrArg Ending.returned (congrArg Value.bool (by unfold beyondS; first | (rw [if_pos (by omega)]; simp [c1, c7, c8]) | (rw [if_neg (by omega)]))), k.below⟩
  refine gof (wi rfl (aB c7) rfl) rfl <| gof (wi rfl (aB c7) rfl) rfl <| gof (wi rfl (aB c7) rfl) rfl <| gp (wi rfl rfl rfl) (ppf (aB c7) rfl) rfl <| lp (ppf rfl rfl) rfl <| nt <| aM rfl rfl <| aI <| aC <| sr <| lp (pas rfl) rfl <| nt <| aF <| aG _ (res1 rfl (aD rfl)) (fun W k => ?_)
  first | (exfalso; omega) | exact ⟨congrArg Ending.returned (congrArg Value.bool (by unfold beyondS; first | (rw [if_pos (by omega)]; simp [c1, c7]) | (rw [if_neg (by omega)]))), k.below⟩
theorem apply_is (L : Nat → Prop) (tag v x lo hi : Int) (w : World) (cx : Cx L w) : Calls Tryz.prog 42 [.agg (#[I tag, I v]), I x, I lo, I hi].toArray w (fun e w' => e = .returned (.tuple [I (applyS tag v x lo hi).1, .bool (applyS tag v x lo hi).2].toArray) ∧ Below w.heap.size w w') := by
  refine ent 92 Tryz.func42 rfl (Kb.start cx (Kn.top _ _)) <| sr <| lx rfl <| bC (#[I tag, I v]) rfl rfl rfl rfl rfl fun g1 => ?_
  refine lp (pas rfl) rfl <| lp (pas rfl) rfl <| nt <| aE <| sr <| lp (pfa gQ 0 rfl) rfl <| lr (rce 0 (I tag) aJ rfl) rfl <| nt <| aP <| aE <| aP <| aE <| aP <| aE <| aP <| aE <| aP <| aE <| aP <| aE <| aP <| aE <| aP <| aE <| aP <| aE <| aP <| aE <| aE <| sr <| lp (peq rfl) rfl <| lp (pas rfl) rfl <| nt ?_
  by_cases c1 : tag = 2
  refine aQ rfl (aA c1) <| aX <| aK <| aK <| aY <| aC <| aU <| lp (pfa cX 1 rfl) rfl <| lr (rce 0 (I v) aJ rfl) rfl <| lp (qN (wrap64 (-v)) rfl rfl rfl) rfl <| lp (pfa cX 1 rfl) rfl <| lx rfl <| fst 0 [(g1, Ce 29 (#[I tag, I (wrap64 (-v))]))] cG rfl rfl <| bQ <| aW <| aC <| aE <| sr <| lp (pmv rfl) rfl <| lp (pfa cX 1 rfl) rfl <| lr (rce 0 (I (wrap64 (-v))) aJ rfl) rfl <| lp (pad (wrap64 (x + (wrap64 (-v)))) rfl rfl) rfl <| lp (pas rfl) rfl <| lp (pas rfl) rfl <| nt <| aF (aS (bD (aS (bD (aS (bD (aS (bD (aS (bD (aS (bD (aS (bD (aS (bD (aS ?_)))))))))))))))))
  refine aG _ (res2 rfl (aD rfl) (aD rfl)) (fun W k => ?_)
  exact ⟨by simp [applyS, c1], k.below⟩
  refine aM rfl (aB c1) <| aI <| aC <| aE <| sr <| lp (peq rfl) rfl <| lp (pas rfl) rfl <| nt ?_
  by_cases c2 : tag = 1
  refine aQ rfl (aA c2) <| aX <| aK <| aK <| aV rfl <| aK <| aY <| aC <| aE <| sr <| lp (pmv rfl) rfl <| lp (pfa cX 1 rfl) rfl <| lr (rce 0 (I v) aJ rfl) rfl <| lp (pad (wrap64 (x + v)) rfl rfl) rfl <| lp (pas rfl) rfl <| lp (pas rfl) rfl <| nt <| aF (aS (bD (aS (bD (aS (bD (aS (bD (aS (bD (aS (bD (aS (bD (aS (bD (aS ?_)))))))))))))))))
  refine aG _ (res2 rfl (aD rfl) (aD rfl)) (fun W k => ?_)
  exact ⟨by simp [applyS, c1, c2], k.below⟩
  refine aM rfl (aB c2) <| aI <| aC <| aE <| sr <| lp (peq rfl) rfl <| lp (pas rfl) rfl <| nt ?_
  by_cases c3 : tag = 3
  refine aQ rfl (aA c3) <| aX <| aK <| aK <| aV rfl <| aK <| aV rfl <| aK <| aY <| aC <| aE <| sr <| lp (pmv rfl) rfl <| lp (pfa cX 1 rfl) rfl <| lr (rce 0 (I v) aJ rfl) rfl <| lp (qM (orS x v) rfl rfl rfl rfl) rfl <| lp (pas rfl) rfl <| lp (pas rfl) rfl <| nt <| aF (aS (bD (aS (bD (aS (bD (aS (bD (aS (bD (aS (bD (aS (bD (aS ?_)))))))))))))))
  refine aG _ (res2 rfl (aD rfl) (aD rfl)) (fun W k => ?_)
  exact ⟨by simp [applyS, c1, c2, c3], k.below⟩
  refine aM rfl (aB c3) <| aI <| aC <| aE <| sr <| lp (peq rfl) rfl <| lp (pas rfl) rfl <| nt ?_
  by_cases c4 : tag = 4
  refine aQ rfl (aA c4) <| aX <| aK <| aK <| aV rfl <| aK <| aV rfl <| aK <| aV rfl <| aK <| aY <| aC <| aE <| sr <| lp (pmv rfl) rfl <| lp (pfa cX 1 rfl) rfl <| lr (rce 0 (I v) aJ rfl) rfl <| lp (kE (andS x v) rfl rfl rfl rfl) rfl <| lp (pas rfl) rfl <| lp (pas rfl) rfl <| nt <| aF (aS (bD (aS (bD (aS (bD (aS (bD (aS (bD (aS (bD (aS ?_)))))))))))))
  refine aG _ (res2 rfl (aD rfl) (aD rfl)) (fun W k => ?_)
  exact ⟨by simp [applyS, c1, c2, c3, c4], k.below⟩
  refine aM rfl (aB c4) <| aI <| aC <| aE <| sr <| lp (peq rfl) rfl <| lp (pas rfl) rfl <| nt ?_
  by_cases c5 : tag = 5
  refine aQ rfl (aA c5) <| aX <| aK <| aK <| aV rfl <| aK <| aV rfl <| aK <| aV rfl <| aK <| aV rfl <| aK <| aY <| aC <| aE <| sr <| lp (pfa cX 1 rfl) rfl <| lr (rce 0 (I v) aJ rfl) rfl <| lp (pmv rfl) rfl <| lp (hO rfl rfl rfl) rfl <| lp (pas rfl) rfl <| lp (pas rfl) rfl <| nt <| aF (aS (bD (aS (bD (aS (bD (aS (bD (aS (bD (aS ?_)))))))))))
  refine aG _ (res2 rfl (aD rfl) (aD rfl)) (fun W k => ?_)
  exact ⟨by simp [applyS, c1, c2, c3, c4, c5], k.below⟩
  refine aM rfl (aB c5) <| aI <| aC <| aE <| sr <| lp (peq rfl) rfl <| lp (pas rfl) rfl <| nt ?_
  by_cases c6 : tag = 6
  refine aQ rfl (aA c6) <| aX <| aK <| aK <| aV rfl <| aK <| aV rfl <| aK <| aV rfl <| aK <| aV rfl <| aK <| aV rfl <| aK <| aY <| aC <| aE <| sr <| lp (pfa cX 1 rfl) rfl <| lr (rce 0 (I v) aJ rfl) rfl <| lp (pmv rfl) rfl <| lp (fM rfl rfl rfl) rfl <| lp (pas rfl) rfl <| lp (pas rfl) rfl <| nt <| aF (aS (bD (aS (bD (aS (bD (aS (bD (aS ?_)))))))))
  refine aG _ (res2 rfl (aD rfl) (aD rfl)) (fun W k => ?_)
  exact ⟨by simp [applyS, c1, c2, c3, c4, c5, c6], k.below⟩
  refine aM rfl (aB c6) <| aI <| aC <| aE <| sr <| lp (peq rfl) rfl <| lp (pas rfl) rfl <| nt ?_
  by_cases c7 : tag = 7
  refine aQ rfl (aA c7) <| aX <| aK <| aK <| aV rfl <| aK <| aV rfl <| aK <| aV rfl <| aK <| aV rfl <| aK <| aV rfl <| aK <| aV rfl <| aK <| aY <| aC <| aE <| sr <| lp (pfa cX 1 rfl) rfl <| lr (rce 0 (I v) aJ rfl) rfl <| lp (pas rfl) rfl <| lp (pas rfl) rfl <| nt <| aF (aS (bD (aS (bD (aS (bD (aS ?_)))))))
  refine aG _ (res2 rfl (aD rfl) (aD rfl)) (fun W k => ?_)
  exact ⟨by simp [applyS, c1, c2, c3, c4, c5, c6, c7], k.below⟩
  refine aM rfl (aB c7) <| aI <| aC <| aE <| sr <| lp (peq rfl) rfl <| lp (pas rfl) rfl <| nt ?_
  by_cases c8 : tag = 9
  refine aQ rfl (aA c8) <| aX <| aK <| aK <| aV rfl <| aK <| aV rfl <| aK <| aV rfl <| aK <| aV rfl <| aK <| aV rfl <| aK <| aV rfl <| aK <| aV rfl <| aK <| aY <| aC <| aE <| aE <| sr <| lp (pfa cX 1 rfl) rfl <| lr (rce 0 (I v) aJ rfl) rfl <| lp (pls rfl) rfl <| lp (pmv rfl) rfl ?_
  by_cases c9 : v < 0
  refine gof (wi rfl (aA c9) rfl) rfl <| gof (wi rfl (aA c9) rfl) rfl <| gof (wi rfl (aA c9) rfl) rfl <| lp (ppt (aA c9) rfl) rfl <| nt <| aQ rfl rfl <| sr <| lp (pmv rfl) rfl <| lp (pas rfl) rfl <| lp (pas rfl) rfl <| nt <| aF (aS (aS (bD (aS (bD (aS ?_))))))
  refine aG _ (res2 rfl (aD rfl) (aD rfl)) (fun W k => ?_)
  exact ⟨by simp [applyS, c1, c2, c3, c4, c5, c6, c7, c8, c9], k.below⟩
  refine gp (wi rfl (aB c9) rfl) (pmv rfl) rfl <| gp (wi rfl (aB c9) rfl) (pmv rfl) rfl <| gp (wi rfl (aB c9) rfl) (pls rfl) rfl <| lp (ppf (aB c9) rfl) rfl <| nt ?_
  by_cases c10 : x < lo
  refine aQ rfl (aA c10) <| sr <| lp (pmv rfl) rfl <| lp (pas rfl) rfl <| lp (pas rfl) rfl <| nt <| aF (aS (aS (bD (aS (bD (aS ?_))))))
  refine aG _ (res2 rfl (aD rfl) (aD rfl)) (fun W k => ?_)
  exact ⟨by simp [applyS, c1, c2, c3, c4, c5, c6, c7, c8, c9, c10], k.below⟩
  refine aM rfl (aB c10) <| aI <| aC <| aE <| sr <| lp (pmv rfl) rfl <| lp (pfa cX 1 rfl) rfl <| lr (rce 0 (I v) aJ rfl) rfl <| lp (psb (wrap64 (x - v)) rfl rfl) rfl <| lp (pas rfl) rfl <| nt <| sr <| lp (pmv rfl) rfl <| lp (pmv rfl) rfl <| lp (ple rfl) rfl <| lp (pmv rfl) rfl ?_
  by_cases c11 : wrap64 (x - v) ≤ x
  refine gp (wi rfl (aA c11) rfl) (pmv rfl) rfl <| gp (wi rfl (aA c11) rfl) (pmv rfl) rfl <| gp (wi rfl (aA c11) rfl) (pge rfl) rfl <| lp (ppt (aA c11) rfl) rfl <| nt ?_
  by_cases c12 : lo ≤ wrap64 (x - v)
  refine aQ rfl (aA c12) <| sr <| lp (pmv rfl) rfl <| lp (pas rfl) rfl <| lp (pas rfl) rfl <| nt <| aF (aS (aS (bD (aS (bD (aS ?_))))))
  refine aG _ (res2 rfl (aD rfl) (aD rfl)) (fun W k => ?_)
  exact ⟨by simp [applyS, c1, c2, c3, c4, c5, c6, c7, c8, c9, c10, c11, c12], k.below⟩
  refine aM rfl (aB c12) <| aI <| aC <| sr <| lp (pmv rfl) rfl <| lp (pas rfl) rfl <| lp (pas rfl) rfl <| nt <| aF (aS (bD (aS (bD (aS ?_)))))
  refine aG _ (res2 rfl (aD rfl) (aD rfl)) (fun W k => ?_)
  exact ⟨by simp [applyS, c1, c2, c3, c4, c5, c6, c7, c8, c9, c10, c11, c12], k.below⟩
  refine gof (wi rfl (aB c11) rfl) rfl <| gof (wi rfl (aB c11) rfl) rfl <| gof (wi rfl (aB c11) rfl) rfl <| lp (ppf (aB c11) rfl) rfl <| nt <| aM rfl rfl <| aI <| aC <| sr <| lp (pmv rfl) rfl <| lp (pas rfl) rfl <| lp (pas rfl) rfl <| nt <| aF (aS (bD (aS (bD (aS ?_)))))
  refine aG _ (res2 rfl (aD rfl) (aD rfl)) (fun W k => ?_)
  exact ⟨by simp [applyS, c1, c2, c3, c4, c5, c6, c7, c8, c9, c10, c11], k.below⟩
  refine aM rfl (aB c8) <| aI <| aC <| sr <| lp (peq rfl) rfl <| lp (pas rfl) rfl <| nt ?_
  by_cases c13 : tag = 8
  refine aQ rfl (aA c13) <| aX <| aK <| aV rfl <| aK <| aV rfl <| aK <| aV rfl <| aK <| aV rfl <| aK <| aV rfl <| aK <| aV rfl <| aK <| aV rfl <| aK <| aV rfl <| aK <| aY <| aC <| aE <| sr <| lp (pmv rfl) rfl <| lp (pfa cX 1 rfl) rfl <| lr (rce 0 (I v) aJ rfl) rfl <| lp (pmv rfl) rfl <| lp (pmv rfl) rfl <| lx rfl <| fcv fn61 rfl (fun W k => beyond_is _ x v lo hi W k.cx) <| lp (pno rfl) rfl <| nt ?_
  rcases Bool.eq_false_or_eq_true (beyondS x v lo hi) with c14 | c14
  refine aM rfl (congrArg not c14) <| aI <| aC <| aX <| aY <| aC <| sr <| lp (pmv rfl) rfl <| lp (pas rfl) rfl <| lp (pas rfl) rfl <| nt <| aF <| aG _ (res2 rfl (aD rfl) (aD rfl)) (fun W k => ?_)
  exact ⟨by simp [applyS, c1, c2, c3, c4, c5, c6, c7, c8, c13, c14], k.below⟩
  refine aQ rfl (congrArg not c14) <| sr <| lp (pmv rfl) rfl <| lp (pfa cX 1 rfl) rfl <| lr (rce 0 (I v) aJ rfl) rfl <| lp (pad (wrap64 (x + v)) rfl rfl) rfl <| lp (pas rfl) rfl <| lp (pas rfl) rfl <| nt <| aF (aS (bD (aS ?_)))
  refine aG _ (res2 rfl (aD rfl) (aD rfl)) (fun W k => ?_)
  exact ⟨by simp [applyS, c1, c2, c3, c4, c5, c6, c7, c8, c13, c14], k.below⟩
  refine aM rfl (aB c13) <| aI <| aC <| aX <| aV rfl <| aK <| aV rfl <| aK <| aV rfl <| aK <| aV rfl <| aK <| aV rfl <| aK <| aV rfl <| aK <| aV rfl <| aK <| aV rfl <| aK <| aV rfl <| aK <| aY <| aC <| sr <| lp (pmv rfl) rfl <| lp (pas rfl) rfl <| lp (pas rfl) rfl <| nt <| aF <| aG _ (res2 rfl (aD rfl) (aD rfl)) (fun W k => ?_)
  exact ⟨by simp [applyS, c1, c2, c3, c4, c5, c6, c7, c8, c13], k.below⟩
/-- What is in a cell ahead of a batch's k-th op. -/
def pfx (b : List En) (x lo hi : Int) (k : Nat) : Int := allS (b.take k) x lo hi
theorem allS_append (b c : List En) (x lo hi : Int) : allS (b ++ c) x lo hi = allS c (allS b x lo hi) lo hi := by
  induction b generalizing x with
  | nil => rfl
  | cons e b ih => exact ih _
theorem pfx_succ (b : List En) (x lo hi : Int) (k : Nat) (h : (k : Int) < b.length) : pfx b x lo hi (k + 1) = (applyS (b.getD ((k : Int)).toNat en0).tag (b.getD ((k : Int)).toNat en0).v (pfx b x lo hi k) lo hi).1 := by
  have h' : k < b.length := by omega
  unfold pfx
  rw [List.take_succ_eq_append_getElem h', allS_append]
  simp only [Int.toNat_natCast, List.getD_eq_getElem?_getD, List.getElem?_eq_getElem h']
  rfl
theorem pfx_all (b : List En) (x lo hi : Int) (k : Nat) (h : ¬ (k : Int) < b.length) : pfx b x lo hi k = allS b x lo hi := by
  unfold pfx
  rw [List.take_of_length_le (by omega)]
theorem priors_append (b : List En) (e : En) (x lo hi : Int) : priorsS (b ++ [e]) x lo hi = priorsS b x lo hi ++ [allS b x lo hi] := by
  induction b generalizing x with
  | nil => rfl
  | cons f b ih => rw [List.cons_append, priorsS, ih]; rfl
theorem priors_len (b : List En) (x lo hi : Int) : (priorsS b x lo hi).length = b.length := by
  induction b generalizing x with
  | nil => rfl
  | cons f b ih => rw [priorsS, List.length_cons, ih, List.length_cons]
theorem all_is (L : Nat → Prop) (bh : Hd) (b : List En) (x lo hi : Int) (w : World) (cx : Cx L w) (h : RS L bh b.length (ecs b) w) (hlen : b.length ≤ 100000) : Calls Tryz.prog 110 [.slice bh.A b.length bh.c, I x, I lo, I hi].toArray w (fun e w' => e = .returned (I (allS b x lo hi)) ∧ Below w.heap.size w w') := by
  refine dO 20 Tryz.func110 rfl rfl rfl (Kb.start cx h.kn0) <| sr <| lx rfl <| bC (#[I x]) rfl rfl rfl rfl rfl fun g1 => ?_
  refine lp (pas rfl) rfl <| nt <| aE <| sr <| lp (pmv rfl) rfl <| lr (rce 0 (I x) aJ rfl) rfl <| lp (pmv rfl) rfl <| lp (pmv rfl) rfl <| lx rfl <| fin oL rfl (fun W k => ?_)
  refine ent 10 Tryz.func132 rfl k <| sr <| lx rfl <| bC (#[.slice bh.A b.length bh.c]) rfl rfl rfl rfl rfl fun g2 => ?_
  refine lx rfl <| bC (#[I x]) rfl rfl rfl rfl rfl fun g3 => ?_
  refine lx rfl <| bC (#[I lo]) rfl rfl rfl rfl rfl fun g4 => ?_
  refine lx rfl <| bC (#[I hi]) rfl rfl rfl rfl rfl fun g5 => ?_
  refine lp (pas rfl) rfl <| nt <| sr <| lp (cE rfl rfl rfl) rfl <| lp (pas rfl) rfl <| nt <| aF <| aG _ (res1 rfl (aD rfl)) (fun W k => ?_)
  refine nx k <| nt <| aP <| eR oM rfl [.pointer (some ⟨g2, 0, none⟩), .pointer (some ⟨g3, 0, none⟩), .pointer (some ⟨g4, 0, none⟩), .pointer (some ⟨g5, 0, none⟩)] (fun _ => rfl) (fun fi1 ln1 D1 act1 W1 ha1 k => ?_)
  refine ent 32 Tryz.func149 rfl k <| sr <| lr (rce 5 (.slice bh.A b.length bh.c) cW rfl) rfl <| lp (pln fF rfl) rfl <| lp (pmv rfl) rfl <| nt <| aP <| cR (fun i1 => [(0, .func (.yield ln1) #[] #[]), (2, .pointer (some ⟨g3, 0, none⟩)), (3, .pointer (some ⟨g4, 0, none⟩)), (4, .pointer (some ⟨g5, 0, none⟩)), (10, .slice bh.A b.length bh.c), (11, I b.length), (12, I (i1 : Int))]) (fun i1 => [(ln1, Lf Tryz.f110 0 .ready none fi1 act1.tmps D1), (D1, Do), (g5, Ce 3 (#[I hi])), (g4, Ce 3 (#[I lo])), (g3, Ce 3 (#[I (pfx b x lo hi i1)])), (g2, Ce 81 (#[.slice bh.A b.length bh.c])), (g1, Ce 3 (#[I (pfx b x lo hi i1)]))]) (b.length) ⟨rfl, rfl, rfl, rfl, rfl, rfl, rfl, trivial⟩ rfl (fun i1 hi1 => ?_)
  refine sr <| lp (pls rfl) rfl <| nt <| aE ?_
  by_cases c1 : (i1 : Int) < b.length
  refine aQ rfl (aA c1) <| aI <| aC <| aE <| aP <| sr <| bP (fun W k => RS.addr k.kn.here (by simp only [List.length_map, ecs_len, kcs_len, mcs_len]; omega)) ?_
  rintro ⟨B1, p1, hA1⟩
  refine lp (pix lB rfl hA1 (by omega) (by omega)) rfl <| lr (dE 3 (#[I ((b.getD ((i1 : Int)).toNat en0).t), I ((b.getD ((i1 : Int)).toNat en0).tag), I ((b.getD ((i1 : Int)).toNat en0).v)]) jP rfl rfl rfl (fun W k => RS.rng k.kn.here hA1 _ (by simp only [ecs_len]; omega) (ecs_at b _ (by omega) (by omega)))) rfl <| lx rfl <| fal iJ rfl fun g6 => ?_
  refine lx rfl <| ffl 0 [(g6, Ce 141 (#[I ((b.getD ((i1 : Int)).toNat en0).t), I ((b.getD ((i1 : Int)).toNat en0).tag), I ((b.getD ((i1 : Int)).toNat en0).v)])), _, _, _, _, _, _, _] lQ rfl rfl <| nt <| sr <| lp (pfa iK 1 rfl) rfl <| lr (rro 0 (#[I ((b.getD ((i1 : Int)).toNat en0).tag), I ((b.getD ((i1 : Int)).toNat en0).v)]) dP rfl) rfl <| lr (rce 5 (I (pfx b x lo hi i1)) aJ rfl) rfl <| lr (rce 4 (I lo) aJ rfl) rfl <| lr (rce 3 (I hi) aJ rfl) rfl <| lx rfl <| fcv lR rfl (fun W k => apply_is _ ((b.getD ((i1 : Int)).toNat en0).tag) ((b.getD ((i1 : Int)).toNat en0).v) (pfx b x lo hi i1) lo hi W k.cx) <| lp (pmv rfl) rfl <| lp (pex rfl) rfl <| lp (pex rfl) rfl <| lp (pas rfl) rfl <| lp (pas rfl) rfl <| nt <| aE <| sr <| lp (pmv rfl) rfl <| lr (rce 5 (I (pfx b x lo hi i1)) aJ rfl) rfl <| lp (pmv rfl) rfl <| iF (k := 1) (ps := [16, 17]) ha1 rfl rfl rfl rfl rfl rfl rfl rfl rfl <| aU <| lp (pas rfl) rfl <| nt <| fN (k := 1) [_, (ln1, Lf Tryz.f110 0 .busy none fi1 act1.tmps D1), _, _, _, _, _, _] rfl rfl <| aP <| aU <| lp (pmv rfl) rfl <| lx rfl <| fst 7 [_, _, _, _, _, _, _, (g1, Ce 3 (#[I ((applyS ((b.getD ((i1 : Int)).toNat en0).tag) ((b.getD ((i1 : Int)).toNat en0).v) (pfx b x lo hi i1) lo hi).1)]))] cG rfl rfl <| bQ <| aW <| eD (k := 1) [_, (ln1, Lf Tryz.f110 0 .ready none fi1 act1.tmps D1), _, _, _, _, _, _] rfl rfl <| lp (pno rfl) rfl <| nt <| aM rfl (congrArg not rfl) <| aI <| aC <| aU <| lp (pmv rfl) rfl <| lx rfl <| fst 5 [_, _, _, _, _, (g3, Ce 3 (#[I ((applyS ((b.getD ((i1 : Int)).toNat en0).tag) ((b.getD ((i1 : Int)).toNat en0).v) (pfx b x lo hi i1) lo hi).1)])), _, _] cG rfl rfl <| bQ <| aW <| aC <| aU <| lp (pad ((i1 + 1 : Nat) : Int) (by unfold wrap64; omega) rfl) rfl <| lp (pmv rfl) rfl <| nt <| bR (fun _ h => h.leave 0) ?_
  exact bW ⟨rfl, rfl, rfl, rfl, rfl, rfl, rfl, trivial⟩ (by rw [pfx_succ b x lo hi i1 (by omega)]; rfl) (by omega)
  refine aM rfl (aB c1) <| aX <| aK <| aK <| aY <| cL _ (res0 rfl) (fun W k => ?_)
  refine ra_none (k := 0) ha1 k rfl (by decide) <| fL [(ln1, Lf Tryz.f110 0 .exhausted none fi1 act1.tmps D1), (D1, Do), (g5, Ce 3 (#[I hi])), (g4, Ce 3 (#[I lo])), (g3, Ce 3 (#[I (pfx b x lo hi i1)])), (g2, Ce 81 (#[.slice bh.A b.length bh.c])), (g1, Ce 3 (#[I (pfx b x lo hi i1)]))] _ rfl (fun _ _ h => h) <| aW <| aC <| sr <| lr (rce 6 (I (pfx b x lo hi i1)) aJ rfl) rfl <| lp (pas rfl) rfl <| nt <| aF <| eS (I (pfx b x lo hi i1)) [(ln1, Lf Tryz.f110 0 .exhausted none fi1 act1.tmps D1), (D1, .deferred none), (g5, Ce 3 (#[I hi])), (g4, Ce 3 (#[I lo])), (g3, Ce 3 (#[I (pfx b x lo hi i1)])), (g2, Ce 81 (#[.slice bh.A b.length bh.c])), (g1, Ce 3 (#[I (pfx b x lo hi i1)]))] (k := 1) rfl rfl (res1 rfl (aD rfl)) (fun W k => ?_)
  exact ⟨by rw [← pfx_all b x lo hi i1 (by omega)], k.below⟩
theorem fn45 : fnB Tryz.prog 45 = true := by kernel_rfl
theorem dA : foB Tryz.prog 23 0 0 = true := by kernel_rfl
theorem rA : fnB Tryz.prog 105 = true := by kernel_rfl
theorem fc103_3 : fcB Tryz.prog 103 3 = true := by kernel_rfl
theorem iL : foB Tryz.prog 103 3 3 = true := by kernel_rfl
theorem rB : fnB Tryz.prog 131 = true := by kernel_rfl
theorem bH : zeroB Tryz.prog 124 (tc tn0 sl0) := by unfold zeroB; kernel_rfl
theorem bG : foB Tryz.prog 84 0 0 = true := by kernel_rfl
theorem jQ : foB Tryz.prog 84 6 7 = true := by kernel_rfl
theorem cK : foB Tryz.prog 84 8 9 = true := by kernel_rfl
theorem fJ : foB Tryz.prog 84 5 6 = true := by kernel_rfl
theorem fP : slB Tryz.prog 24 = true := by kernel_rfl
theorem aL : rowB Tryz.prog 124 37 = true := by kernel_rfl
theorem aZ : szB Tryz.prog 124 37 = true := by kernel_rfl
theorem oN : fnB Tryz.prog 134 = true := by kernel_rfl
theorem fX : foB Tryz.prog 84 9 10 = true := by kernel_rfl
theorem bK : foB Tryz.prog 124 0 0 = true := by kernel_rfl
theorem lS : fnB Tryz.prog 113 = true := by kernel_rfl
theorem iM : foB Tryz.prog 23 2 2 = true := by kernel_rfl
theorem gR : foB Tryz.prog 23 3 3 = true := by kernel_rfl
theorem lT : fnB Tryz.prog 109 = true := by kernel_rfl
theorem dU : zeroB Tryz.prog 180 (#[I 0, I 0]) := by unfold zeroB; kernel_rfl
theorem bL : foB Tryz.prog 151 0 0 = true := by kernel_rfl
theorem eA : rowB Tryz.prog 180 2 = true := by kernel_rfl
theorem fG : szB Tryz.prog 180 2 = true := by kernel_rfl
theorem gL : foB Tryz.prog 124 7 36 = true := by kernel_rfl
theorem nF : szB Tryz.prog 4 1 = true := by kernel_rfl
theorem eT : foB Tryz.prog 84 4 5 = true := by kernel_rfl
theorem dQ : cellB Tryz.prog 82 = true := by kernel_rfl
theorem fQ : slB Tryz.prog 82 = true := by kernel_rfl
theorem lU : elB Tryz.prog 82 2 = true := by kernel_rfl
theorem bJ : foB Tryz.prog 124 3 14 = true := by kernel_rfl
theorem cO : foB Tryz.prog 124 1 12 = true := by kernel_rfl
theorem fE : fnB Tryz.prog 81 = true := by kernel_rfl
theorem dR : fnB Tryz.prog 80 = true := by kernel_rfl
theorem fn82 : fnB Tryz.prog 82 = true := by kernel_rfl
theorem jR : fnB Tryz.prog 27 = true := by kernel_rfl
theorem kF : fnB Tryz.prog 106 = true := by kernel_rfl
theorem lV : fnB Tryz.prog 107 = true := by kernel_rfl
theorem dH : foB Tryz.prog 84 13 14 = true := by kernel_rfl
theorem lW : fnB Tryz.prog 108 = true := by kernel_rfl
theorem fY : rowB Tryz.prog 151 37 = true := by kernel_rfl
theorem kG : foB Tryz.prog 180 0 0 = true := by kernel_rfl
theorem cell_is (L : Nat → Prop) (c : Cf) (hc : CfOk c) (item : Int) (w : World) (cx : Cx L w) : Calls Tryz.prog 28 [.agg c.cells, I item].toArray w (fun e w' => e = .returned (I (cellS c item)) ∧ Below w.heap.size w w') := by
  have hb0 := block_le hc
  have hp0 := p2_le hc.de
  have hi0 := hc.it
  have hl0 := hc.la
  have hw0 := hc.wi
  have ht0 := hc.th
  refine ent 10 Tryz.func28 rfl (Kb.start cx (Kn.top _ _)) <| sr <| lx rfl <| bC c.cells rfl rfl rfl rfl rfl fun g1 => ?_
  refine lx rfl <| bC (#[I item]) rfl rfl rfl rfl rfl fun g2 => ?_
  refine lp (pas rfl) rfl <| nt <| sr <| lr (rce 0 (I item) aJ rfl) rfl <| lp (pfa fI 1 rfl) rfl <| lr (rce 1 (I c.it) aJ rfl) rfl <| lp (cE rfl rfl rfl) rfl <| lx rfl <| fin jG rfl (fun W k => ?_)
  refine ent 19 Tryz.func44 rfl k <| sr <| lp (pas rfl) rfl <| nt <| aE <| sr <| lp (pmv rfl) rfl <| lp (pmv rfl) rfl <| lp (pls rfl) rfl <| lp (pmv rfl) rfl ?_
  by_cases c1 : item < 0
  refine gof (wi rfl (aA c1) rfl) rfl <| gof (wi rfl (aA c1) rfl) rfl <| gof (wi rfl (aA c1) rfl) rfl <| lp (ppt (aA c1) rfl) rfl <| nt <| aQ rfl rfl <| sr <| lp (pas rfl) rfl <| nt <| aF (aS ?_)
  refine aG _ (res1 rfl (aD rfl)) (fun W k => ?_)
  refine nx k <| lp (pas rfl) rfl <| nt <| aF <| aG _ (res1 rfl (aD rfl)) (fun W k => ?_)
  exact ⟨congrArg Ending.returned (congrArg I (by unfold cellS; first | (rw [if_neg (by omega)]) | (rw [if_pos (by omega)]))), k.below⟩
  refine gp (wi rfl (aB c1) rfl) (pmv rfl) rfl <| gp (wi rfl (aB c1) rfl) (pmv rfl) rfl <| gp (wi rfl (aB c1) rfl) (pge rfl) rfl <| lp (ppf (aB c1) rfl) rfl <| nt ?_
  by_cases c2 : c.it ≤ item
  refine aQ rfl (aA c2) <| sr <| lp (pas rfl) rfl <| nt <| aF (aS ?_)
  refine aG _ (res1 rfl (aD rfl)) (fun W k => ?_)
  refine nx k <| lp (pas rfl) rfl <| nt <| aF <| aG _ (res1 rfl (aD rfl)) (fun W k => ?_)
  exact ⟨congrArg Ending.returned (congrArg I (by unfold cellS; first | (rw [if_neg (by omega)]) | (rw [if_pos (by omega)]))), k.below⟩
  refine aM rfl (aB c2) <| aI <| aC <| sr <| lp (pmv rfl) rfl <| lx rfl <| cB [] fn45 rfl rfl rfl rfl rfl [.pointer (some ⟨g2, 0, none⟩), .pointer (some ⟨g1, 0, none⟩)] rfl (fun W k => ?_)
  refine ent 8 Tryz.func45 rfl k <| sr <| lp (pas rfl) rfl <| nt <| aE <| dst [] <| dr 0 rfl (fun _ h => h) (rce 0 (I item) aJ rfl) <| dr 1 rfl (fun _ h => h) (ral 1 bM rfl) <| dx 2 rfl <| fcv jO rfl (fun W k => of_is c hc W) (aH (fun _ h => h) ?_)
  refine dp 3 rfl (eH 2 1 iH rfl rfl rfl fc103_2) <| dp 4 rfl (pml (item * blockS c) (by have h1 := mul_le_of (a := item) (p := 3) (b := blockS c) (q := 40) (by omega) (by omega) (by omega) (by omega); unfold wrap64; omega) rfl) <| dp 5 rfl (pas rfl) <| dd <| aC <| aF <| aG _ (res1 rfl (aD rfl)) (fun W k => ?_)
  refine nx k <| lp (pas rfl) rfl <| nt <| aF <| aG _ (res1 rfl (aD rfl)) (fun W k => ?_)
  refine nx k <| lp (pas rfl) rfl <| nt <| aF <| aG _ (res1 rfl (aD rfl)) (fun W k => ?_)
  exact ⟨congrArg Ending.returned (congrArg I (by unfold cellS; first | (rw [if_neg (by omega)]) | (rw [if_pos (by omega)]))), k.below⟩
theorem line_is (L : Nat → Prop) (c : Cf) (hc : CfOk c) (t : Int) (w : World) (cx : Cx L w) : Calls Tryz.prog 81 [.agg c.cells, I t].toArray w (fun e w' => e = .returned (I (lineS c t)) ∧ Below w.heap.size w w') := by
  have hb0 := block_le hc
  have hp0 := p2_le hc.de
  have hi0 := hc.it
  have hl0 := hc.la
  have hw0 := hc.wi
  have ht0 := hc.th
  refine ent 10 Tryz.func81 rfl (Kb.start cx (Kn.top _ _)) <| sr <| lx rfl <| bC c.cells rfl rfl rfl rfl rfl fun g1 => ?_
  refine lx rfl <| bC (#[I t]) rfl rfl rfl rfl rfl fun g2 => ?_
  refine lp (pas rfl) rfl <| nt <| sr <| lr (rce 0 (I t) aJ rfl) rfl <| lp (pfa dA 0 rfl) rfl <| lr (rce 1 (I c.th) aJ rfl) rfl <| lp (cE rfl rfl rfl) rfl <| lx rfl <| fin jG rfl (fun W k => ?_)
  refine ent 19 Tryz.func44 rfl k <| sr <| lp (pas rfl) rfl <| nt <| aE <| sr <| lp (pmv rfl) rfl <| lp (pmv rfl) rfl <| lp (pls rfl) rfl <| lp (pmv rfl) rfl ?_
  by_cases c1 : t < 0
  refine gof (wi rfl (aA c1) rfl) rfl <| gof (wi rfl (aA c1) rfl) rfl <| gof (wi rfl (aA c1) rfl) rfl <| lp (ppt (aA c1) rfl) rfl <| nt <| aQ rfl rfl <| sr <| lp (pas rfl) rfl <| nt <| aF (aS ?_)
  refine aG _ (res1 rfl (aD rfl)) (fun W k => ?_)
  refine nx k <| lp (pas rfl) rfl <| nt <| aF <| aG _ (res1 rfl (aD rfl)) (fun W k => ?_)
  exact ⟨congrArg Ending.returned (congrArg I (by unfold lineS; first | (rw [if_neg (by omega)]) | (rw [if_pos (by omega)]))), k.below⟩
  refine gp (wi rfl (aB c1) rfl) (pmv rfl) rfl <| gp (wi rfl (aB c1) rfl) (pmv rfl) rfl <| gp (wi rfl (aB c1) rfl) (pge rfl) rfl <| lp (ppf (aB c1) rfl) rfl <| nt ?_
  by_cases c2 : c.th ≤ t
  refine aQ rfl (aA c2) <| sr <| lp (pas rfl) rfl <| nt <| aF (aS ?_)
  refine aG _ (res1 rfl (aD rfl)) (fun W k => ?_)
  refine nx k <| lp (pas rfl) rfl <| nt <| aF <| aG _ (res1 rfl (aD rfl)) (fun W k => ?_)
  exact ⟨congrArg Ending.returned (congrArg I (by unfold lineS; first | (rw [if_neg (by omega)]) | (rw [if_pos (by omega)]))), k.below⟩
  refine aM rfl (aB c2) <| aI <| aC <| sr <| lp (pmv rfl) rfl <| lx rfl <| cB [] rA rfl rfl rfl rfl rfl [.pointer (some ⟨g1, 0, none⟩), .pointer (some ⟨g2, 0, none⟩)] rfl (fun W k => ?_)
  refine ent 9 Tryz.func105 rfl k <| sr <| lp (pas rfl) rfl <| nt <| aE <| dst [] <| dr 0 rfl (fun _ h => h) (ral 1 bM rfl) <| dr 3 rfl (fun _ h => h) (rce 0 (I t) aJ rfl) <| dp 4 rfl (pml (2 * t) (by have h1 := lines_le hc; unfold wrap64; omega) rfl) <| dx 1 rfl <| fcv jO rfl (fun W k => of_is c hc W) (aH (fun _ h => h) ?_)
  refine dp 2 rfl (eH 3 1 iL rfl rfl rfl fc103_3) <| dp 5 rfl (pad (linesS c + 2 * t) (by have h1 := lines_le hc; unfold wrap64; omega) rfl) <| dp 6 rfl (pas rfl) <| dd <| aC <| aF <| aG _ (res1 rfl (aD rfl)) (fun W k => ?_)
  refine nx k <| lp (pas rfl) rfl <| nt <| aF <| aG _ (res1 rfl (aD rfl)) (fun W k => ?_)
  refine nx k <| lp (pas rfl) rfl <| nt <| aF <| aG _ (res1 rfl (aD rfl)) (fun W k => ?_)
  exact ⟨congrArg Ending.returned (congrArg I (by unfold lineS; first | (rw [if_neg (by omega)]) | (rw [if_pos (by omega)]))), k.below⟩
theorem result_is (L : Nat → Prop) (c : Cf) (hc : CfOk c) (t : Int) (w : World) (cx : Cx L w) : Calls Tryz.prog 107 [.agg c.cells, I t].toArray w (fun e w' => e = .returned (I (resultS c t)) ∧ Below w.heap.size w w') := by
  have hb0 := block_le hc
  have hp0 := p2_le hc.de
  have hi0 := hc.it
  have hl0 := hc.la
  have hw0 := hc.wi
  have ht0 := hc.th
  refine ent 10 Tryz.func107 rfl (Kb.start cx (Kn.top _ _)) <| sr <| lx rfl <| bC c.cells rfl rfl rfl rfl rfl fun g1 => ?_
  refine lx rfl <| bC (#[I t]) rfl rfl rfl rfl rfl fun g2 => ?_
  refine lp (pas rfl) rfl <| nt <| sr <| lr (rce 0 (I t) aJ rfl) rfl <| lp (pfa dA 0 rfl) rfl <| lr (rce 1 (I c.th) aJ rfl) rfl <| lp (cE rfl rfl rfl) rfl <| lx rfl <| fin jG rfl (fun W k => ?_)
  refine ent 19 Tryz.func44 rfl k <| sr <| lp (pas rfl) rfl <| nt <| aE <| sr <| lp (pmv rfl) rfl <| lp (pmv rfl) rfl <| lp (pls rfl) rfl <| lp (pmv rfl) rfl ?_
  by_cases c1 : t < 0
  refine gof (wi rfl (aA c1) rfl) rfl <| gof (wi rfl (aA c1) rfl) rfl <| gof (wi rfl (aA c1) rfl) rfl <| lp (ppt (aA c1) rfl) rfl <| nt <| aQ rfl rfl <| sr <| lp (pas rfl) rfl <| nt <| aF (aS ?_)
  refine aG _ (res1 rfl (aD rfl)) (fun W k => ?_)
  refine nx k <| lp (pas rfl) rfl <| nt <| aF <| aG _ (res1 rfl (aD rfl)) (fun W k => ?_)
  exact ⟨congrArg Ending.returned (congrArg I (by unfold resultS; first | (rw [if_neg (by omega)]) | (rw [if_pos (by omega)]))), k.below⟩
  refine gp (wi rfl (aB c1) rfl) (pmv rfl) rfl <| gp (wi rfl (aB c1) rfl) (pmv rfl) rfl <| gp (wi rfl (aB c1) rfl) (pge rfl) rfl <| lp (ppf (aB c1) rfl) rfl <| nt ?_
  by_cases c2 : c.th ≤ t
  refine aQ rfl (aA c2) <| sr <| lp (pas rfl) rfl <| nt <| aF (aS ?_)
  refine aG _ (res1 rfl (aD rfl)) (fun W k => ?_)
  refine nx k <| lp (pas rfl) rfl <| nt <| aF <| aG _ (res1 rfl (aD rfl)) (fun W k => ?_)
  exact ⟨congrArg Ending.returned (congrArg I (by unfold resultS; first | (rw [if_neg (by omega)]) | (rw [if_pos (by omega)]))), k.below⟩
  refine aM rfl (aB c2) <| aI <| aC <| sr <| lp (pmv rfl) rfl <| lx rfl <| cB [] rB rfl rfl rfl rfl rfl [.pointer (some ⟨g1, 0, none⟩), .pointer (some ⟨g2, 0, none⟩)] rfl (fun W k => ?_)
  refine ent 10 Tryz.func131 rfl k <| sr <| lp (pas rfl) rfl <| nt <| aE <| dst [] <| dr 0 rfl (fun _ h => h) (ral 1 bM rfl) <| dr 3 rfl (fun _ h => h) (rce 0 (I t) aJ rfl) <| dp 4 rfl (pml (2 * t) (by have h1 := lines_le hc; unfold wrap64; omega) rfl) <| dx 1 rfl <| fcv jO rfl (fun W k => of_is c hc W) (aH (fun _ h => h) ?_)
  refine dp 2 rfl (eH 3 1 iL rfl rfl rfl fc103_3) <| dp 5 rfl (pad (linesS c + 2 * t) (by have h1 := lines_le hc; unfold wrap64; omega) rfl) <| dp 6 rfl (pad (linesS c + 2 * t + 1) (by have h1 := lines_le hc; unfold wrap64; omega) rfl) <| dp 7 rfl (pas rfl) <| dd <| aC <| aF <| aG _ (res1 rfl (aD rfl)) (fun W k => ?_)
  refine nx k <| lp (pas rfl) rfl <| nt <| aF <| aG _ (res1 rfl (aD rfl)) (fun W k => ?_)
  refine nx k <| lp (pas rfl) rfl <| nt <| aF <| aG _ (res1 rfl (aD rfl)) (fun W k => ?_)
  exact ⟨congrArg Ending.returned (congrArg I (by unfold resultS; first | (rw [if_neg (by omega)]) | (rw [if_pos (by omega)]))), k.below⟩
theorem casM_eq (m : Mem) (i old v : Int) : casM m i old v = { m with words := (casM m i old v).words } := by
  unfold casM
  split <;> rfl
theorem mcas_is' (L : Nat → Prop) (m : Mem) (a b : Hd) (i : Int) (old v : Int) (w : World) (cx : Cx L w) (h : RS L a m.words.length (m.words.map I) w) (hb : RB L b m.boxes w) (h0 : 0 ≤ i) (h1 : i < m.words.length) (hm : m.words.length ≤ 100000) :
    Calls Tryz.prog 95 [.agg (mc m a b), I i, I old, I v].toArray w (fun e w' => ∃ a' : Hd, e = .returned (.tuple [.agg (mc { m with words := (casM m i old v).words } a' b), .bool (decide (m.get i = old)), I 0].toArray) ∧ RS L a' (casM m i old v).words.length ((casM m i old v).words.map I) w' ∧ Below w.heap.size w w') := by
  have := mcas_is L m a b i old v w cx h hb h0 h1 hm
  rw [← casM_eq]
  exact this
/-- A turn that may be. -/
structure TnOk (T : Tn) : Prop where
  c : CfOk T.c
  t : 0 ≤ T.t ∧ T.t < T.c.th
  it : 0 ≤ T.th.item ∧ T.th.item < T.c.it
  wl : (T.m.words.length : Int) = sizeS T.c
  bl : (T.m.boxes.length : Int) = T.c.th
  bs : ∀ i, (T.m.box i).length ≤ 1000
  ba : T.th.batch.length ≤ 1000
  ki : T.th.kids.length ≤ 1000
  he : T.th.held.length ≤ 1000
theorem TnOk.hm {T : Tn} (h : TnOk T) : T.m.words.length ≤ 100000 := by
  have h1 := lines_le h.c; have h2 := h.wl; have h3 := h.c.th; unfold sizeS at h2; omega
theorem TnOk.hm' {T : Tn} (h : TnOk T) : T.m.boxes.length ≤ 100000 := by
  have h2 := h.bl; have h3 := h.c.th; omega
theorem TnOk.line {T : Tn} (h : TnOk T) {t : Int} (ht : 0 ≤ t ∧ t < T.c.th) : 0 ≤ lineS T.c t ∧ lineS T.c t < T.m.words.length := by
  have h1 := lines_le h.c; have h2 := h.wl; unfold sizeS at h2; unfold lineS; rw [if_pos ht]; omega
theorem TnOk.result {T : Tn} (h : TnOk T) {t : Int} (ht : 0 ≤ t ∧ t < T.c.th) : 0 ≤ resultS T.c t ∧ resultS T.c t < T.m.words.length := by
  have h1 := lines_le h.c; have h2 := h.wl; unfold sizeS at h2; unfold resultS; rw [if_pos ht]; omega
theorem blk {i q B x : Int} (h0 : 0 ≤ i) (h1 : i < q) (hB : 0 ≤ B) (hx : 0 ≤ x ∧ x < B) : 0 ≤ i * B + x ∧ i * B + x < q * B := by
  have e : q * B = i * B + (q - i) * B := by rw [← Int.add_mul]; congr 1; omega
  have h2 : 0 ≤ i * B := Int.mul_nonneg h0 hB
  have h3 : 1 * B ≤ (q - i) * B := Int.mul_le_mul_of_nonneg_right (by omega) hB
  omega
theorem TnOk.cell {T : Tn} (h : TnOk T) : 0 ≤ cellS T.c T.th.item ∧ cellS T.c T.th.item < T.m.words.length := by
  have h0 := block_le h.c
  have h1 := blk (B := blockS T.c) (x := 0) h.it.1 h.it.2 (by omega) (by omega)
  have h2 := h.wl
  have h3 := h.c.th
  unfold sizeS linesS at h2; unfold cellS; rw [if_pos h.it]; omega
theorem TnOk.node {T : Tn} (h : TnOk T) {n : Int} (hn : 1 ≤ n ∧ n < p2 T.c.de) : 0 ≤ nodeS T.c T.th.item n ∧ nodeS T.c T.th.item n < T.m.words.length := by
  have h0 := block_le h.c
  have h4 : p2 T.c.de ≤ blockS T.c := by
    have := Int.mul_nonneg h.c.la.1 (show 0 ≤ T.c.wi by have := h.c.wi; omega)
    unfold blockS; omega
  have h1 := blk (B := blockS T.c) (x := n) h.it.1 h.it.2 (by omega) (by omega)
  have h2 := h.wl
  have h3 := h.c.th
  unfold sizeS linesS at h2; unfold nodeS; rw [if_pos ⟨h.it, hn⟩]; omega
theorem TnOk.slot {T : Tn} (h : TnOk T) {l i : Int} (hl : 1 ≤ l ∧ l ≤ T.c.la) (hi : 0 ≤ i ∧ i < T.c.wi) : 0 ≤ slotS T.c T.th.item l i ∧ slotS T.c T.th.item l i < T.m.words.length := by
  have h0 := block_le h.c
  have hp := p2_le h.c.de
  have h4 := blk (B := T.c.wi) (x := i) (i := l - 1) (q := T.c.la) (by omega) (by omega) (by omega) hi
  have h1 := blk (B := blockS T.c) (x := p2 T.c.de + ((l - 1) * T.c.wi + i)) h.it.1 h.it.2 (by omega) (by unfold blockS; omega)
  have h2 := h.wl
  have h3 := h.c.th
  unfold sizeS linesS at h2; unfold slotS; rw [if_pos ⟨⟨h.it, by omega⟩, hi⟩]; omega
theorem down_is (L : Nat → Prop) (s : Sl) (T : Tn) (w : World) (cx : Cx L w) (hr : RT L s T w) : Calls Tryz.prog 134 [.agg (tc T s)].toArray w (RetT L w (downS T)) := by
  refine ent 28 Tryz.func134 rfl (Kb.start cx (RTL.kn0 hr)) <| sr <| lx rfl <| fba rfl fun g1 => ?_
  refine lx rfl <| fal bH rfl fun g2 => ?_
  refine nt <| sr <| lp (pfa aN 16 rfl) rfl <| lp (pfa bG 16 rfl) rfl <| lx rfl <| fst 1 [_, (g1, Ce 124 (tc { T with th := { T.th with ph := 2 } } s))] cG rfl rfl <| nt <| aE <| sr <| lp (pfa aN 16 rfl) rfl <| lp (pfa jQ 23 rfl) rfl <| lr (rce 1 (I T.th.stop) aJ rfl) rfl <| lp (pgt rfl) rfl <| nt ?_
  by_cases c1 : 0 < T.th.stop
  refine aQ rfl (aA c1) <| aU <| lp (pfa aN 16 rfl) rfl <| lp (pfa bG 16 rfl) rfl <| lx rfl <| fst 1 [_, (g1, Ce 124 (tc { T with th := { T.th with ph := 11 } } s))] cG rfl rfl <| nt <| aE <| sr <| lp (pfa aN 16 rfl) rfl <| lp (pfa cK 25 rfl) rfl <| lr (rce 1 (I T.th.at_) aJ rfl) rfl <| lp (pge rfl) rfl <| lp (pmv rfl) rfl ?_
  by_cases c2 : 0 ≤ T.th.at_
  refine gp (wi rfl (aA c2) rfl) (pfa aN 16 rfl) rfl <| gp (wi rfl (aA c2) rfl) (pfa cK 25 rfl) rfl <| gr (wi rfl (aA c2) rfl) (rce 1 (I T.th.at_) aJ rfl) rfl <| gp (wi rfl (aA c2) rfl) (pfa aN 16 rfl) rfl <| gp (wi rfl (aA c2) rfl) (pfa fJ 22 rfl) rfl <| gr (wi rfl (aA c2) rfl) (rce 1 (.slice s.held.A T.th.held.length s.held.c) bX rfl) rfl <| gp (wi rfl (aA c2) rfl) (pln fP rfl) rfl <| gp (wi rfl (aA c2) rfl) (pls rfl) rfl <| lp (ppt (aA c2) rfl) rfl <| nt ?_
  by_cases c3 : T.th.at_ < T.th.held.length
  refine aQ rfl (aA c3) <| aU <| lp (pfa aN 16 rfl) rfl <| lp (pfa bG 16 rfl) rfl <| lx rfl <| fst 1 [_, (g1, Ce 124 (tc { T with th := { T.th with ph := 7 } } s))] cG rfl rfl <| nt <| sr <| lr (ral 1 aL rfl) rfl <| lx rfl <| ffl 0 [(g2, Ce 124 (tc { T with th := { T.th with ph := 7 } } s)), _] aZ rfl rfl <| nt <| aF <| aG _ (res1 rfl (aO 0 37 aL rfl rfl rfl)) (fun W k => ?_)
  exact RetT.of (by simp [downS, c1, c2, c3]) k.kn.here.weak k.below
  refine aM rfl (aB c3) <| aI <| aC <| sr <| lr (ral 1 aL rfl) rfl <| lx rfl <| ffl 0 [(g2, Ce 124 (tc { T with th := { T.th with ph := 11 } } s)), _] aZ rfl rfl <| nt <| aF <| aG _ (res1 rfl (aO 0 37 aL rfl rfl rfl)) (fun W k => ?_)
  exact RetT.of (by simp [downS, c1, c2, c3]) k.kn.here.weak k.below
  refine gof (wi rfl (aB c2) rfl) rfl <| gof (wi rfl (aB c2) rfl) rfl <| gof (wi rfl (aB c2) rfl) rfl <| gof (wi rfl (aB c2) rfl) rfl <| gof (wi rfl (aB c2) rfl) rfl <| gof (wi rfl (aB c2) rfl) rfl <| gof (wi rfl (aB c2) rfl) rfl <| gof (wi rfl (aB c2) rfl) rfl <| lp (ppf (aB c2) rfl) rfl <| nt <| aM rfl rfl <| aI <| aC <| sr <| lr (ral 1 aL rfl) rfl <| lx rfl <| ffl 0 [(g2, Ce 124 (tc { T with th := { T.th with ph := 11 } } s)), _] aZ rfl rfl <| nt <| aF <| aG _ (res1 rfl (aO 0 37 aL rfl rfl rfl)) (fun W k => ?_)
  exact RetT.of (by simp [downS, c1, c2]) k.kn.here.weak k.below
  refine aM rfl (aB c1) <| aI <| aC <| aE <| sr <| lp (pfa aN 16 rfl) rfl <| lp (pfa cK 25 rfl) rfl <| lr (rce 1 (I T.th.at_) aJ rfl) rfl <| lp (pge rfl) rfl <| lp (pmv rfl) rfl ?_
  by_cases c4 : 0 ≤ T.th.at_
  refine gp (wi rfl (aA c4) rfl) (pfa aN 16 rfl) rfl <| gp (wi rfl (aA c4) rfl) (pfa cK 25 rfl) rfl <| gr (wi rfl (aA c4) rfl) (rce 1 (I T.th.at_) aJ rfl) rfl <| gp (wi rfl (aA c4) rfl) (pfa aN 16 rfl) rfl <| gp (wi rfl (aA c4) rfl) (pfa fJ 22 rfl) rfl <| gr (wi rfl (aA c4) rfl) (rce 1 (.slice s.held.A T.th.held.length s.held.c) bX rfl) rfl <| gp (wi rfl (aA c4) rfl) (pln fP rfl) rfl <| gp (wi rfl (aA c4) rfl) (pls rfl) rfl <| lp (ppt (aA c4) rfl) rfl <| nt ?_
  by_cases c5 : T.th.at_ < T.th.held.length
  refine aQ rfl (aA c5) <| aU <| lp (pfa aN 16 rfl) rfl <| lp (pfa bG 16 rfl) rfl <| lx rfl <| fst 1 [_, (g1, Ce 124 (tc { T with th := { T.th with ph := 7 } } s))] cG rfl rfl <| nt <| sr <| lr (ral 1 aL rfl) rfl <| lx rfl <| ffl 0 [(g2, Ce 124 (tc { T with th := { T.th with ph := 7 } } s)), _] aZ rfl rfl <| nt <| aF <| aG _ (res1 rfl (aO 0 37 aL rfl rfl rfl)) (fun W k => ?_)
  exact RetT.of (by simp [downS, c1, c4, c5]) k.kn.here.weak k.below
  refine aM rfl (aB c5) <| aI <| aC <| sr <| lr (ral 1 aL rfl) rfl <| lx rfl <| ffl 0 [(g2, Ce 124 (tc { T with th := { T.th with ph := 2 } } s)), _] aZ rfl rfl <| nt <| aF <| aG _ (res1 rfl (aO 0 37 aL rfl rfl rfl)) (fun W k => ?_)
  exact RetT.of (by simp [downS, c1, c4, c5]) k.kn.here.weak k.below
  refine gof (wi rfl (aB c4) rfl) rfl <| gof (wi rfl (aB c4) rfl) rfl <| gof (wi rfl (aB c4) rfl) rfl <| gof (wi rfl (aB c4) rfl) rfl <| gof (wi rfl (aB c4) rfl) rfl <| gof (wi rfl (aB c4) rfl) rfl <| gof (wi rfl (aB c4) rfl) rfl <| gof (wi rfl (aB c4) rfl) rfl <| lp (ppf (aB c4) rfl) rfl <| nt <| aM rfl rfl <| aI <| aC <| sr <| lr (ral 1 aL rfl) rfl <| lx rfl <| ffl 0 [(g2, Ce 124 (tc { T with th := { T.th with ph := 2 } } s)), _] aZ rfl rfl <| nt <| aF <| aG _ (res1 rfl (aO 0 37 aL rfl rfl rfl)) (fun W k => ?_)
  exact RetT.of (by simp [downS, c1, c4]) k.kn.here.weak k.below
theorem over_is (L : Nat → Prop) (s : Sl) (T : Tn) (w : World) (cx : Cx L w) (hr : RT L s T w) : Calls Tryz.prog 118 [.agg (tc T s)].toArray w (RetT L w (overS T)) := by
  refine ent 7 Tryz.func118 rfl (Kb.start cx (RTL.kn0 hr)) <| sr <| lx rfl <| fba rfl fun g1 => ?_
  refine lx rfl <| fal bH rfl fun g2 => ?_
  refine nt <| sr <| lp (pfa aN 16 rfl) rfl <| lp (pfa cK 25 rfl) rfl <| lx rfl <| fst 1 [_, (g1, Ce 124 (tc { T with th := { T.th with at_ := 0 } } s))] cG rfl rfl <| nt <| sr <| lr (ral 1 aL rfl) rfl <| lx rfl <| fca oN rfl (fun W k => down_is _ s { T with th := { T.th with at_ := 0 } } W k.cx ⟨k.kn.here.words, k.kn.here.boxes, k.kn.here.batch, k.kn.here.kids, k.kn.here.held, k.kn.here.tl, k.kn.here.log⟩) ?_
  rintro _ _ W1 k ⟨s1, T1, hT1, rfl, hR1, hb1⟩
  refine nx ((k.call hb1).and hR1.kn) <| lx rfl <| ffl 0 [(g2, Ce 124 (tc T1 s1)), _] aZ rfl rfl <| nt <| aF <| aG _ (res1 rfl (aO 0 37 aL rfl rfl rfl)) (fun W k => ?_)
  exact RetT.of hT1 k.kn.here.1.weak k.below
theorem onward_is (L : Nat → Prop) (s : Sl) (T : Tn) (w : World) (cx : Cx L w) (hr : RT L s T w) (hla : 0 ≤ T.th.layer ∧ T.th.layer ≤ 100) : Calls Tryz.prog 89 [.agg (tc T s)].toArray w (RetT L w (onwardS T)) := by
  refine ent 26 Tryz.func89 rfl (Kb.start cx (RTL.kn0 hr)) <| sr <| lx rfl <| fba rfl fun g1 => ?_
  refine lx rfl <| fal bH rfl fun g2 => ?_
  refine nt <| sr <| lp (pfa aN 16 rfl) rfl <| lp (pfa bG 16 rfl) rfl <| lx rfl <| fst 1 [_, (g1, Ce 124 (tc { T with th := { T.th with ph := 2 } } s))] cG rfl rfl <| nt <| aE <| sr <| lp (pfa aN 16 rfl) rfl <| lp (pfa fX 26 rfl) rfl <| lr (rce 1 (I T.th.layer) aJ rfl) rfl <| lp (pfa bK 0 rfl) rfl <| lp (pfa fU 4 rfl) rfl <| lr (rce 1 (I T.c.la) aJ rfl) rfl <| lp (pls rfl) rfl <| lp (pmv rfl) rfl ?_
  by_cases c1 : T.th.layer < T.c.la
  refine gr (wi rfl (aA c1) rfl) (ral 1 aL rfl) rfl <| kY (wi rfl (aA c1) rfl) <| fcv lS rfl (fun W k => late_is _ s { T with th := { T.th with ph := 2 } } W k.cx) <| gp (wi rfl (aA c1) rfl) (pno rfl) rfl <| lp (ppt (aA c1) rfl) rfl <| nt ?_
  rcases Bool.eq_false_or_eq_true (lateP T) with c2 | c2
  refine aM rfl (congrArg not c2) <| aI <| aC <| sr <| lr (ral 1 aL rfl) rfl <| lx rfl <| ffl 0 [(g2, Ce 124 (tc { T with th := { T.th with ph := 2 } } s)), _] aZ rfl rfl <| nt <| aF <| aG _ (res1 rfl (aO 0 37 aL rfl rfl rfl)) (fun W k => ?_)
  exact RetT.of (by simp [onwardS, c1, c2]) k.kn.here.weak k.below
  refine aQ rfl (congrArg not c2) <| sr <| lp (pfa aN 16 rfl) rfl <| lp (pfa fX 26 rfl) rfl <| lr (rce 1 (I T.th.layer) aJ rfl) rfl <| lp (pad (T.th.layer + 1) (by unfold wrap64; omega) rfl) rfl <| lp (pfa aN 16 rfl) rfl <| lp (pfa fX 26 rfl) rfl <| lx rfl <| fst 1 [_, (g1, Ce 124 (tc { T with th := { T.th with ph := 2, layer := T.th.layer + 1 } } s))] cG rfl rfl <| nt <| aU <| lp (pfa aN 16 rfl) rfl <| lp (pfa bG 16 rfl) rfl <| lx rfl <| fst 1 [_, (g1, Ce 124 (tc { T with th := { T.th with ph := 17, layer := T.th.layer + 1 } } s))] cG rfl rfl <| nt <| sr <| lr (ral 1 aL rfl) rfl <| lx rfl <| ffl 0 [(g2, Ce 124 (tc { T with th := { T.th with ph := 17, layer := T.th.layer + 1 } } s)), _] aZ rfl rfl <| nt <| aF <| aG _ (res1 rfl (aO 0 37 aL rfl rfl rfl)) (fun W k => ?_)
  exact RetT.of (by simp [onwardS, c1, c2]) k.kn.here.weak k.below
  refine gof (wi rfl (aB c1) rfl) rfl <| gof (wi rfl (aB c1) rfl) rfl <| gof (wi rfl (aB c1) rfl) rfl <| lp (ppf (aB c1) rfl) rfl <| nt <| aM rfl rfl <| aI <| aC <| sr <| lr (ral 1 aL rfl) rfl <| lx rfl <| ffl 0 [(g2, Ce 124 (tc { T with th := { T.th with ph := 2 } } s)), _] aZ rfl rfl <| nt <| aF <| aG _ (res1 rfl (aO 0 37 aL rfl rfl rfl)) (fun W k => ?_)
  exact RetT.of (by simp [onwardS, c1]) k.kn.here.weak k.below
theorem start_is (L : Nat → Prop) (s : Sl) (T : Tn) (w : World) (cx : Cx L w) (hr : RT L s T w) : Calls Tryz.prog 82 [.agg (tc T s)].toArray w (RetT L w (startS T)) := by
  refine ent 34 Tryz.func82 rfl (Kb.start cx (RTL.kn0 hr)) <| sr <| lx rfl <| fba rfl fun g1 => ?_
  refine lx rfl <| fal bH rfl fun g2 => ?_
  refine nt <| aE <| aP <| sr <| lp (pfa bK 0 rfl) rfl <| lp (pfa iM 2 rfl) rfl <| lr (rce 1 (I T.c.be) aJ rfl) rfl <| lp (peq rfl) rfl <| lp (pmv rfl) rfl ?_
  by_cases c1 : T.c.be = 2
  refine gp (wi rfl (aA c1) rfl) (pfa bK 0 rfl) rfl <| gp (wi rfl (aA c1) rfl) (pfa gR 3 rfl) rfl <| gr (wi rfl (aA c1) rfl) (rce 1 (I T.c.de) aJ rfl) rfl <| gp (wi rfl (aA c1) rfl) (pgt rfl) rfl <| lp (ppt (aA c1) rfl) rfl <| lp (pas rfl) rfl <| nt ?_
  by_cases c2 : 0 < T.c.de
  refine aQ rfl (aA c2) <| aU <| lp (pfa aN 16 rfl) rfl <| lp (pfa bG 16 rfl) rfl <| lx rfl <| fst 1 [_, (g1, Ce 124 (tc { T with th := { T.th with ph := 4 } } s))] cG rfl rfl <| bQ <| aW <| aC <| sr <| lr (ral 1 aL rfl) rfl <| lx rfl <| ffl 0 [(g2, Ce 124 (tc { T with th := { T.th with ph := 4 } } s)), _] aZ rfl rfl <| nt <| aF <| aG _ (res1 rfl (aO 0 37 aL rfl rfl rfl)) (fun W k => ?_)
  exact RetT.of (by simp [startS, c1, c2]) k.kn.here.weak k.below
  refine aM rfl (aB c2) <| sr <| lp (pfa bK 0 rfl) rfl <| lp (pfa iM 2 rfl) rfl <| lr (rce 1 (I T.c.be) aJ rfl) rfl <| lp (peq rfl) rfl <| lp (pmv rfl) rfl <| gof (wi rfl (aB (by omega)) rfl) rfl <| gof (wi rfl (aB (by omega)) rfl) rfl <| gof (wi rfl (aB (by omega)) rfl) rfl <| gof (wi rfl (aB (by omega)) rfl) rfl <| lp (ppf (aB (by omega)) rfl) rfl <| lp (pas rfl) rfl <| nt <| aM rfl rfl <| aU <| lp (pfa aN 16 rfl) rfl <| lp (pfa bG 16 rfl) rfl <| lx rfl <| fst 1 [_, (g1, Ce 124 (tc { T with th := { T.th with ph := 2 } } s))] cG rfl rfl <| bQ <| aW <| aC <| sr <| lr (ral 1 aL rfl) rfl <| lx rfl <| ffl 0 [(g2, Ce 124 (tc { T with th := { T.th with ph := 2 } } s)), _] aZ rfl rfl <| nt <| aF <| aG _ (res1 rfl (aO 0 37 aL rfl rfl rfl)) (fun W k => ?_)
  exact RetT.of (by simp [startS, c1, c2]) k.kn.here.weak k.below
  refine gof (wi rfl (aB c1) rfl) rfl <| gof (wi rfl (aB c1) rfl) rfl <| gof (wi rfl (aB c1) rfl) rfl <| gof (wi rfl (aB c1) rfl) rfl <| lp (ppf (aB c1) rfl) rfl <| lp (pas rfl) rfl <| nt <| aM rfl rfl <| sr <| lp (pfa bK 0 rfl) rfl <| lp (pfa iM 2 rfl) rfl <| lr (rce 1 (I T.c.be) aJ rfl) rfl <| lp (peq rfl) rfl <| lp (pmv rfl) rfl ?_
  by_cases c3 : T.c.be = 3
  refine gp (wi rfl (aA c3) rfl) (pfa bK 0 rfl) rfl <| gp (wi rfl (aA c3) rfl) (pfa fU 4 rfl) rfl <| gr (wi rfl (aA c3) rfl) (rce 1 (I T.c.la) aJ rfl) rfl <| gp (wi rfl (aA c3) rfl) (pgt rfl) rfl <| lp (ppt (aA c3) rfl) rfl <| lp (pas rfl) rfl <| nt ?_
  by_cases c4 : 0 < T.c.la
  refine aQ rfl (aA c4) <| aU <| lp (pfa aN 16 rfl) rfl <| lp (pfa bG 16 rfl) rfl <| lx rfl <| fst 1 [_, (g1, Ce 124 (tc { T with th := { T.th with ph := 17 } } s))] cG rfl rfl <| lp (pfa aN 16 rfl) rfl <| lp (pfa fX 26 rfl) rfl <| lx rfl <| fst 1 [_, (g1, Ce 124 (tc { T with th := { T.th with ph := 17, layer := 1 } } s))] cG rfl rfl <| bQ <| aW <| aC <| sr <| lr (ral 1 aL rfl) rfl <| lx rfl <| ffl 0 [(g2, Ce 124 (tc { T with th := { T.th with ph := 17, layer := 1 } } s)), _] aZ rfl rfl <| nt <| aF <| aG _ (res1 rfl (aO 0 37 aL rfl rfl rfl)) (fun W k => ?_)
  exact RetT.of (by simp [startS, c1, c3, c4]) k.kn.here.weak k.below
  refine aM rfl (aB c4) <| aU <| lp (pfa aN 16 rfl) rfl <| lp (pfa bG 16 rfl) rfl <| lx rfl <| fst 1 [_, (g1, Ce 124 (tc { T with th := { T.th with ph := 2 } } s))] cG rfl rfl <| bQ <| aW <| aC <| sr <| lr (ral 1 aL rfl) rfl <| lx rfl <| ffl 0 [(g2, Ce 124 (tc { T with th := { T.th with ph := 2 } } s)), _] aZ rfl rfl <| nt <| aF <| aG _ (res1 rfl (aO 0 37 aL rfl rfl rfl)) (fun W k => ?_)
  exact RetT.of (by simp [startS, c1, c3, c4]) k.kn.here.weak k.below
  refine gof (wi rfl (aB c3) rfl) rfl <| gof (wi rfl (aB c3) rfl) rfl <| gof (wi rfl (aB c3) rfl) rfl <| gof (wi rfl (aB c3) rfl) rfl <| lp (ppf (aB c3) rfl) rfl <| lp (pas rfl) rfl <| nt <| aM rfl rfl <| aU <| lp (pfa aN 16 rfl) rfl <| lp (pfa bG 16 rfl) rfl <| lx rfl <| fst 1 [_, (g1, Ce 124 (tc { T with th := { T.th with ph := 2 } } s))] cG rfl rfl <| bQ <| aW <| aC <| sr <| lr (ral 1 aL rfl) rfl <| lx rfl <| ffl 0 [(g2, Ce 124 (tc { T with th := { T.th with ph := 2 } } s)), _] aZ rfl rfl <| nt <| aF <| aG _ (res1 rfl (aO 0 37 aL rfl rfl rfl)) (fun W k => ?_)
  exact RetT.of (by simp [startS, c1, c3]) k.kn.here.weak k.below
theorem settle_is (L : Nat → Prop) (s : Sl) (T : Tn) (w : World) (cx : Cx L w) (hr : RT L s T w) : Calls Tryz.prog 108 [.agg (tc T s)].toArray w (RetT L w (settleS T)) := by
  refine ent 18 Tryz.func108 rfl (Kb.start cx (RTL.kn0 hr)) <| sr <| lx rfl <| fba rfl fun g1 => ?_
  refine lx rfl <| fal bH rfl fun g2 => ?_
  refine nt <| aE <| sr <| lr (ral 1 aL rfl) rfl <| lp (bB (tc T s) rfl rfl (by kernel_rfl)) rfl <| lx rfl <| fin lT rfl (fun W k => ?_)
  refine ent 32 Tryz.func109 rfl k <| sr <| lx rfl <| fba rfl fun g3 => ?_
  refine lx rfl <| fal dU rfl fun g4 => ?_
  refine lp (pas rfl) rfl <| nt <| aE <| sr <| lp (pfa bL 0 rfl) rfl <| lp (pfa aN 16 rfl) rfl <| lp (pfa cK 25 rfl) rfl <| lr (rce 1 (I T.th.at_) aJ rfl) rfl <| lp (pls rfl) rfl <| lp (pmv rfl) rfl ?_
  by_cases c1 : T.th.at_ < 0
  refine gof (wi rfl (aA c1) rfl) rfl <| gof (wi rfl (aA c1) rfl) rfl <| gof (wi rfl (aA c1) rfl) rfl <| gof (wi rfl (aA c1) rfl) rfl <| gof (wi rfl (aA c1) rfl) rfl <| gof (wi rfl (aA c1) rfl) rfl <| gof (wi rfl (aA c1) rfl) rfl <| gof (wi rfl (aA c1) rfl) rfl <| gof (wi rfl (aA c1) rfl) rfl <| gof (wi rfl (aA c1) rfl) rfl <| lp (ppt (aA c1) rfl) rfl <| nt <| aQ rfl rfl <| sr <| lr (ral 0 eA rfl) rfl <| lx rfl <| ffl 0 [(g4, Ce 180 (#[I 0, I 0])), _, _, _] fG rfl rfl <| lp (pas rfl) rfl <| nt <| aF (aS ?_)
  refine aG _ (res2 rfl (aO 0 2 eA rfl rfl rfl) (aD rfl)) (fun W k => ?_)
  refine nx k <| lp (pmv rfl) rfl <| lp (pex rfl) rfl <| lp (pex rfl) rfl <| lx rfl <| fal dU rfl fun g5 => ?_
  refine lx rfl <| ffl 0 [(g5, Ce 180 (#[I 0, I 0])), _, _, _, _] fG rfl rfl <| lp (pas rfl) rfl <| nt <| sr <| lp (pmv rfl) rfl <| nt <| aM rfl rfl <| aU <| lp (pfa aN 16 rfl) rfl <| lp (pfa bG 16 rfl) rfl <| lx rfl <| fst 4 [_, _, _, _, (g1, Ce 124 (tc { T with th := { T.th with ph := 0 } } s))] cG rfl rfl <| lp (pfa gL 36 rfl) rfl <| lx rfl <| fst 4 [_, _, _, _, (g1, Ce 124 (tc { T with done := true, th := { T.th with ph := 0 } } s))] nF rfl rfl <| nt <| sr <| lr (ral 4 aL rfl) rfl <| lx rfl <| ffl 3 [_, _, _, (g2, Ce 124 (tc { T with done := true, th := { T.th with ph := 0 } } s)), _] aZ rfl rfl <| nt <| aF <| aG _ (res1 rfl (aO 3 37 aL rfl rfl rfl)) (fun W k => ?_)
  exact RetT.of (by unfold settleS; first | (rw [if_pos (by omega)]) | (rw [if_neg (by omega)])) k.kn.here.weak k.below
  refine gp (wi rfl (aB c1) rfl) (pfa bL 0 rfl) rfl <| gp (wi rfl (aB c1) rfl) (pfa aN 16 rfl) rfl <| gp (wi rfl (aB c1) rfl) (pfa cK 25 rfl) rfl <| gr (wi rfl (aB c1) rfl) (rce 1 (I T.th.at_) aJ rfl) rfl <| gp (wi rfl (aB c1) rfl) (pfa bL 0 rfl) rfl <| gp (wi rfl (aB c1) rfl) (pfa aN 16 rfl) rfl <| gp (wi rfl (aB c1) rfl) (pfa eT 21 rfl) rfl <| gr (wi rfl (aB c1) rfl) (rce 1 (.slice s.kids.A T.th.kids.length s.kids.c) dQ rfl) rfl <| gp (wi rfl (aB c1) rfl) (pln fQ rfl) rfl <| gp (wi rfl (aB c1) rfl) (pge rfl) rfl <| lp (ppf (aB c1) rfl) rfl <| nt ?_
  by_cases c2 : T.th.kids.length ≤ T.th.at_
  refine aQ rfl (aA c2) <| sr <| lr (ral 0 eA rfl) rfl <| lx rfl <| ffl 0 [(g4, Ce 180 (#[I 0, I 0])), _, _, _] fG rfl rfl <| lp (pas rfl) rfl <| nt <| aF (aS ?_)
  refine aG _ (res2 rfl (aO 0 2 eA rfl rfl rfl) (aD rfl)) (fun W k => ?_)
  refine nx k <| lp (pmv rfl) rfl <| lp (pex rfl) rfl <| lp (pex rfl) rfl <| lx rfl <| fal dU rfl fun g6 => ?_
  refine lx rfl <| ffl 0 [(g6, Ce 180 (#[I 0, I 0])), _, _, _, _] fG rfl rfl <| lp (pas rfl) rfl <| nt <| sr <| lp (pmv rfl) rfl <| nt <| aM rfl rfl <| aU <| lp (pfa aN 16 rfl) rfl <| lp (pfa bG 16 rfl) rfl <| lx rfl <| fst 4 [_, _, _, _, (g1, Ce 124 (tc { T with th := { T.th with ph := 0 } } s))] cG rfl rfl <| lp (pfa gL 36 rfl) rfl <| lx rfl <| fst 4 [_, _, _, _, (g1, Ce 124 (tc { T with done := true, th := { T.th with ph := 0 } } s))] nF rfl rfl <| nt <| sr <| lr (ral 4 aL rfl) rfl <| lx rfl <| ffl 3 [_, _, _, (g2, Ce 124 (tc { T with done := true, th := { T.th with ph := 0 } } s)), _] aZ rfl rfl <| nt <| aF <| aG _ (res1 rfl (aO 3 37 aL rfl rfl rfl)) (fun W k => ?_)
  exact RetT.of (by unfold settleS; first | (rw [if_pos (by omega)]) | (rw [if_neg (by omega)])) k.kn.here.weak k.below
  refine aM rfl (aB c2) <| aI <| aC <| sr <| lp (pfa bL 0 rfl) rfl <| lp (pfa aN 16 rfl) rfl <| lp (pfa eT 21 rfl) rfl <| lr (rce 1 (.slice s.kids.A T.th.kids.length s.kids.c) dQ rfl) rfl <| lp (pfa bL 0 rfl) rfl <| lp (pfa aN 16 rfl) rfl <| lp (pfa cK 25 rfl) rfl <| lr (rce 1 (I T.th.at_) aJ rfl) rfl <| bP (fun W k => RS.addr k.kn.here.kids (by simp only [List.length_map, ecs_len, kcs_len, mcs_len]; omega)) ?_
  rintro ⟨B1, p1, hA1⟩
  refine lp (pix lU rfl hA1 (by omega) (by omega)) rfl <| lr (dE 2 (#[I ((T.th.kids.getD (T.th.at_).toNat ki0).t), I ((T.th.kids.getD (T.th.at_).toNat ki0).ah)]) eA rfl rfl rfl (fun W k => RS.rng k.kn.here.kids hA1 _ (by simp only [kcs_len]; omega) (kcs_at T.th.kids _ (by omega) (by omega)))) rfl <| lx rfl <| ffl 0 [(g4, Ce 180 (#[I ((T.th.kids.getD (T.th.at_).toNat ki0).t), I ((T.th.kids.getD (T.th.at_).toNat ki0).ah)])), _, _, _] fG rfl rfl <| lp (pas rfl) rfl <| nt <| aF <| aG _ (res2 rfl (aO 0 2 eA rfl rfl rfl) (aD rfl)) (fun W k => ?_)
  refine nx k <| lp (pmv rfl) rfl <| lp (pex rfl) rfl <| lp (pex rfl) rfl <| lx rfl <| fal dU rfl fun g7 => ?_
  refine lx rfl <| ffl 0 [(g7, Ce 180 (#[I ((T.th.kids.getD (T.th.at_).toNat ki0).t), I ((T.th.kids.getD (T.th.at_).toNat ki0).ah)])), _, _, _, _] fG rfl rfl <| lp (pas rfl) rfl <| nt <| sr <| lp (pmv rfl) rfl <| nt <| aQ rfl rfl <| aU <| lp (pfa aN 16 rfl) rfl <| lp (pfa bG 16 rfl) rfl <| lx rfl <| fst 4 [_, _, _, _, (g1, Ce 124 (tc { T with th := { T.th with ph := 15 } } s))] cG rfl rfl <| nt <| sr <| lr (ral 4 aL rfl) rfl <| lx rfl <| ffl 3 [_, _, _, (g2, Ce 124 (tc { T with th := { T.th with ph := 15 } } s)), _] aZ rfl rfl <| nt <| aF <| aG _ (res1 rfl (aO 3 37 aL rfl rfl rfl)) (fun W k => ?_)
  exact RetT.of (by unfold settleS; first | (rw [if_pos (by omega)]) | (rw [if_neg (by omega)])) k.kn.here.weak k.below
theorem clear_is (L : Nat → Prop) (s : Sl) (T : Tn) (hw : TnOk T) (w : World) (cx : Cx L w) (hr : RT L s T w) (h0 : 0 ≤ lineS T.c T.t) (h1 : lineS T.c T.t < T.m.words.length) : Calls Tryz.prog 74 [.agg (tc T s)].toArray w (RetB L w (if T.th.ph = 1 then clearS T else T) (decide (T.th.ph = 1))) := by
  have hc := hw.c
  refine ent 29 Tryz.func74 rfl (Kb.start cx (RTL.kn0 hr)) <| sr <| lx rfl <| fba rfl fun g1 => ?_
  refine lx rfl <| fal bH rfl fun g2 => ?_
  refine lp (pas rfl) rfl <| nt <| aE <| sr <| lp (pfa aN 16 rfl) rfl <| lp (pfa bG 16 rfl) rfl <| lr (rce 1 (I T.th.ph) aJ rfl) rfl <| lp (pne rfl) rfl <| nt ?_
  by_cases c1 : T.th.ph = 1
  refine aM rfl (congrArg not (aA c1)) <| aI <| aC <| aE <| cJ (σ := Hd × Nat) (fun x1 => [(1, .pointer (some ⟨g1, 0, none⟩)), (2, .pointer (some ⟨g2, 0, none⟩)), (3, .bool false), (4, .pointer (some ⟨x1.2, 0, none⟩)), (5, I 0)]) (fun x1 => [(x1.2, Ce 32 (mc (T.m.set (lineS T.c T.t) 0) x1.1 s.boxes)), (g2, Ce 124 (tc tn0 sl0)), (g1, Ce 124 (tc T s))]) (fun x1 F O W => RS (Av L O) x1.1 (T.m.set (lineS T.c T.t) 0).words.length ((T.m.set (lineS T.c T.t) 0).words.map I) W ∧ F O W) ?_ ?_
  refine dst [12] <| dp 0 rfl (pfa bJ 14 rfl) <| dp 2 rfl (pfa bK 0 rfl) <| dp 4 rfl (pfa cO 12 rfl) <| dr 1 rfl (fun _ h => h) (rro 1 (mc T.m s.words s.boxes) bI rfl) <| dr 3 rfl (fun _ h => h) (rro 1 T.c.cells bM rfl) <| dr 5 rfl (fun _ h => h) (rce 1 (I T.t) aJ rfl) <| d2 6 11 rfl ?_ ?_
  refine fcv fE rfl (fun W k => line_is _ T.c hc T.t W k.cx) (aH (fun _ h => h) ?_)
  refine d2 7 11 rfl ?_ ?_
  refine fca dR rfl (fun W k => mstore_is _ T.m s.words s.boxes (lineS T.c T.t) 0 W k.cx k.kn.here.words k.kn.here.boxes h0 h1 hw.hm) ?_
  rintro _ _ W1_7a k ⟨ma1_7a, rfl, hr1_7a, hb1_7a⟩
  refine nx ((k.call hb1_7a).and hr1_7a.kn) (aH (fun _ h => h.drop) ?_)
  refine dp 8 rfl (pmv rfl) <| dp 9 rfl (pex rfl) <| dp 10 rfl (pex rfl) <| dx 11 rfl <| fal bF rfl fun g1_11a => ?_
  refine aH (fun _ h => (h.leave 0).drop) <| dl 12 rfl <| ffl 0 [(g1_11a, Ce 32 (mc (T.m.set (lineS T.c T.t) 0) ma1_7a s.boxes)), _, _] bN rfl rfl <| dp 13 rfl (pas rfl) <| dd ?_
  exact bE (σ := Hd × Nat) (ma1_7a, g1_11a) ⟨rfl, rfl, rfl, rfl, rfl, trivial⟩ (fun W k => (k.re fun O W h => ⟨h.1, h.2⟩))
  refine fal bF rfl fun g1_11a => ?_
  refine aH (fun _ h => (h.leave 0)) <| dx 7 rfl <| fca dR rfl (fun W k => mstore_is _ T.m s.words s.boxes (lineS T.c T.t) 0 W k.cx k.kn.here.words k.kn.here.boxes h0 h1 hw.hm) ?_
  rintro _ _ W1_7a k ⟨ma1_7a, rfl, hr1_7a, hb1_7a⟩
  refine nx ((k.call hb1_7a).and hr1_7a.kn) (aH (fun _ h => (h.leave 0).drop) ?_)
  refine dp 8 rfl (pmv rfl) <| dp 9 rfl (pex rfl) <| dp 10 rfl (pex rfl) <| dl 12 rfl <| ffl 0 [(g1_11a, Ce 32 (mc (T.m.set (lineS T.c T.t) 0) ma1_7a s.boxes)), _, _] bN rfl rfl <| dp 13 rfl (pas rfl) <| dd ?_
  exact bE (σ := Hd × Nat) (ma1_7a, g1_11a) ⟨rfl, rfl, rfl, rfl, rfl, trivial⟩ (fun W k => (k.re fun O W h => ⟨h.1, h.2⟩))
  refine fal bF rfl fun g1_11a => ?_
  refine aH (fun _ h => (h.leave 0)) <| dx 6 rfl <| fcv fE rfl (fun W k => line_is _ T.c hc T.t W k.cx) (aH (fun _ h => (h.leave 0)) ?_)
  refine dx 7 rfl <| fca dR rfl (fun W k => mstore_is _ T.m s.words s.boxes (lineS T.c T.t) 0 W k.cx k.kn.here.words k.kn.here.boxes h0 h1 hw.hm) ?_
  rintro _ _ W1_7a k ⟨ma1_7a, rfl, hr1_7a, hb1_7a⟩
  refine nx ((k.call hb1_7a).and hr1_7a.kn) (aH (fun _ h => (h.leave 0).drop) ?_)
  refine dp 8 rfl (pmv rfl) <| dp 9 rfl (pex rfl) <| dp 10 rfl (pex rfl) <| dl 12 rfl <| ffl 0 [(g1_11a, Ce 32 (mc (T.m.set (lineS T.c T.t) 0) ma1_7a s.boxes)), _, _] bN rfl rfl <| dp 13 rfl (pas rfl) <| dd ?_
  exact bE (σ := Hd × Nat) (ma1_7a, g1_11a) ⟨rfl, rfl, rfl, rfl, rfl, trivial⟩ (fun W k => (k.re fun O W h => ⟨h.1, h.2⟩))
  intro x1
  refine aC <| aE <| sr <| lp (pmv rfl) rfl <| lp (pne rfl) rfl <| nt <| aM rfl (congrArg not rfl) <| aI <| aC <| sr <| lr (ral 0 bI rfl) rfl <| lp (pfa bJ 14 rfl) rfl <| lx rfl <| fst 2 [_, _, (g1, Ce 124 (tc { T with m := T.m.set (lineS T.c T.t) 0 } { s with words := x1.1, boxes := s.boxes }))] bN rfl rfl <| nt <| sr <| lr (ral 2 aL rfl) rfl <| lx rfl <| fca fn82 rfl (fun W k => start_is _ { s with words := x1.1, boxes := s.boxes } { T with m := T.m.set (lineS T.c T.t) 0 } W k.cx ⟨k.kn.here.1, k.kn.here.2.boxes, k.kn.here.2.batch, k.kn.here.2.kids, k.kn.here.2.held, k.kn.here.2.tl, k.kn.here.2.log⟩) ?_
  rintro _ _ W1 k ⟨s1, T1, hT1, rfl, hR1, hb1⟩
  refine nx ((k.call hb1).and hR1.kn) <| lx rfl <| ffl 1 [_, (g2, Ce 124 (tc T1 s1)), _] aZ rfl rfl <| lp (pas rfl) rfl <| nt <| aF <| aG _ (res2 rfl (aO 1 37 aL rfl rfl rfl) (aD rfl)) (fun W k => ?_)
  rw [show ((decide (T.th.ph = 1))) = true by simp [c1]]
  exact RetB.of (by simp [clearS, c1, *]) k.kn.here.1.weak k.below
  refine aQ rfl (congrArg not (aB c1)) <| sr <| lr (ral 1 aL rfl) rfl <| lx rfl <| ffl 0 [(g2, Ce 124 (tc T s)), _] aZ rfl rfl <| lp (pas rfl) rfl <| nt <| aF (aS ?_)
  refine aG _ (res2 rfl (aO 0 37 aL rfl rfl rfl) (aD rfl)) (fun W k => ?_)
  rw [show ((decide (T.th.ph = 1))) = false by simp [c1]]
  exact RetB.of (by simp [clearS, c1]) k.kn.here.weak k.below
theorem wait_is (L : Nat → Prop) (s : Sl) (T : Tn) (hw : TnOk T) (w : World) (cx : Cx L w) (hr : RT L s T w) (h0 : 0 ≤ lineS T.c T.t) (h1 : lineS T.c T.t < T.m.words.length) : Calls Tryz.prog 83 [.agg (tc T s)].toArray w (RetT L w (waitS T)) := by
  have hc := hw.c
  refine ent 31 Tryz.func83 rfl (Kb.start cx (RTL.kn0 hr)) <| sr <| lx rfl <| fba rfl fun g1 => ?_
  refine lx rfl <| fal bH rfl fun g2 => ?_
  refine nt <| aE <| aE <| dst [] <| dp 0 rfl (pfa bL 0 rfl) <| dp 1 rfl (pfa bJ 14 rfl) <| dp 3 rfl (pfa bL 0 rfl) <| dp 4 rfl (pfa bK 0 rfl) <| dp 6 rfl (pfa bL 0 rfl) <| dp 7 rfl (pfa cO 12 rfl) <| dr 2 rfl (fun _ h => h) (rro 1 (mc T.m s.words s.boxes) bI rfl) <| dr 5 rfl (fun _ h => h) (rro 1 T.c.cells bM rfl) <| dr 8 rfl (fun _ h => h) (rce 1 (I T.t) aJ rfl) <| dx 9 rfl <| fcv fE rfl (fun W k => line_is _ T.c hc T.t W k.cx) (aH (fun _ h => h) ?_)
  refine dx 10 rfl <| fcv jR rfl (fun W k => mload_is _ T.m s.words s.boxes (lineS T.c T.t) W k.cx k.kn.here.words k.kn.here.boxes h0 h1 hw.hm) (aH (fun _ h => h) ?_)
  refine dp 11 rfl (pmv rfl) <| dp 12 rfl (pex rfl) <| dp 13 rfl (pex rfl) <| dp 14 rfl (pas rfl) <| dp 15 rfl (pas rfl) <| dd <| aC <| sr <| lp (pmv rfl) rfl <| lp (peq rfl) rfl <| lp (pmv rfl) rfl <| gp (wi rfl rfl rfl) (pmv rfl) rfl <| kY (wi rfl rfl rfl) <| fcv kF rfl (fun W k => told_is  W) <| gp (wi rfl rfl rfl) (peq rfl) rfl <| lp (ppt rfl rfl) rfl <| nt ?_
  by_cases c1 : T.m.get (lineS T.c T.t) = 5
  refine aQ rfl (aA c1) <| aU <| lp (pfa bL 0 rfl) rfl <| lp (pfa aN 16 rfl) rfl <| lp (pfa bG 16 rfl) rfl <| lx rfl <| fst 1 [_, (g1, Ce 151 (tc { T with th := { T.th with ph := 14 } } s))] cG rfl rfl <| nt <| sr <| lp (pfa bL 0 rfl) rfl <| lr (ral 1 aL rfl) rfl <| lx rfl <| ffl 0 [(g2, Ce 124 (tc { T with th := { T.th with ph := 14 } } s)), _] aZ rfl rfl <| nt <| aF <| aG _ (res1 rfl (aO 0 37 aL rfl rfl rfl)) (fun W k => ?_)
  exact RetT.of (by simp [waitS, c1]) k.kn.here.weak k.below
  refine aM rfl (aB c1) <| aI <| aC <| sr <| lp (pfa bL 0 rfl) rfl <| lr (ral 1 aL rfl) rfl <| lx rfl <| ffl 0 [(g2, Ce 124 (tc T s)), _] aZ rfl rfl <| nt <| aF <| aG _ (res1 rfl (aO 0 37 aL rfl rfl rfl)) (fun W k => ?_)
  exact RetT.of (by simp [waitS, c1]) k.kn.here.weak k.below
theorem fetch_is (L : Nat → Prop) (s : Sl) (T : Tn) (hw : TnOk T) (w : World) (cx : Cx L w) (hr : RT L s T w) (h0 : 0 ≤ resultS T.c T.t) (h1 : resultS T.c T.t < T.m.words.length) : Calls Tryz.prog 84 [.agg (tc T s)].toArray w (RetT L w (fetchS T)) := by
  have hc := hw.c
  refine ent 33 Tryz.func84 rfl (Kb.start cx (RTL.kn0 hr)) <| sr <| lx rfl <| fba rfl fun g1 => ?_
  refine lx rfl <| fal bH rfl fun g2 => ?_
  refine nt <| aE <| dst [] <| dp 0 rfl (pfa bL 0 rfl) <| dp 1 rfl (pfa bJ 14 rfl) <| dp 3 rfl (pfa bL 0 rfl) <| dp 4 rfl (pfa bK 0 rfl) <| dp 6 rfl (pfa bL 0 rfl) <| dp 7 rfl (pfa cO 12 rfl) <| dr 2 rfl (fun _ h => h) (rro 1 (mc T.m s.words s.boxes) bI rfl) <| dr 5 rfl (fun _ h => h) (rro 1 T.c.cells bM rfl) <| dr 8 rfl (fun _ h => h) (rce 1 (I T.t) aJ rfl) <| dx 9 rfl <| fcv lV rfl (fun W k => result_is _ T.c hc T.t W k.cx) (aH (fun _ h => h) ?_)
  refine dx 10 rfl <| fcv jR rfl (fun W k => mload_is _ T.m s.words s.boxes (resultS T.c T.t) W k.cx k.kn.here.words k.kn.here.boxes h0 h1 hw.hm) (aH (fun _ h => h) ?_)
  refine dp 11 rfl (pmv rfl) <| dp 12 rfl (pex rfl) <| dp 13 rfl (pex rfl) <| dp 14 rfl (pas rfl) <| dp 15 rfl (pas rfl) <| dd <| aC <| aE <| sr <| lp (pmv rfl) rfl <| lp (pne rfl) rfl <| nt <| aM rfl (congrArg not rfl) <| aI <| aC <| sr <| lp (pmv rfl) rfl <| lp (pfa bL 0 rfl) rfl <| lp (pfa aN 16 rfl) rfl <| lp (pfa dH 30 rfl) rfl <| lx rfl <| fst 1 [_, (g1, Ce 151 (tc { T with th := { T.th with x := T.m.get (resultS T.c T.t) } } s))] cG rfl rfl <| lp (pfa bL 0 rfl) rfl <| lp (pfa aN 16 rfl) rfl <| lp (pfa cK 25 rfl) rfl <| lx rfl <| fst 1 [_, (g1, Ce 151 (tc { T with th := { T.th with x := T.m.get (resultS T.c T.t), at_ := 0 } } s))] cG rfl rfl <| nt <| sr <| lp (pfa bL 0 rfl) rfl <| lr (ral 1 aL rfl) rfl <| lx rfl <| fca lW rfl (fun W k => settle_is _ s { T with th := { T.th with x := T.m.get (resultS T.c T.t), at_ := 0 } } W k.cx ⟨k.kn.here.words, k.kn.here.boxes, k.kn.here.batch, k.kn.here.kids, k.kn.here.held, k.kn.here.tl, k.kn.here.log⟩) ?_
  rintro _ _ W3 k ⟨s1, T1, hT1, rfl, hR1, hb1⟩
  refine nx ((k.call hb1).and hR1.kn) <| lx rfl <| ffl 0 [(g2, Ce 124 (tc T1 s1)), _] aZ rfl rfl <| nt <| aF <| aG _ (res1 rfl (aO 0 37 aL rfl rfl rfl)) (fun W k => ?_)
  exact RetT.of (by simp [fetchS, *]) k.kn.here.1.weak k.below
theorem tell_is (L : Nat → Prop) (s : Sl) (T : Tn) (hw : TnOk T) (w : World) (cx : Cx L w) (hr : RT L s T w) (hk : 0 ≤ T.th.at_ ∧ T.th.at_ < T.th.kids.length) (ha : T.th.kids.length ≤ 1000) (h0 : 0 ≤ lineS T.c (kidS T).t) (h1 : lineS T.c (kidS T).t < T.m.words.length) : Calls Tryz.prog 86 [.agg (tc T s)].toArray w (RetT L w (tellS T)) := by
  have hc := hw.c
  refine ent 48 Tryz.func86 rfl (Kb.start cx (RTL.kn0 hr)) <| sr <| lx rfl <| fba rfl fun g1 => ?_
  refine lx rfl <| fal bH rfl fun g2 => ?_
  refine nt <| sr <| lr (ral 1 fY rfl) rfl <| lx rfl <| fin lT rfl (fun W k => ?_)
  refine ent 32 Tryz.func109 rfl k <| sr <| lx rfl <| fba rfl fun g3 => ?_
  refine lx rfl <| fal dU rfl fun g4 => ?_
  refine lp (pas rfl) rfl <| nt <| aE <| sr <| lp (pfa bL 0 rfl) rfl <| lp (pfa aN 16 rfl) rfl <| lp (pfa cK 25 rfl) rfl <| lr (rce 1 (I T.th.at_) aJ rfl) rfl <| lp (pls rfl) rfl <| lp (pmv rfl) rfl <| gp (wi rfl (aB (by omega)) rfl) (pfa bL 0 rfl) rfl <| gp (wi rfl (aB (by omega)) rfl) (pfa aN 16 rfl) rfl <| gp (wi rfl (aB (by omega)) rfl) (pfa cK 25 rfl) rfl <| gr (wi rfl (aB (by omega)) rfl) (rce 1 (I T.th.at_) aJ rfl) rfl <| gp (wi rfl (aB (by omega)) rfl) (pfa bL 0 rfl) rfl <| gp (wi rfl (aB (by omega)) rfl) (pfa aN 16 rfl) rfl <| gp (wi rfl (aB (by omega)) rfl) (pfa eT 21 rfl) rfl <| gr (wi rfl (aB (by omega)) rfl) (rce 1 (.slice s.kids.A T.th.kids.length s.kids.c) dQ rfl) rfl <| gp (wi rfl (aB (by omega)) rfl) (pln fQ rfl) rfl <| gp (wi rfl (aB (by omega)) rfl) (pge rfl) rfl <| lp (ppf (aB (by omega)) rfl) rfl <| nt <| aM rfl (aB (by omega)) <| aI <| aC <| sr <| lp (pfa bL 0 rfl) rfl <| lp (pfa aN 16 rfl) rfl <| lp (pfa eT 21 rfl) rfl <| lr (rce 1 (.slice s.kids.A T.th.kids.length s.kids.c) dQ rfl) rfl <| lp (pfa bL 0 rfl) rfl <| lp (pfa aN 16 rfl) rfl <| lp (pfa cK 25 rfl) rfl <| lr (rce 1 (I T.th.at_) aJ rfl) rfl <| bP (fun W k => RS.addr k.kn.here.kids (by simp only [List.length_map, ecs_len, kcs_len, mcs_len]; omega)) ?_
  rintro ⟨B1, p1, hA1⟩
  refine lp (pix lU rfl hA1 (by omega) (by omega)) rfl <| lr (dE 2 (#[I ((T.th.kids.getD (T.th.at_).toNat ki0).t), I ((T.th.kids.getD (T.th.at_).toNat ki0).ah)]) eA rfl rfl rfl (fun W k => RS.rng k.kn.here.kids hA1 _ (by simp only [kcs_len]; omega) (kcs_at T.th.kids _ (by omega) (by omega)))) rfl <| lx rfl <| ffl 0 [(g4, Ce 180 (#[I ((T.th.kids.getD (T.th.at_).toNat ki0).t), I ((T.th.kids.getD (T.th.at_).toNat ki0).ah)])), _, _, _] fG rfl rfl <| lp (pas rfl) rfl <| nt <| aF <| aG _ (res2 rfl (aO 0 2 eA rfl rfl rfl) (aD rfl)) (fun W k => ?_)
  refine nx k <| lp (pmv rfl) rfl <| lp (pex rfl) rfl <| lp (pex rfl) rfl <| lx rfl <| fal dU rfl fun g5 => ?_
  refine lx rfl <| ffl 0 [(g5, Ce 180 (#[I ((T.th.kids.getD (T.th.at_).toNat ki0).t), I ((T.th.kids.getD (T.th.at_).toNat ki0).ah)])), _, _, _, _] fG rfl rfl <| lp (pas rfl) rfl <| nt <| aE <| sr <| lp (pmv rfl) rfl <| lp (pno rfl) rfl <| nt <| aM rfl (congrArg not rfl) <| aI <| aC <| aE <| cJ (σ := Hd × Nat) (fun x1 => [(1, .pointer (some ⟨g1, 0, none⟩)), (2, .pointer (some ⟨g2, 0, none⟩)), (5, .pointer (some ⟨x1.2, 0, none⟩)), (6, I 0)]) (fun x1 => [(x1.2, Ce 32 (mc (T.m.set (lineS T.c ((T.th.kids.getD (T.th.at_).toNat ki0).t)) 5) x1.1 s.boxes)), (g5, Ce 180 (#[I ((T.th.kids.getD (T.th.at_).toNat ki0).t), I ((T.th.kids.getD (T.th.at_).toNat ki0).ah)])), (g4, Ce 180 (#[I ((T.th.kids.getD (T.th.at_).toNat ki0).t), I ((T.th.kids.getD (T.th.at_).toNat ki0).ah)])), (g3, Ce 151 (tc T s)), (g2, Ce 124 (tc tn0 sl0)), (g1, Ce 151 (tc T s))]) (fun x1 F O W => RS (Av L O) x1.1 (T.m.set (lineS T.c ((T.th.kids.getD (T.th.at_).toNat ki0).t)) 5).words.length ((T.m.set (lineS T.c ((T.th.kids.getD (T.th.at_).toNat ki0).t)) 5).words.map I) W ∧ F O W) ?_ ?_
  refine dst [15] <| dp 0 rfl (pfa bL 0 rfl) <| dp 1 rfl (pfa bJ 14 rfl) <| dp 3 rfl (pfa bL 0 rfl) <| dp 4 rfl (pfa bK 0 rfl) <| dp 6 rfl (pfa kG 0 rfl) <| dr 2 rfl (fun _ h => h) (rro 4 (mc T.m s.words s.boxes) bI rfl) <| dr 5 rfl (fun _ h => h) (rro 4 T.c.cells bM rfl) <| dr 7 rfl (fun _ h => h) (rce 0 (I ((T.th.kids.getD (T.th.at_).toNat ki0).t)) aJ rfl) <| d2 8 14 rfl ?_ ?_
  refine fcv fE rfl (fun W k => line_is _ T.c hc ((T.th.kids.getD (T.th.at_).toNat ki0).t) W k.cx) (aH (fun _ h => h) ?_)
  refine d2 9 14 rfl ?_ ?_
  refine fcv kF rfl (fun W k => told_is  W) (aH (fun _ h => h) ?_)
  refine d2 10 14 rfl ?_ ?_
  refine fca dR rfl (fun W k => mstore_is _ T.m s.words s.boxes (lineS T.c ((T.th.kids.getD (T.th.at_).toNat ki0).t)) 5 W k.cx k.kn.here.words k.kn.here.boxes h0 h1 hw.hm) ?_
  rintro _ _ W1_10a k ⟨ma1_10a, rfl, hr1_10a, hb1_10a⟩
  refine nx ((k.call hb1_10a).and hr1_10a.kn) (aH (fun _ h => h.drop) ?_)
  refine dp 11 rfl (pmv rfl) <| dp 12 rfl (pex rfl) <| dp 13 rfl (pex rfl) <| dx 14 rfl <| fal bF rfl fun g1_14a => ?_
  refine aH (fun _ h => (h.leave 0).drop) <| dl 15 rfl <| ffl 0 [(g1_14a, Ce 32 (mc (T.m.set (lineS T.c ((T.th.kids.getD (T.th.at_).toNat ki0).t)) 5) ma1_10a s.boxes)), _, _, _, _, _] bN rfl rfl <| dp 16 rfl (pas rfl) <| dd ?_
  exact bE (σ := Hd × Nat) (ma1_10a, g1_14a) ⟨rfl, rfl, rfl, rfl, trivial⟩ (fun W k => (k.re fun O W h => ⟨h.1, h.2⟩))
  refine fal bF rfl fun g1_14a => ?_
  refine aH (fun _ h => (h.leave 0)) <| dx 10 rfl <| fca dR rfl (fun W k => mstore_is _ T.m s.words s.boxes (lineS T.c ((T.th.kids.getD (T.th.at_).toNat ki0).t)) 5 W k.cx k.kn.here.words k.kn.here.boxes h0 h1 hw.hm) ?_
  rintro _ _ W1_10a k ⟨ma1_10a, rfl, hr1_10a, hb1_10a⟩
  refine nx ((k.call hb1_10a).and hr1_10a.kn) (aH (fun _ h => (h.leave 0).drop) ?_)
  refine dp 11 rfl (pmv rfl) <| dp 12 rfl (pex rfl) <| dp 13 rfl (pex rfl) <| dl 15 rfl <| ffl 0 [(g1_14a, Ce 32 (mc (T.m.set (lineS T.c ((T.th.kids.getD (T.th.at_).toNat ki0).t)) 5) ma1_10a s.boxes)), _, _, _, _, _] bN rfl rfl <| dp 16 rfl (pas rfl) <| dd ?_
  exact bE (σ := Hd × Nat) (ma1_10a, g1_14a) ⟨rfl, rfl, rfl, rfl, trivial⟩ (fun W k => (k.re fun O W h => ⟨h.1, h.2⟩))
  refine fal bF rfl fun g1_14a => ?_
  refine aH (fun _ h => (h.leave 0)) <| dx 9 rfl <| fcv kF rfl (fun W k => told_is  W) (aH (fun _ h => (h.leave 0)) ?_)
  refine dx 10 rfl <| fca dR rfl (fun W k => mstore_is _ T.m s.words s.boxes (lineS T.c ((T.th.kids.getD (T.th.at_).toNat ki0).t)) 5 W k.cx k.kn.here.words k.kn.here.boxes h0 h1 hw.hm) ?_
  rintro _ _ W1_10a k ⟨ma1_10a, rfl, hr1_10a, hb1_10a⟩
  refine nx ((k.call hb1_10a).and hr1_10a.kn) (aH (fun _ h => (h.leave 0).drop) ?_)
  refine dp 11 rfl (pmv rfl) <| dp 12 rfl (pex rfl) <| dp 13 rfl (pex rfl) <| dl 15 rfl <| ffl 0 [(g1_14a, Ce 32 (mc (T.m.set (lineS T.c ((T.th.kids.getD (T.th.at_).toNat ki0).t)) 5) ma1_10a s.boxes)), _, _, _, _, _] bN rfl rfl <| dp 16 rfl (pas rfl) <| dd ?_
  exact bE (σ := Hd × Nat) (ma1_10a, g1_14a) ⟨rfl, rfl, rfl, rfl, trivial⟩ (fun W k => (k.re fun O W h => ⟨h.1, h.2⟩))
  refine fal bF rfl fun g1_14a => ?_
  refine aH (fun _ h => (h.leave 0)) <| dx 8 rfl <| fcv fE rfl (fun W k => line_is _ T.c hc ((T.th.kids.getD (T.th.at_).toNat ki0).t) W k.cx) (aH (fun _ h => (h.leave 0)) ?_)
  refine dx 9 rfl <| fcv kF rfl (fun W k => told_is  W) (aH (fun _ h => (h.leave 0)) ?_)
  refine dx 10 rfl <| fca dR rfl (fun W k => mstore_is _ T.m s.words s.boxes (lineS T.c ((T.th.kids.getD (T.th.at_).toNat ki0).t)) 5 W k.cx k.kn.here.words k.kn.here.boxes h0 h1 hw.hm) ?_
  rintro _ _ W1_10a k ⟨ma1_10a, rfl, hr1_10a, hb1_10a⟩
  refine nx ((k.call hb1_10a).and hr1_10a.kn) (aH (fun _ h => (h.leave 0).drop) ?_)
  refine dp 11 rfl (pmv rfl) <| dp 12 rfl (pex rfl) <| dp 13 rfl (pex rfl) <| dl 15 rfl <| ffl 0 [(g1_14a, Ce 32 (mc (T.m.set (lineS T.c ((T.th.kids.getD (T.th.at_).toNat ki0).t)) 5) ma1_10a s.boxes)), _, _, _, _, _] bN rfl rfl <| dp 16 rfl (pas rfl) <| dd ?_
  exact bE (σ := Hd × Nat) (ma1_10a, g1_14a) ⟨rfl, rfl, rfl, rfl, trivial⟩ (fun W k => (k.re fun O W h => ⟨h.1, h.2⟩))
  intro x1
  refine aC <| aE <| sr <| lp (pmv rfl) rfl <| lp (pne rfl) rfl <| nt <| aM rfl (congrArg not rfl) <| aI <| aC <| sr <| lr (ral 0 bI rfl) rfl <| lp (pfa bL 0 rfl) rfl <| lp (pfa bJ 14 rfl) rfl <| lx rfl <| fst 5 [_, _, _, _, _, (g1, Ce 151 (tc { T with m := T.m.set (lineS T.c ((T.th.kids.getD (T.th.at_).toNat ki0).t)) 5 } { s with words := x1.1, boxes := s.boxes }))] bN rfl rfl <| nt <| sr <| lp (pfa bL 0 rfl) rfl <| lp (pfa aN 16 rfl) rfl <| lp (pfa cK 25 rfl) rfl <| lr (rce 5 (I T.th.at_) aJ rfl) rfl <| lp (pad (T.th.at_ + 1) (by unfold wrap64; omega) rfl) rfl <| lp (pfa bL 0 rfl) rfl <| lp (pfa aN 16 rfl) rfl <| lp (pfa cK 25 rfl) rfl <| lx rfl <| fst 5 [_, _, _, _, _, (g1, Ce 151 (tc { T with m := T.m.set (lineS T.c ((T.th.kids.getD (T.th.at_).toNat ki0).t)) 5, th := { T.th with at_ := T.th.at_ + 1 } } { s with words := x1.1, boxes := s.boxes }))] cG rfl rfl <| nt <| sr <| lp (pfa bL 0 rfl) rfl <| lr (ral 5 aL rfl) rfl <| lx rfl <| fca lW rfl (fun W k => settle_is _ { s with words := x1.1, boxes := s.boxes } { T with m := T.m.set (lineS T.c ((T.th.kids.getD (T.th.at_).toNat ki0).t)) 5, th := { T.th with at_ := T.th.at_ + 1 } } W k.cx ⟨k.kn.here.1, k.kn.here.2.boxes, k.kn.here.2.batch, k.kn.here.2.kids, k.kn.here.2.held, k.kn.here.2.tl, k.kn.here.2.log⟩) ?_
  rintro _ _ W1 k ⟨s1, T1, hT1, rfl, hR1, hb1⟩
  refine nx ((k.call hb1).and hR1.kn) <| lx rfl <| ffl 4 [_, _, _, _, (g2, Ce 124 (tc T1 s1)), _] aZ rfl rfl <| nt <| aF <| aG _ (res1 rfl (aO 4 37 aL rfl rfl rfl)) (fun W k => ?_)
  exact RetT.of (by simp [tellS, kidS, *]) k.kn.here.1.weak k.below
end Go.Proofs.YtgbkjnikcnjbkaaGreat.Top
