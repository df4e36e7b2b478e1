/- The program's tape: contracts of Left, ahead, Next, Below and Skip. -/
import Derived.Test.YteiocdbkilfnkaaProg
import Derived.Test.YteiocdbkilfnkaaWMore
import Derived.Conc.LoneSelect
import Derived.Outline
import Derived.WalkKit
import Derived.KernelRfl
import Derived.RegionTactic
import Derived.Deep.QuietTactic
import Derived.BigQuiet
import Derived.Laws.Rows
namespace Go.Proofs.Yteiocdbkilfnkaa.Tape
open Go Go.RowKit Go.Conc Go.Proofs.YteiocdbkilfnkaaW.PrintWords Go.Proofs.YteiocdbkilfnkaaW.PrintMore
attribute [local go_sem] max2_int min2_int max_two min_two

/-- How many draws are left. -/
def leftS (n : Nat) (at_ : Int) : Int := if at_ < 0 then 0 else if 0 < (n : Int) - at_ then (n : Int) - at_ else 0

theorem left_any (A : Option Addr) (n c : Nat) (x : Int) (w : World) (h0 : -9223372036854775808 ≤ x) (h1 : x ≤ 9223372036854775807) (hn : (n : Int) ≤ 9223372036854775807) :
    Calls Try.prog 28 #[.agg #[.slice A n c, .int .i64 x]] w fun e w' => e = .returned (.int .i64 (leftS n x)) ∧ Below w.heap.size w w' := by
  by_cases h : x < 0
  · have e : leftS n x = 0 := by unfold leftS; rw [if_pos h]
    rw [e]
    clear e
    go_enter Try.func28, Try.ntmps28
    go_wp2
    go_ret
    exact ⟨rfl, (Below.refl _ _).alloc (Nat.le_refl _) _⟩
  · by_cases h2 : 0 < (n : Int) - x
    · have e : leftS n x = (n : Int) - x := by unfold leftS; rw [if_neg h, if_pos h2]
      rw [e]
      clear e
      go_enter Try.func28, Try.ntmps28
      go_wp2
      go_ret
      exact ⟨rfl, (Below.refl _ _).alloc (Nat.le_refl _) _⟩
    · have e : leftS n x = 0 := by unfold leftS; rw [if_neg h, if_neg h2]
      rw [e]
      clear e
      go_enter Try.func28, Try.ntmps28
      go_wp2
      go_ret
      exact ⟨rfl, (Below.refl _ _).alloc (Nat.le_refl _) _⟩

theorem left_is (A : Option Addr) (n c : Nat) (x v : Int) (w : World) (h0 : -9223372036854775808 ≤ x) (h1 : x ≤ 9223372036854775807) (hn : (n : Int) ≤ 9223372036854775807) (hl : Hid (leftS n x = v)) :
    Calls Try.prog 28 #[.agg #[.slice A n c, .int .i64 x]] w fun e w' => e = .returned (.int .i64 v) ∧ Below w.heap.size w w' := by
  have h := left_any A n c x w h0 h1 hn
  rw [hl.out] at h
  exact h

/-! A walk that comes to a communication: what goes before it and behind it by 'wp'. -/
section
variable {P : Program} {cs : List Frame} {k : List Item} {a : Act} {w : World}
/-- A piece of code that ends as it should, ahead of the rest. -/
theorem lone_wp {Q : Goroutine → World → Prop} {b : Frame} {c : Code}
    (h : c.wp P (fun e a' w' => e = .normal ∧ LoneTo P Q (G (b.at a' k) cs) w') a w) : LoneTo P Q (G (b.at a (.code c :: k)) cs) w := by
  obtain ⟨e, a', w', ⟨rfl, g', w'', hs, hq⟩, harr⟩ := h b k cs
  exact ⟨g', w'', Steps.trans harr hs, hq⟩
/-- The code with which a body ends. -/
theorem lone_tail {R : Ending → World → Prop} {f : FuncId} {fn : Func} {c : Code} (hf : P.funcs[f]? = some fn) (hno : ∀ w', ¬ R .outgrown w')
    (h : c.wp P (bodyPost P fn R) a w) : LoneTo P (fun g' w' => ∃ e fr, g' = G fr cs ∧ R e w' ∧ fr.fn = f ∧ fr.leaving P w' e) (G ((base f).at a [.code c]) cs) w := by
  obtain ⟨e, a', w', hq, harr⟩ := h (base f) [] cs
  cases e with
  | normal =>
    obtain ⟨hd, v, hr, hR⟩ := hq
    exact ⟨_, w', Steps.trans harr (.one step_end), .returned v, _, rfl, hR, rfl, rfl, hd, rfl, fn, hf, hr⟩
  | ret =>
    obtain ⟨hd, v, hr, hR⟩ := hq
    obtain ⟨todo, hs⟩ := harr
    exact ⟨_, w', hs, .returned v, _, rfl, hR, rfl, rfl, hd, rfl, fn, hf, hr⟩
  | panic chain =>
    obtain ⟨hd, hR⟩ := hq
    obtain ⟨todo, hs⟩ := harr
    exact ⟨_, w', hs, .panicked chain, _, rfl, hR, rfl, rfl, hd, fn, hf⟩
  | exit id => exact hq.elim
  | goto l => exact hq.elim
  | outgrown => exact absurd hq (hno _)
end

theorem bytes3 : ∃ i, Try.prog.info? 3 = some i ∧ i.bytes = 8 := by
  have h : (Try.prog.info? 3).map (·.bytes) = some 8 := by kernel_rfl
  obtain ⟨i, hi, hb⟩ := Option.map_eq_some_iff.1 h
  exact ⟨i, hi, hb⟩
theorem mk1 (w : World) : (Instr.makeChan 56 (.int .i64 1)).run Try.prog w = .ok (.chan (some w.heap.size)) (w.alloc (.chan 1 #[] false 0 0 false)) := by
  obtain ⟨i, hi, hb⟩ := bytes3
  simpa using run_makeChan (P := Try.prog) (w := w) Try.underlying56 hi .i64 1 (by omega) (by rw [hb]; omega)

theorem alloc_two_new (w : World) (o o' : Obj) : ((w.alloc o).alloc o').heap[w.heap.size + 1]? = some o' := by
  have := heap_alloc_new (w.alloc o) o'
  simpa only [World.size_alloc] using this
/-- Nothing is left: an empty channel. -/
theorem ahead_none (A : Option Addr) (n c : Nat) (x : Int) (w : World) (h0 : -9223372036854775808 ≤ x) (h1 : x ≤ 9223372036854775807) (hn : (n : Int) ≤ 9223372036854775807) (hl : Hid (leftS n x = 0)) :
    Calls Try.prog 43 #[.agg #[.slice A n c, .int .i64 x]] w fun e w' => ∃ ch, e = .returned (.chan (some ch)) ∧ w'.heap[ch]? = some (.chan 1 #[] false 0 0 false) ∧ w.heap.size < ch ∧ Below w.heap.size w w' := by
  have hmc := mk1
  go_enter Try.func43, Try.ntmps43
  go_wp2_with (go_at_call 28; (with_reducible refine (left_is A n c x 0 _ h0 h1 hn hl).mono ?_); rintro e w1 ⟨rfl, hb⟩)
  go_ret
  refine ⟨w.heap.size + 1, by simp, ?_, by omega, ?_⟩
  · have h := hb.block (w.heap.size + 1) (by simp)
    rw [h]
    exact alloc_two_new _ _ _
  · exact below_step (((Below.refl _ _).alloc (Nat.le_refl _) _).alloc (by simp) _) hb

/-- A draw is left: a channel that holds it. -/
theorem ahead_some (b off n c : Nat) (i : Nat) (d : Int) (w : World) (hi : i < n) (hn : (n : Int) ≤ 9223372036854775807) (hl : Hid (leftS n (i : Int) = (n : Int) - i)) (hb : b < w.heap.size)
    (hc : w.cell? ⟨b, off + i, none⟩ = some (.int .i64 d)) :
    Calls Try.prog 43 #[.agg #[.slice (some ⟨b, off, none⟩) n c, .int .i64 (i : Int)]] w fun e w' => ∃ ch, e = .returned (.chan (some ch)) ∧ w'.heap[ch]? = some (.chan 1 #[.int .i64 d] false 1 0 false) ∧ w.heap.size < ch ∧ Below w.heap.size w w' := by
  refine calls_of_loneTo fun cs => ?_
  have e : Frame.enter Try.prog 43 #[.agg #[.slice (some ⟨b, off, none⟩) n c, .int .i64 (i : Int)]] .normal = (base 43).at ⟨#[.agg #[.slice (some ⟨b, off, none⟩) n c, .int .i64 (i : Int)], undef, undef, undef, undef, undef, undef, undef, undef, undef, undef, undef, undef, undef, undef, undef], []⟩ [.code (Try.f43.body.getD .skip)] := by
    simp [Frame.enter, Frame.at, Try.func43, base, Try.f43]
  rw [e]
  have hmc := mk1
  refine LoneTo.goes (n := 1) ?_
  simp only [Try.f43, Option.getD_some]
  s_c stepG_seq
  s_stop
  refine lone_wp ?_
  go_wp2
  refine LoneTo.goes (n := 1) ?_
  s_c stepG_seq
  s_stop
  refine lone_wp ?_
  go_wp2
  refine LoneTo.goes (n := 2) ?_
  s_c stepG_seq
  s_c stepG_seq
  s_stop
  refine lone_wp ?_
  go_wp2_with (go_at_call 28; (with_reducible refine (left_is _ n c i _ _ (by omega) (by omega) hn hl).mono ?_); rintro e w1 ⟨rfl, hB⟩)
  have hx0 : w1.cell? ⟨w.heap.size, 0, none⟩ = some (.slice (some ⟨b, off, none⟩) n c) := (hB.cell (p := ⟨w.heap.size, 0, none⟩) (by simp; omega)).trans (by simp)
  have hx1 : w1.cell? ⟨w.heap.size, 1, none⟩ = some (.int .i64 (i : Int)) := (hB.cell (p := ⟨w.heap.size, 1, none⟩) (by simp; omega)).trans (by simp)
  have hx2 : w1.cell? ⟨b, off + i, none⟩ = some (.int .i64 d) := (hB.cell (p := ⟨b, off + i, none⟩) (by simp; omega)).trans (((((Below.refl w.heap.size w).alloc (Nat.le_refl _) _).alloc (by simp) _).cell (p := ⟨b, off + i, none⟩) hb).trans hc)
  have hx3 : w1.heap[w.heap.size + 1]? = some (.chan 1 #[] false 0 0 false) := by
    rw [hB.block (w.heap.size + 1) (by simp)]
    exact alloc_two_new _ _ _
  refine LoneTo.goes (n := 9) ?_
  s_cond true
  s_reg
  s_op
  s_op
  s_op
  s_op
  s_op
  s_op
  s_op
  s_stop
  refine LoneTo.step (step_lone_send_room (c := w.heap.size + 1) (cap := 1) (buf := #[]) (s := 0) (r := 0) (tm := false) (stepG_comm (cases := #[scase (w.heap.size + 1) (.int .i64 d) (.tuple #[])]) (blocking := true) (shape := .send) (w' := w1) rfl rfl (by decide) (by simp [execOp, scase, Act.eval])) hx3 (by simp)) ?_
  rw [Frame.finish_at]
  walk_nrm
  refine LoneTo.goes (n := 1) ?_
  s_c stepG_region_end
  s_stop
  refine lone_tail Try.func43 (by rintro w' ⟨_, h, _⟩; cases h) ?_
  have hsz := hB.size
  simp only [World.size_alloc] at hsz
  go_wp2
  go_ret
  refine ⟨w.heap.size + 1, rfl, ?_, by omega, ?_⟩
  · rw [heap_setChan _ _ _ _ _ _ _ _ (by omega)]
  · exact below_setChan (below_step (((Below.refl _ _).alloc (Nat.le_refl _) _).alloc (by simp) _) hB) (by omega) _ _ _ _ _ _

/-- The cells that are no channel's read as before. -/
theorem cell_setChan (w : World) (c cap : Nat) (buf : Array Value) (cl : Bool) (s r : Nat) (tm : Bool) (p : Addr) (h : p.block ≠ c) : (w.setChan c cap buf cl s r tm).cell? p = w.cell? p := by
  simp [World.setChan, World.cell?, Array.getElem?_setIfInBounds_ne (Ne.symm h)]

theorem frozen_setChan (w : World) (c cap : Nat) (buf : Array Value) (cl : Bool) (s r : Nat) (tm : Bool) (p : Addr) (h : p.block ≠ c) : (w.setChan c cap buf cl s r tm).frozen? p = w.frozen? p := by
  simp [World.setChan, World.frozen?, Array.getElem?_setIfInBounds_ne (Ne.symm h)]
/-- Nothing is left: the draw is 0, the tape as it was. -/
theorem next_none (A : Option Addr) (n c : Nat) (x : Int) (w : World) (h0 : -9223372036854775808 ≤ x) (h1 : x ≤ 9223372036854775807) (hn : (n : Int) ≤ 9223372036854775807) (hl : Hid (leftS n x = 0)) :
    Calls Try.prog 22 #[.agg #[.slice A n c, .int .i64 x]] w fun e w' => e = .returned (.tuple #[.int .i64 0, .agg #[.slice A n c, .int .i64 x]]) ∧ Below w.heap.size w w' := by
  refine calls_of_loneTo fun cs => ?_
  have e : Frame.enter Try.prog 22 #[.agg #[.slice A n c, .int .i64 x]] .normal = (base 22).at ⟨#[.agg #[.slice A n c, .int .i64 x], undef, undef, undef, undef, undef, undef, undef, undef, undef, undef, undef, undef, undef, undef, undef, undef, undef], []⟩ [.code (Try.f22.body.getD .skip)] := by
    simp [Frame.enter, Frame.at, Try.func22, base, Try.f22]
  rw [e]
  refine LoneTo.goes (n := 1) ?_
  simp only [Try.f22, Option.getD_some]
  s_c stepG_seq
  s_stop
  refine lone_wp ?_
  go_wp2
  refine LoneTo.goes (n := 1) ?_
  s_c stepG_seq
  s_stop
  refine lone_wp ?_
  go_wp2_with (go_at_call 43; (with_reducible refine (ahead_none A n c x _ h0 h1 hn hl).mono ?_); rintro e w1 ⟨ch, rfl, hch, hlt, hB⟩)
  have hsz := hB.size
  simp only [World.size_alloc] at hsz hlt
  have hx0 : w1.cell? ⟨w.heap.size, 0, none⟩ = some (.slice A n c) := (hB.cell (p := ⟨w.heap.size, 0, none⟩) (by simp; omega)).trans (by simp)
  have hx1 : w1.cell? ⟨w.heap.size, 1, none⟩ = some (.int .i64 x) := (hB.cell (p := ⟨w.heap.size, 1, none⟩) (by simp; omega)).trans (by simp)
  have hx2 : w1.cell? ⟨w.heap.size + 1, 0, none⟩ = some (.slice none 0 0) := (hB.cell (p := ⟨w.heap.size + 1, 0, none⟩) (by simp)).trans (by simp)
  have hx3 : w1.cell? ⟨w.heap.size + 1, 1, none⟩ = some (.int .i64 0) := (hB.cell (p := ⟨w.heap.size + 1, 1, none⟩) (by simp)).trans (by simp)
  have hf0 : w1.frozen? ⟨w.heap.size + 1, 0, none⟩ = false := (hB.frozen (p := ⟨w.heap.size + 1, 0, none⟩) (by simp)).trans (by simp)
  have hf1 : w1.frozen? ⟨w.heap.size + 1, 1, none⟩ = false := (hB.frozen (p := ⟨w.heap.size + 1, 1, none⟩) (by simp)).trans (by simp)
  have HB := below_step (((Below.refl w.heap.size w).alloc (Nat.le_refl _) _).alloc (by simp) _) hB
  refine LoneTo.goes (n := 2) ?_
  s_c stepG_seq
  s_reg
  s_stop
  refine LoneTo.step (step_lone_select_default (c := ch) (z := .int .i64 0) (cap := 1) (s := 0) (r := 0) (tm := false) (stepG_comm (cases := #[rcase ch (.int .i64 0)]) (blocking := false) (shape := .select) (w' := w1) rfl rfl (by decide) (by simp [go_sem, execOp, rcase, Act.eval])) hch) ?_
  rw [Frame.finish_at]
  walk_nrm
  refine LoneTo.goes (n := 3) ?_
  s_op
  s_op
  s_c stepG_region_end
  s_stop
  refine lone_tail Try.func22 (by rintro w' ⟨h, _⟩; cases h) ?_
  clear hch hB e hl
  go_wp2
  go_region
  go_wp2
  refine bodyPost_ret (v := .tuple #[.int .i64 0, .agg #[.slice A n c, .int .i64 x]]) (by simp [results, Try.results22, go_sem, hx2, hx3]) rfl ⟨rfl, ?_⟩
  exact below_drew1 ((HB.setCell (by simp) _).setCell (by simp) _)

/-- A draw is left: it is the one, and the tape goes on. -/
theorem next_some (b off n c : Nat) (i : Nat) (d : Int) (w : World) (hi : i < n) (hn : (n : Int) ≤ 9223372036854775807) (hl : Hid (leftS n (i : Int) = (n : Int) - i)) (hb : b < w.heap.size)
    (hc : w.cell? ⟨b, off + i, none⟩ = some (.int .i64 d)) :
    Calls Try.prog 22 #[.agg #[.slice (some ⟨b, off, none⟩) n c, .int .i64 (i : Int)]] w fun e w' => e = .returned (.tuple #[.int .i64 d, .agg #[.slice (some ⟨b, off, none⟩) n c, .int .i64 ((i : Int) + 1)]]) ∧ Below w.heap.size w w' := by
  refine calls_of_loneTo fun cs => ?_
  have e : Frame.enter Try.prog 22 #[.agg #[.slice (some ⟨b, off, none⟩) n c, .int .i64 (i : Int)]] .normal = (base 22).at ⟨#[.agg #[.slice (some ⟨b, off, none⟩) n c, .int .i64 (i : Int)], undef, undef, undef, undef, undef, undef, undef, undef, undef, undef, undef, undef, undef, undef, undef, undef, undef], []⟩ [.code (Try.f22.body.getD .skip)] := by
    simp [Frame.enter, Frame.at, Try.func22, base, Try.f22]
  rw [e]
  refine LoneTo.goes (n := 1) ?_
  simp only [Try.f22, Option.getD_some]
  s_c stepG_seq
  s_stop
  refine lone_wp ?_
  go_wp2
  refine LoneTo.goes (n := 1) ?_
  s_c stepG_seq
  s_stop
  refine lone_wp ?_
  have hc2 : (((w.alloc (Obj.cells #[Value.slice (some ⟨b, off, none⟩) n c, Value.int IntKind.i64 (i : Int)] 29)).alloc (Obj.cells #[Value.slice none 0 0, Value.int IntKind.i64 0] 29))).cell? ⟨b, off + i, none⟩ = some (.int .i64 d) :=
    ((((Below.refl w.heap.size w).alloc (Nat.le_refl _) _).alloc (by simp) _).cell (p := ⟨b, off + i, none⟩) hb).trans hc
  go_wp2_with (go_at_call 43; (with_reducible refine (ahead_some b off n c i d _ hi hn hl (by simp; omega) hc2).mono ?_); rintro e w1 ⟨ch, rfl, hch, hlt, hB⟩)
  have hsz := hB.size
  simp only [World.size_alloc] at hsz hlt
  have hx0 : w1.cell? ⟨w.heap.size, 0, none⟩ = some (.slice (some ⟨b, off, none⟩) n c) := (hB.cell (p := ⟨w.heap.size, 0, none⟩) (by simp; omega)).trans (by simp)
  have hx1 : w1.cell? ⟨w.heap.size, 1, none⟩ = some (.int .i64 (i : Int)) := (hB.cell (p := ⟨w.heap.size, 1, none⟩) (by simp; omega)).trans (by simp)
  have hx2 : w1.cell? ⟨w.heap.size + 1, 0, none⟩ = some (.slice none 0 0) := (hB.cell (p := ⟨w.heap.size + 1, 0, none⟩) (by simp)).trans (by simp)
  have hx3 : w1.cell? ⟨w.heap.size + 1, 1, none⟩ = some (.int .i64 0) := (hB.cell (p := ⟨w.heap.size + 1, 1, none⟩) (by simp)).trans (by simp)
  have hf0 : w1.frozen? ⟨w.heap.size + 1, 0, none⟩ = false := (hB.frozen (p := ⟨w.heap.size + 1, 0, none⟩) (by simp)).trans (by simp)
  have hf1 : w1.frozen? ⟨w.heap.size + 1, 1, none⟩ = false := (hB.frozen (p := ⟨w.heap.size + 1, 1, none⟩) (by simp)).trans (by simp)
  have hf2 : w1.frozen? ⟨w.heap.size, 1, none⟩ = false := (hB.frozen (p := ⟨w.heap.size, 1, none⟩) (by simp; omega)).trans (by simp)
  have HB := below_step (((Below.refl w.heap.size w).alloc (Nat.le_refl _) _).alloc (by simp) _) hB
  have hcs : ch < w1.heap.size := by
    rcases Nat.lt_or_ge ch w1.heap.size with h | h
    · exact h
    · rw [Array.getElem?_eq_none h] at hch; cases hch
  refine LoneTo.goes (n := 2) ?_
  s_c stepG_seq
  s_reg
  s_stop
  refine LoneTo.step (step_lone_select_recv_buf (c := ch) (z := .int .i64 0) (stepG_comm (cases := #[rcase ch (.int .i64 0)]) (blocking := false) (shape := .select) (w' := w1) rfl rfl (by decide) (by simp [go_sem, execOp, rcase, Act.eval])) hch (by simp)) ?_
  have HB2 := below_setChan HB (c := ch) (by omega) 1 (#[Value.int IntKind.i64 d].extract 1 #[Value.int IntKind.i64 d].size) false 1 (0 + 1) false
  have fr : ∀ v : Nat → Nat, True := fun _ => trivial
  rw [Frame.finish_at]
  obtain ⟨w2, hw2⟩ : ∃ w2, w2 = w1.setChan ch 1 (#[Value.int IntKind.i64 d].extract 1 #[Value.int IntKind.i64 d].size) false 1 (0 + 1) false := ⟨_, rfl⟩
  have hy0 : w2.cell? ⟨w.heap.size, 0, none⟩ = some (.slice (some ⟨b, off, none⟩) n c) := by rw [hw2, cell_setChan _ _ _ _ _ _ _ _ _ (by simp; omega), hx0]
  have hy1 : w2.cell? ⟨w.heap.size, 1, none⟩ = some (.int .i64 (i : Int)) := by rw [hw2, cell_setChan _ _ _ _ _ _ _ _ _ (by simp; omega), hx1]
  have hy2 : w2.cell? ⟨w.heap.size + 1, 0, none⟩ = some (.slice none 0 0) := by rw [hw2, cell_setChan _ _ _ _ _ _ _ _ _ (by simp; omega), hx2]
  have hy3 : w2.cell? ⟨w.heap.size + 1, 1, none⟩ = some (.int .i64 0) := by rw [hw2, cell_setChan _ _ _ _ _ _ _ _ _ (by simp; omega), hx3]
  have hg0 : w2.frozen? ⟨w.heap.size + 1, 0, none⟩ = false := by rw [hw2, frozen_setChan _ _ _ _ _ _ _ _ _ (by simp; omega), hf0]
  have hg1 : w2.frozen? ⟨w.heap.size + 1, 1, none⟩ = false := by rw [hw2, frozen_setChan _ _ _ _ _ _ _ _ _ (by simp; omega), hf1]
  have hg2 : w2.frozen? ⟨w.heap.size, 1, none⟩ = false := by rw [hw2, frozen_setChan _ _ _ _ _ _ _ _ _ (by simp; omega), hf2]
  rw [← hw2] at HB2 ⊢
  clear hw2 hx0 hx1 hx2 hx3 hf0 hf1 hf2 hch hlt hcs hB HB hsz fr
  walk_nrm
  refine LoneTo.goes (n := 3) ?_
  s_op
  s_op
  s_c stepG_region_end
  s_stop
  refine lone_tail Try.func22 (by rintro w' ⟨h, _⟩; cases h) ?_
  clear e hl hc2
  go_wp2
  go_region
  go_wp2
  refine bodyPost_ret (v := .tuple #[.int .i64 d, .agg #[.slice (some ⟨b, off, none⟩) n c, .int .i64 ((i : Int) + 1)]]) (by simp [results, Try.results22, go_sem, hy2, hy3]) rfl ⟨rfl, ?_⟩
  exact below_drew1 (((HB2.setCell (by simp) _).setCell (by simp) _).setCell (by simp) _)

/-- 'Below' a number that is less than 1: 0, and the tape as it was. -/
theorem below_low (A : Option Addr) (n c : Nat) (x m : Int) (w : World) (hm : m < 1) :
    Calls Try.prog 25 #[.agg #[.slice A n c, .int .i64 x], .int .i64 m] w fun e w' => e = .returned (.tuple #[.int .i64 0, .agg #[.slice A n c, .int .i64 x]]) ∧ Below w.heap.size w w' := by
  go_enter Try.func25, Try.ntmps25
  go_wp2
  go_region
  go_wp2
  refine bodyPost_ret (v := .tuple #[.int .i64 0, .agg #[.slice A n c, .int .i64 x]]) (by simp [results, Try.results25, go_sem]) rfl ⟨rfl, ?_⟩
  exact below_drew1 (((Below.refl w.heap.size w).alloc (Nat.le_refl _) _).alloc (by simp) _)

theorem cell_alloc_lt (w : World) (o : Obj) (b k : Nat) (h : b < w.heap.size) : (w.alloc o).cell? ⟨b, k, none⟩ = w.cell? ⟨b, k, none⟩ :=
  ((Below.refl w.heap.size w).alloc (Nat.le_refl _) o).cell (p := ⟨b, k, none⟩) h
theorem tmod_low (d m : Int) (hm : 1 ≤ m) : -m < d.tmod m := Int.lt_tmod_of_pos d (by omega)
theorem emod_of_tmod (d m : Int) (hm : 1 ≤ m) : d % m = if d.tmod m < 0 then d.tmod m + m else d.tmod m := by
  have h1 := tmod_low d m hm
  have h2 := Int.tmod_lt_of_pos d (b := m) (by omega)
  have h3 : d.tmod m % m = d % m := by
    have := Int.tmod_add_mul_tdiv d m
    conv => rhs; rw [← this]
    rw [Int.add_mul_emod_self_left]
  rw [← h3]
  split
  · rw [← Int.add_emod_right, Int.emod_eq_of_lt (by omega) (by omega)]
  · rw [Int.emod_eq_of_lt (by omega) (by omega)]

/-- Below a number: what the next draw leaves, whatever Next tells. -/
theorem below_next (A : Option Addr) (n c : Nat) (x y d m r : Int) (w : World) (hm : 1 ≤ m) (hm2 : m ≤ 9223372036854775807) (hr : Hid (d % m = r))
    (hN : ∀ w1 : World, Below w.heap.size w w1 → Calls Try.prog 22 #[.agg #[.slice A n c, .int .i64 x]] w1 fun e w' => e = .returned (.tuple #[.int .i64 d, .agg #[.slice A n c, .int .i64 y]]) ∧ Below w1.heap.size w1 w') :
    Calls Try.prog 25 #[.agg #[.slice A n c, .int .i64 x], .int .i64 m] w fun e w' => e = .returned (.tuple #[.int .i64 r, .agg #[.slice A n c, .int .i64 y]]) ∧ Below w.heap.size w w' := by
  have hN' := Aside0.mk hN
  clear hN
  have ht1 : -m < d.tmod m := tmod_low d m hm
  have ht2 : d.tmod m < m := Int.tmod_lt_of_pos d (by omega)
  by_cases h : d.tmod m < 0
  · have hr' : d.tmod m + m = r := by rw [← hr.out, emod_of_tmod d m hm, if_pos h]
    subst hr'
    clear hr
    go_enter Try.func25, Try.ntmps25
    go_wp2_with (go_at_call 22; (with_reducible refine (hN'.out _ (((Below.refl w.heap.size w).alloc (Nat.le_refl _) _).alloc (by simp) _)).mono ?_); rintro e w1 ⟨rfl, hB⟩)
    have hsz := hB.size
    simp only [World.size_alloc] at hsz
    have hx2 : w1.cell? ⟨w.heap.size + 1, 0, none⟩ = some (.slice none 0 0) := (hB.cell (p := ⟨w.heap.size + 1, 0, none⟩) (by simp)).trans (by simp)
    have hx3 : w1.cell? ⟨w.heap.size + 1, 1, none⟩ = some (.int .i64 0) := (hB.cell (p := ⟨w.heap.size + 1, 1, none⟩) (by simp)).trans (by simp)
    have hf0 : w1.frozen? ⟨w.heap.size + 1, 0, none⟩ = false := (hB.frozen (p := ⟨w.heap.size + 1, 0, none⟩) (by simp)).trans (by simp)
    have hf1 : w1.frozen? ⟨w.heap.size + 1, 1, none⟩ = false := (hB.frozen (p := ⟨w.heap.size + 1, 1, none⟩) (by simp)).trans (by simp)
    have HB := below_step (((Below.refl w.heap.size w).alloc (Nat.le_refl _) _).alloc (by simp) _) hB
    have hlt : w.heap.size + 1 < w1.heap.size := by omega
    have hlt2 : ¬ w1.heap.size = w.heap.size + 1 := by omega
    have hlt3 : ¬ w.heap.size + 1 = w1.heap.size := by omega
    have hz0 : (w1.alloc (.cells #[.slice A n c, .int .i64 y] 29)).cell? ⟨w.heap.size + 1, 0, none⟩ = some (.slice none 0 0) := (((Below.refl w1.heap.size w1).alloc (Nat.le_refl _) _).cell (p := ⟨w.heap.size + 1, 0, none⟩) hlt).trans hx2
    have hz1 : (w1.alloc (.cells #[.slice A n c, .int .i64 y] 29)).cell? ⟨w.heap.size + 1, 1, none⟩ = some (.int .i64 0) := (((Below.refl w1.heap.size w1).alloc (Nat.le_refl _) _).cell (p := ⟨w.heap.size + 1, 1, none⟩) hlt).trans hx3
    have hz2 : (w1.alloc (.cells #[.slice A n c, .int .i64 y] 29)).frozen? ⟨w.heap.size + 1, 0, none⟩ = false := (((Below.refl w1.heap.size w1).alloc (Nat.le_refl _) _).frozen (p := ⟨w.heap.size + 1, 0, none⟩) hlt).trans hf0
    have hz3 : (w1.alloc (.cells #[.slice A n c, .int .i64 y] 29)).frozen? ⟨w.heap.size + 1, 1, none⟩ = false := (((Below.refl w1.heap.size w1).alloc (Nat.le_refl _) _).frozen (p := ⟨w.heap.size + 1, 1, none⟩) hlt).trans hf1
    go_wp2
    go_region
    go_wp2
    refine bodyPost_ret (v := .tuple #[.int .i64 (d.tmod m + m), .agg #[.slice A n c, .int .i64 y]]) (by simp [results, Try.results25, go_sem, hx2, hx3, cell_alloc_lt, hlt]) rfl ⟨rfl, ?_⟩
    exact below_drew1 (((HB.setCell (by simp) _).setCell (by simp) _).alloc (by simp; omega) _)
  · have hr' : d.tmod m = r := by rw [← hr.out, emod_of_tmod d m hm, if_neg h]
    subst hr'
    clear hr
    go_enter Try.func25, Try.ntmps25
    go_wp2_with (go_at_call 22; (with_reducible refine (hN'.out _ (((Below.refl w.heap.size w).alloc (Nat.le_refl _) _).alloc (by simp) _)).mono ?_); rintro e w1 ⟨rfl, hB⟩)
    have hsz := hB.size
    simp only [World.size_alloc] at hsz
    have hx2 : w1.cell? ⟨w.heap.size + 1, 0, none⟩ = some (.slice none 0 0) := (hB.cell (p := ⟨w.heap.size + 1, 0, none⟩) (by simp)).trans (by simp)
    have hx3 : w1.cell? ⟨w.heap.size + 1, 1, none⟩ = some (.int .i64 0) := (hB.cell (p := ⟨w.heap.size + 1, 1, none⟩) (by simp)).trans (by simp)
    have hf0 : w1.frozen? ⟨w.heap.size + 1, 0, none⟩ = false := (hB.frozen (p := ⟨w.heap.size + 1, 0, none⟩) (by simp)).trans (by simp)
    have hf1 : w1.frozen? ⟨w.heap.size + 1, 1, none⟩ = false := (hB.frozen (p := ⟨w.heap.size + 1, 1, none⟩) (by simp)).trans (by simp)
    have HB := below_step (((Below.refl w.heap.size w).alloc (Nat.le_refl _) _).alloc (by simp) _) hB
    have hlt : w.heap.size + 1 < w1.heap.size := by omega
    have hlt2 : ¬ w1.heap.size = w.heap.size + 1 := by omega
    have hlt3 : ¬ w.heap.size + 1 = w1.heap.size := by omega
    have hz0 : (w1.alloc (.cells #[.slice A n c, .int .i64 y] 29)).cell? ⟨w.heap.size + 1, 0, none⟩ = some (.slice none 0 0) := (((Below.refl w1.heap.size w1).alloc (Nat.le_refl _) _).cell (p := ⟨w.heap.size + 1, 0, none⟩) hlt).trans hx2
    have hz1 : (w1.alloc (.cells #[.slice A n c, .int .i64 y] 29)).cell? ⟨w.heap.size + 1, 1, none⟩ = some (.int .i64 0) := (((Below.refl w1.heap.size w1).alloc (Nat.le_refl _) _).cell (p := ⟨w.heap.size + 1, 1, none⟩) hlt).trans hx3
    have hz2 : (w1.alloc (.cells #[.slice A n c, .int .i64 y] 29)).frozen? ⟨w.heap.size + 1, 0, none⟩ = false := (((Below.refl w1.heap.size w1).alloc (Nat.le_refl _) _).frozen (p := ⟨w.heap.size + 1, 0, none⟩) hlt).trans hf0
    have hz3 : (w1.alloc (.cells #[.slice A n c, .int .i64 y] 29)).frozen? ⟨w.heap.size + 1, 1, none⟩ = false := (((Below.refl w1.heap.size w1).alloc (Nat.le_refl _) _).frozen (p := ⟨w.heap.size + 1, 1, none⟩) hlt).trans hf1
    go_wp2
    go_region
    go_wp2
    refine bodyPost_ret (v := .tuple #[.int .i64 (d.tmod m), .agg #[.slice A n c, .int .i64 y]]) (by simp [results, Try.results25, go_sem, hx2, hx3, cell_alloc_lt, hlt]) rfl ⟨rfl, ?_⟩
    exact below_drew1 (((HB.setCell (by simp) _).setCell (by simp) _).alloc (by simp; omega) _)
end Go.Proofs.Yteiocdbkilfnkaa.Tape
