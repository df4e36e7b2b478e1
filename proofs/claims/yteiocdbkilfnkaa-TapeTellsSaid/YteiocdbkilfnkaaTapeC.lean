/- The statements' own words over the program's tape: shown, its. -/
import Derived.Test.YteiocdbkilfnkaaTapeB
namespace Go.Proofs.Yteiocdbkilfnkaa.Tape
open Go Go.RowKit Go.Conc Go.Proofs.YteiocdbkilfnkaaW.PrintWords Go.Proofs.YteiocdbkilfnkaaW.PrintMore

theorem bcell {W w1 : World} (hb : Below W.heap.size W w1) : (∀ b o, b < W.heap.size → w1.cell? ⟨b, o, none⟩ = W.cell? ⟨b, o, none⟩) ∧ (∀ b o, b < W.heap.size → w1.frozen? ⟨b, o, none⟩ = W.frozen? ⟨b, o, none⟩) :=
  ⟨fun b o h => hb.cell (p := ⟨b, o, none⟩) h, fun b o h => hb.frozen (p := ⟨b, o, none⟩) h⟩

/-- What shown's two draws lie in. -/
def Pair (b : Nat) (w : World) : Prop := b < w.heap.size ∧ w.cell? ⟨b, 0 + 0, none⟩ = some (.int .i64 7) ∧ w.cell? ⟨b, 0 + 1, none⟩ = some (.int .i64 (-1))
theorem Pair.below {b : Nat} {w w' : World} (h : Pair b w) (hb : Below w.heap.size w w') : Pair b w' :=
  ⟨Nat.lt_of_lt_of_le h.1 hb.size, (hb.cell (p := ⟨b, 0 + 0, none⟩) h.1).trans h.2.1, (hb.cell (p := ⟨b, 0 + 1, none⟩) h.1).trans h.2.2⟩
theorem Pair.alloc {b : Nat} {w : World} (h : Pair b w) (o : Obj) : Pair b (w.alloc o) := h.below ((Below.refl _ _).alloc (Nat.le_refl _) o)

theorem bsize {W w1 : World} (hb : Below W.heap.size W w1) : W.heap.size ≤ w1.heap.size := hb.size
theorem left2 : leftS 2 0 = 2 := by decide
theorem left1 : leftS 2 1 = 1 := by decide
theorem left0 : leftS 2 2 = 0 := by decide
theorem sh1 (b : Nat) (w : World) (h : Pair b w) :
    Calls Try.prog 22 #[.agg #[.slice (some ⟨b, 0, none⟩) 2 2, .int .i64 0]] w fun e w' => e = .returned (.tuple #[.int .i64 7, .agg #[.slice (some ⟨b, 0, none⟩) 2 2, .int .i64 1]]) ∧ Below w.heap.size w w' :=
  next_some b 0 2 2 0 7 w (by omega) (by omega) left2 h.1 h.2.1
theorem sh2 (b : Nat) (w : World) (h : Pair b w) :
    Calls Try.prog 25 #[.agg #[.slice (some ⟨b, 0, none⟩) 2 2, .int .i64 1], .int .i64 5] w fun e w' => e = .returned (.tuple #[.int .i64 4, .agg #[.slice (some ⟨b, 0, none⟩) 2 2, .int .i64 2]]) ∧ Below w.heap.size w w' :=
  below_next (some ⟨b, 0, none⟩) 2 2 1 2 (-1) 5 4 w (by omega) (by omega) (by decide : (-1 : Int) % 5 = 4) (fun w1 hb =>
    next_some b 0 2 2 1 (-1) w1 (by omega) (by omega) left1 (Pair.below h hb).1 (Pair.below h hb).2.2)
theorem sh3 (b : Nat) (w : World) :
    Calls Try.prog 22 #[.agg #[.slice (some ⟨b, 0, none⟩) 2 2, .int .i64 2]] w fun e w' => e = .returned (.tuple #[.int .i64 0, .agg #[.slice (some ⟨b, 0, none⟩) 2 2, .int .i64 2]]) ∧ Below w.heap.size w w' :=
  next_none (some ⟨b, 0, none⟩) 2 2 2 w (by omega) (by omega) (by omega) left0
theorem sh4 (b : Nat) (w : World) : Calls Try.prog 28 #[.agg #[.slice (some ⟨b, 0, none⟩) 2 2, .int .i64 0]] w fun e w' => e = .returned (.int .i64 2) ∧ Below w.heap.size w w' :=
  left_is _ 2 2 0 2 w (by omega) (by omega) (by omega) left2
theorem sh5 (b : Nat) (w : World) : Calls Try.prog 28 #[.agg #[.slice (some ⟨b, 0, none⟩) 2 2, .int .i64 2]] w fun e w' => e = .returned (.int .i64 0) ∧ Below w.heap.size w w' :=
  left_is _ 2 2 2 0 w (by omega) (by omega) (by omega) left0
theorem sh6 (b : Nat) (w : World) : Calls Try.prog 30 #[.agg #[.slice (some ⟨b, 0, none⟩) 2 2, .int .i64 0], .int .i64 1] w fun e w' => e = .returned (.agg #[.slice (some ⟨b, 0, none⟩) 2 2, .int .i64 1]) ∧ Below w.heap.size w w' :=
  skip_any _ 2 2 0 1 2 1 1 w (by omega) (by omega) (by omega) left2 (by decide) (by decide) (by omega) (by omega)

theorem field29_1 (A : Option Addr) (n c : Nat) (x : Int) (w : World) : (Instr.field 29 (.agg #[.slice A n c, .int .i64 x]) 1).run Try.prog w = .ok (.int .i64 x) w := by kernel_rfl
/-- A tape lies in a block. -/
def BX (b : Nat) (A : Option Addr) (n c : Nat) (x : Int) (w : World) : Prop := b < w.heap.size ∧ w.cell? ⟨b, 0, none⟩ = some (.slice A n c) ∧ w.cell? ⟨b, 1, none⟩ = some (.int .i64 x)
theorem BX.below {b : Nat} {A : Option Addr} {n c : Nat} {x : Int} {w w' : World} (h : BX b A n c x w) (hb : Below w.heap.size w w') : BX b A n c x w' :=
  ⟨Nat.lt_of_lt_of_le h.1 hb.size, (hb.cell (p := ⟨b, 0, none⟩) h.1).trans h.2.1, (hb.cell (p := ⟨b, 1, none⟩) h.1).trans h.2.2⟩
theorem BX.alloc {b : Nat} {A : Option Addr} {n c : Nat} {x : Int} {w : World} (h : BX b A n c x w) (o : Obj) : BX b A n c x (w.alloc o) := h.below ((Below.refl _ _).alloc (Nat.le_refl _) o)
theorem BX.new {A : Option Addr} {n c : Nat} {x : Int} (w : World) (T : TypeId) : BX w.heap.size A n c x (w.alloc (.cells #[.slice A n c, .int .i64 x] T)) := by
  unfold BX
  exact ⟨by simp, by simp, by simp⟩

set_option maxRecDepth 100000 in
theorem shown_any (w : World) : Calls Try.prog 21 #[] w fun e w' => e = .returned (.bool true) ∧ Below w.heap.size w w' := by
  have HB := Aside0.mk (Below.refl w.heap.size w)
  have HP : Aside0 (Pair w.heap.size (w.alloc (Obj.cells #[.int .i64 7, .int .i64 (-1)] 3))) := Aside0.mk ⟨by simp, by simp, by simp⟩
  go_enter Try.func21, Try.ntmps21
  go_upto_region 5 with (first | (go_at_call 22; (with_reducible refine (sh1 w.heap.size _ ?_).mono ?_); (case refine_1 => with_reducible repeat (first | exact HP.out | apply Pair.alloc)); rintro e wa ⟨rfl, hb⟩; have n0_ := Aside0.mk (below_step (by with_reducible repeat (first | exact HB.out | apply below_alloc | apply pw_below_drewN | apply below_drew1)) hb); have n1_ := Aside0.mk (Pair.below (by with_reducible repeat (first | exact HP.out | apply Pair.alloc)) hb); have X1 := Aside0.mk (BX.below (BX.new (A := some ⟨w.heap.size, 0, none⟩) (n := 2) (c := 2) (x := 0) (w.alloc (.cells #[.int .i64 7, .int .i64 (-1)] 3)) 29) hb); clear HB HP hb; have HB := n0_; have HP := n1_; clear n0_ n1_) | (go_at_call 25; (with_reducible refine (sh2 w.heap.size _ ?_).mono ?_); (case refine_1 => with_reducible repeat (first | exact HP.out | apply Pair.alloc)); rintro e wb ⟨rfl, hb⟩; have n0_ := Aside0.mk (below_step (by with_reducible repeat (first | exact HB.out | apply below_alloc | apply pw_below_drewN | apply below_drew1)) hb); have n1_ := Aside0.mk (BX.below (BX.alloc X1.out _) hb); clear HB HP X1 hb; have HB := n0_; have X1 := n1_; clear n0_ n1_) | (go_at_call 22; (with_reducible refine (sh3 w.heap.size _).mono ?_); rintro e wc ⟨rfl, hb⟩; have n0_ := Aside0.mk (below_step (by with_reducible repeat (first | exact HB.out | apply below_alloc | apply pw_below_drewN | apply below_drew1)) hb); have n1_ := Aside0.mk (BX.below (BX.alloc X1.out _) hb); have X5 := Aside0.mk (BX.below (BX.new (A := some ⟨w.heap.size, 0, none⟩) (n := 2) (c := 2) (x := 2) wb 29) hb); clear HB X1 hb; have HB := n0_; have X1 := n1_; clear n0_ n1_))
  have n0_ := Aside0.mk (below_alloc HB.out (.cells #[.slice (some ⟨w.heap.size, 0, none⟩) 2 2, .int .i64 2] 29))
  have n1_ := Aside0.mk (X1.out.alloc (.cells #[.slice (some ⟨w.heap.size, 0, none⟩) 2 2, .int .i64 2] 29))
  have n2_ := Aside0.mk (X5.out.alloc (.cells #[.slice (some ⟨w.heap.size, 0, none⟩) 2 2, .int .i64 2] 29))
  have n3_ := (BX.new (A := some ⟨w.heap.size, 0, none⟩) (n := 2) (c := 2) (x := 2) wc 29)
  clear HB X1 X5
  simp only [World.size_alloc] at n1_
  generalize wc.alloc (.cells #[.slice (some ⟨w.heap.size, 0, none⟩) 2 2, .int .i64 2] 29) = W4 at n0_ n1_ n2_ n3_ ⊢
  have HB := n0_
  have X1 := n1_
  have X5 := n2_
  obtain ⟨_, q0, q1⟩ := n3_
  obtain ⟨_, p0, p1⟩ := X1.out
  obtain ⟨_, p2, p3⟩ := X5.out
  have hfd := field29_1
  go_wp2_with (first | (go_at_call 28; (with_reducible refine (sh4 w.heap.size _).mono ?_); rintro e wd ⟨rfl, hb⟩; have n0_ := Aside0.mk (below_step HB.out hb); have n1_ := Aside0.mk (X1.out.below hb); have n2_ := Aside0.mk (X5.out.below hb); obtain ⟨_, p0, p1⟩ := n1_.out; obtain ⟨_, p2, p3⟩ := n2_.out; clear HB X1 X5 hb; have HB := n0_; have X1 := n1_; have X5 := n2_; clear n0_ n1_ n2_) | (go_at_call 28; (with_reducible refine (sh5 w.heap.size _).mono ?_); rintro e we ⟨rfl, hb⟩; have n0_ := Aside0.mk (below_step HB.out hb); have n1_ := Aside0.mk (X1.out.below hb); have n2_ := Aside0.mk (X5.out.below hb); obtain ⟨_, p0, p1⟩ := n1_.out; obtain ⟨_, p2, p3⟩ := n2_.out; clear HB X1 X5 hb; have HB := n0_; have X1 := n1_; have X5 := n2_; clear n0_ n1_ n2_) | (go_at_call 30; (with_reducible refine (sh6 w.heap.size _).mono ?_); rintro e wf ⟨rfl, hb⟩; have n0_ := Aside0.mk (below_step HB.out hb); have n1_ := Aside0.mk (X1.out.below hb); have n2_ := Aside0.mk (X5.out.below hb); obtain ⟨_, p0, p1⟩ := n1_.out; obtain ⟨_, p2, p3⟩ := n2_.out; clear HB X1 X5 hb; have HB := n0_; have X1 := n1_; have X5 := n2_; clear n0_ n1_ n2_))
  go_ret
  exact ⟨rfl, HB.out⟩
end Go.Proofs.Yteiocdbkilfnkaa.Tape
