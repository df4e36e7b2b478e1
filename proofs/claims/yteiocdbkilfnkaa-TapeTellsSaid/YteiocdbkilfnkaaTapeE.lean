/- The walk of the statement TapeSkips. -/
import Derived.Test.YteiocdbkilfnkaaTapeD
namespace Go.Proofs.Yteiocdbkilfnkaa.Tape
open Go Go.RowKit Go.Conc Go.Proofs.YteiocdbkilfnkaaW.PrintWords Go.Proofs.YteiocdbkilfnkaaW.PrintMore
attribute [local go_sem] max2_int min2_int max_two min_two

/-- What lies in the law's blocks. -/
structure Sk (A : Option Addr) (n c : Nat) (xs : Nat → Int) (x Y2 V : Int) (w0 : World) (b7 b8 b10 : Nat) (w : World) : Prop where
  s : Still A n xs w0 w
  x3 : BX w0.heap.size A n c x w
  x7 : BX b7 A n c Y2 w
  x8 : BX b8 A n c Y2 w
  x10 : BX b10 A n c V w
theorem Sk.below {A : Option Addr} {n c : Nat} {xs : Nat → Int} {x Y2 V : Int} {w0 w w' : World} {b7 b8 b10 : Nat} (h : Sk A n c xs x Y2 V w0 b7 b8 b10 w) (hb : Below w.heap.size w w') : Sk A n c xs x Y2 V w0 b7 b8 b10 w' :=
  ⟨h.s.below hb, h.x3.below hb, h.x7.below hb, h.x8.below hb, h.x10.below hb⟩
theorem Sk.cells {A : Option Addr} {n c : Nat} {xs : Nat → Int} {x Y2 V : Int} {w w' : World} {b7 b8 b10 : Nat} (h : Sk A n c xs x Y2 V w b7 b8 b10 w') : w'.cell? ⟨w.heap.size, 0, none⟩ = some (.slice A n c) ∧ w'.cell? ⟨w.heap.size, 1, none⟩ = some (.int .i64 x) ∧ w'.cell? ⟨b7, 0, none⟩ = some (.slice A n c) ∧ w'.cell? ⟨b7, 1, none⟩ = some (.int .i64 Y2) ∧ w'.cell? ⟨b8, 0, none⟩ = some (.slice A n c) ∧ w'.cell? ⟨b8, 1, none⟩ = some (.int .i64 Y2) ∧ w'.cell? ⟨b10, 0, none⟩ = some (.slice A n c) ∧ w'.cell? ⟨b10, 1, none⟩ = some (.int .i64 V) ∧ Aside0 (Sk A n c xs x Y2 V w b7 b8 b10 w') :=
  ⟨h.x3.2.1, h.x3.2.2, h.x7.2.1, h.x7.2.2, h.x8.2.1, h.x8.2.2, h.x10.2.1, h.x10.2.2, Aside0.mk h⟩
theorem sk_of {A : Option Addr} {n c : Nat} {xs : Nat → Int} {x Y2 V : Int} {w w' : World} {b7 b8 b10 : Nat} (h : w'.cell? ⟨w.heap.size, 0, none⟩ = some (.slice A n c) ∧ w'.cell? ⟨w.heap.size, 1, none⟩ = some (.int .i64 x) ∧ w'.cell? ⟨b7, 0, none⟩ = some (.slice A n c) ∧ w'.cell? ⟨b7, 1, none⟩ = some (.int .i64 Y2) ∧ w'.cell? ⟨b8, 0, none⟩ = some (.slice A n c) ∧ w'.cell? ⟨b8, 1, none⟩ = some (.int .i64 Y2) ∧ w'.cell? ⟨b10, 0, none⟩ = some (.slice A n c) ∧ w'.cell? ⟨b10, 1, none⟩ = some (.int .i64 V) ∧ Aside0 (Sk A n c xs x Y2 V w b7 b8 b10 w')) : Sk A n c xs x Y2 V w b7 b8 b10 w' := h.2.2.2.2.2.2.2.2.out
theorem skips_out (A : Option Addr) (n c : Nat) (x a b : Int) (w : World) (h1 : 200 < (n : Int)) :
    Calls Try.prog 10 #[.agg #[.slice A n c, .int .i64 x], .int .u8 a, .int .u8 b] w fun e w' => e = .returned (.bool true) ∧ Below w.heap.size w w' := by
  have HB := Aside0.mk (Below.refl w.heap.size w)
  go_enter Try.func10, Try.ntmps10
  go_wp2_with (first | (go_at_call 21; (with_reducible refine (shown_any _).mono ?_); rintro e w1 ⟨rfl, hb⟩))
  go_ret
  exact ⟨rfl, below_step (by with_reducible repeat (first | exact HB.out | apply below_alloc)) hb⟩
set_option maxHeartbeats 4000000 in
set_option maxRecDepth 100000 in
theorem skips_in (A : Option Addr) (n c : Nat) (xs : Nat → Int) (x a b Y1 Y2 V D L L2 : Int) (w : World) (hR : Aside0 (Reads A n xs w)) (hn : ¬ 200 < (n : Int)) (ha : 0 ≤ a) (ha2 : a ≤ 255) (hb0 : 0 ≤ b) (hb2 : b ≤ 255)
    (hx : Hid (-9223372036854775808 ≤ x ∧ x ≤ 9223372036854775807)) (hx1 : Hid (-9223372036854775808 ≤ Y1 ∧ Y1 ≤ 9223372036854775807)) (hx2 : Hid (-9223372036854775808 ≤ Y2 ∧ Y2 ≤ 9223372036854775807)) (hnn : Hid ((n : Int) ≤ 9223372036854775807))
    (hY1 : Hid (skipY n x a = Y1)) (hY2 : Hid (skipY n Y1 b = Y2)) (hY3 : Hid (skipY n x (a + b) = Y2)) (hD : Hid (nextD n xs x = D)) (hV : Hid (nextY n x = V)) (hV2 : Hid (skipY n x 1 = V)) (hx3 : Hid (skipY n x (-1) = x)) (hL : Hid (leftS n x = L)) (hL2 : Hid (leftS n Y2 = L2))
    (l0 : 0 ≤ L) (l1 : L ≤ 200) (M : Int) (hM : (if b < L - a then L - a - b else 0) = M) (hLM : Hid (M = L2)) :
    Calls Try.prog 10 #[.agg #[.slice A n c, .int .i64 x], .int .u8 a, .int .u8 b] w fun e w' => e = .returned (.bool true) ∧ Below w.heap.size w w' := by
  obtain rfl := hLM.out
  have HS := Aside0.mk (show Still A n xs w w from ⟨Below.refl _ _, hR.out⟩)
  clear hR hLM
  have hfd := field29_1
  go_enter Try.func10, Try.ntmps10
  go_upto_region 6 with (first | (go_at_call 21; (with_reducible refine (shown_any _).mono ?_); rintro e wa ⟨rfl, hb⟩; have n0_ := Aside0.mk (Still.below (w0 := w) (by with_reducible repeat (first | exact HS.out | apply Still.alloc)) hb); clear HS; have HS := n0_; clear n0_; have X3 := Aside0.mk (BX.below (BX.new (A := A) (n := n) (c := c) (x := x) w 29) hb); clear hb; obtain ⟨pz, p0, p1⟩ := X3.out; have pn := Nat.ne_of_lt pz; have pm := (Nat.ne_of_lt pz).symm) | (go_at_call 30; (with_reducible refine (skip_is A n c x a Y1 _ hx hnn hY1).mono ?_); rintro e wb ⟨rfl, hb⟩; have n0_ := Aside0.mk (Still.below (w0 := w) (by with_reducible repeat (first | exact HS.out | apply Still.alloc)) hb); clear HS; have HS := n0_; clear n0_; have n1_ := Aside0.mk (BX.below (X3.out) hb); clear X3; have X3 := n1_; clear n1_; clear hb; obtain ⟨pz, p0, p1⟩ := X3.out; have pn := Nat.ne_of_lt pz; have pm := (Nat.ne_of_lt pz).symm) | (go_at_call 30; (with_reducible refine (skip_is A n c Y1 b Y2 _ hx1 hnn hY2).mono ?_); rintro e wc ⟨rfl, hb⟩; have n0_ := Aside0.mk (Still.below (w0 := w) (by with_reducible repeat (first | exact HS.out | apply Still.alloc)) hb); clear HS; have HS := n0_; clear n0_; have n1_ := Aside0.mk (BX.below (X3.out) hb); clear X3; have X3 := n1_; clear n1_; clear hb; obtain ⟨pz, p0, p1⟩ := X3.out; have pn := Nat.ne_of_lt pz; have pm := (Nat.ne_of_lt pz).symm) | (go_at_call 30; (with_reducible refine (skip_is A n c x (a + b) Y2 _ hx hnn hY3).mono ?_); rintro e wd ⟨rfl, hb⟩; have n0_ := Aside0.mk (Still.below (w0 := w) (by with_reducible repeat (first | exact HS.out | apply Still.alloc)) hb); clear HS; have HS := n0_; clear n0_; have n1_ := Aside0.mk (BX.below (X3.out.alloc _) hb); clear X3; have X3 := n1_; clear n1_; have X7 := Aside0.mk (BX.below (BX.new (A := A) (n := n) (c := c) (x := Y2) wc 29) hb); clear hb; obtain ⟨pz, p0, p1⟩ := X3.out; have pn := Nat.ne_of_lt pz; have pm := (Nat.ne_of_lt pz).symm) | (go_at_call 22; (with_reducible refine (next_is A n c xs x D V _ ?_ hx hnn hD hV).mono ?_); (case refine_1 => exact (show Still A n xs w _ by with_reducible repeat (first | exact HS.out | apply Still.alloc)).2); rintro e we ⟨rfl, hb⟩; have n0_ := Aside0.mk (Still.below (w0 := w) (by with_reducible repeat (first | exact HS.out | apply Still.alloc)) hb); clear HS; have HS := n0_; clear n0_; have n1_ := Aside0.mk (BX.below (X3.out.alloc _) hb); clear X3; have X3 := n1_; clear n1_; have n1_ := Aside0.mk (BX.below (X7.out.alloc _) hb); clear X7; have X7 := n1_; clear n1_; have X8 := Aside0.mk (BX.below (BX.new (A := A) (n := n) (c := c) (x := Y2) wd 29) hb); clear hb; obtain ⟨pz, p0, p1⟩ := X3.out; have pn := Nat.ne_of_lt pz; have pm := (Nat.ne_of_lt pz).symm))
  have hk : Sk A n c xs x Y2 V w wc.heap.size wd.heap.size we.heap.size (we.alloc (.cells #[.slice A n c, .int .i64 V] 29)) := ⟨HS.out.alloc _, X3.out.alloc _, X7.out.alloc _, X8.out.alloc _, BX.new _ _⟩
  clear HS X3 X7 X8 pz p0 p1 pn pm
  have hk2 := Aside0.mk hk
  clear hk
  generalize we.alloc (.cells #[.slice A n c, .int .i64 V] 29) = W4 at hk2 ⊢
  generalize wc.heap.size = b7 at hk2 ⊢
  generalize wd.heap.size = b8 at hk2 ⊢
  generalize we.heap.size = b10 at hk2 ⊢
  have hkd := Aside0.mk (hk2.out.below (below_drew1 (Below.refl W4.heap.size W4)))
  have hwa : IntKind.i64.wrap a = a := by rw [Go.IntKind.wrap_i64]; omega
  have hwb : IntKind.i64.wrap b = b := by rw [Go.IntKind.wrap_i64]; omega
  have hw1 : IntKind.i64.wrap (L - a) = L - a := by rw [Go.IntKind.wrap_i64]; omega
  have hw2 : IntKind.i64.wrap (L - a - b) = L - a - b := by rw [Go.IntKind.wrap_i64]; omega
  go_region_held3 (fun w' => w'.cell? ⟨w.heap.size, 0, none⟩ = some (.slice A n c) ∧ w'.cell? ⟨w.heap.size, 1, none⟩ = some (.int .i64 x) ∧ w'.cell? ⟨b7, 0, none⟩ = some (.slice A n c) ∧ w'.cell? ⟨b7, 1, none⟩ = some (.int .i64 Y2) ∧ w'.cell? ⟨b8, 0, none⟩ = some (.slice A n c) ∧ w'.cell? ⟨b8, 1, none⟩ = some (.int .i64 Y2) ∧ w'.cell? ⟨b10, 0, none⟩ = some (.slice A n c) ∧ w'.cell? ⟨b10, 1, none⟩ = some (.int .i64 V) ∧ Aside0 (Sk A n c xs x Y2 V w b7 b8 b10 w')) (first | exact hkd.out.cells | exact hkn.out.cells) (first | (go_at_call 30; (with_reducible refine (skip_is A n c x 1 V _ hx hnn hV2).mono ?_); rintro e wf ⟨rfl, hb⟩; have hkn := Aside0.mk ((sk_of (by assumption)).below hb); clear hb) | (go_at_call 28; (with_reducible refine (left_h A n c Y2 M _ hx2 hnn hL2).mono ?_); rintro e wg ⟨rfl, hb⟩; have hkn := Aside0.mk ((sk_of (by assumption)).below hb); clear hb) | (go_at_call 28; (with_reducible refine (left_h A n c x L _ hx hnn hL).mono ?_); rintro e wh ⟨rfl, hb⟩; have hkn := Aside0.mk ((sk_of (by assumption)).below hb); clear hb) | (go_at_call 30; (with_reducible refine (skip_is A n c x (-1) x _ hx hnn hx3).mono ?_); rintro e wi ⟨rfl, hb⟩; have hkn := Aside0.mk ((sk_of (by assumption)).below hb); clear hb))
  go_wp2
  go_ret
  exact ⟨rfl, hkn.out.s.1⟩
theorem skip_skip (n : Nat) (x a b : Int) (ha : 0 ≤ a) (hb : 0 ≤ b) : skipY n (skipY n x a) b = skipY n x (a + b) ∧ leftS n (skipY n x (a + b)) = (if b < leftS n x - a then leftS n x - a - b else 0) := by
  unfold skipY leftS
  constructor
  all_goals (repeat' split) <;> omega
theorem skip_one (n : Nat) (x : Int) : skipY n x 1 = nextY n x ∧ skipY n x (-1) = x := by
  unfold skipY leftS nextY
  constructor
  all_goals (repeat' split) <;> omega
theorem skips_law (A : Option Addr) (n c : Nat) (xs : Nat → Int) (x a b : Int) (w : World) (hR : Reads A n xs w) (hx : -9223372036854775808 ≤ x ∧ x ≤ 9223372036854775807) (hn : (n : Int) ≤ 9223372036854775807) (ha : 0 ≤ a ∧ a ≤ 255) (hb : 0 ≤ b ∧ b ≤ 255) :
    Calls Try.prog 10 #[.agg #[.slice A n c, .int .i64 x], .int .u8 a, .int .u8 b] w fun e w' => e = .returned (.bool true) ∧ Below w.heap.size w w' := by
  by_cases h : 200 < (n : Int)
  · exact skips_out A n c x a b w h
  · have h1 := skip_bound n x a
    have h2 := skip_bound n (skipY n x a) b
    have h3 := skip_skip n x a b ha.1 hb.1
    have h4 := skip_one n x
    have h5 := leftS_bound n x
    have h6 : leftS n x ≤ 200 := by omega
    refine skips_in A n c xs x a b (skipY n x a) (skipY n (skipY n x a) b) (nextY n x) _ (leftS n x) _ w (Aside0.mk hR) h ha.1 ha.2 hb.1 hb.2 hx ?_ ?_ hn rfl rfl h3.1.symm rfl rfl h4.1 h4.2 rfl rfl h5.1 h6 _ rfl ?_
    · exact ⟨by omega, by omega⟩
    · exact ⟨by omega, by omega⟩
    · rw [h3.1]; exact h3.2.symm
end Go.Proofs.Yteiocdbkilfnkaa.Tape
