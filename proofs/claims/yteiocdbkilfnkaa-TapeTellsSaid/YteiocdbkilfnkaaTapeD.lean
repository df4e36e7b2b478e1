/- The walks of the statements TapeBelow, TapeSpent and TapeSkips, over the contracts of the program's tape. -/
import Derived.Test.YteiocdbkilfnkaaTapeC
import Derived.Deep.RegionHeld3
namespace Go.Proofs.Yteiocdbkilfnkaa.Tape
open Go Go.RowKit Go.Conc Go.Proofs.YteiocdbkilfnkaaW.PrintWords Go.Proofs.YteiocdbkilfnkaaW.PrintMore
attribute [local go_sem] max2_int min2_int max_two min_two

/-- The slice's elements, as they can be read. -/
def Reads (A : Option Addr) (n : Nat) (xs : Nat → Int) (w : World) : Prop := n = 0 ∨ ∃ b off, A = some ⟨b, off, none⟩ ∧ b < w.heap.size ∧ ∀ i, i < n → w.cell? ⟨b, off + i, none⟩ = some (.int .i64 (xs i))
theorem Reads.below {A : Option Addr} {n : Nat} {xs : Nat → Int} {w w' : World} (h : Reads A n xs w) (hb : Below w.heap.size w w') : Reads A n xs w' := by
  rcases h with h | ⟨b, off, rfl, h1, h2⟩
  · exact .inl h
  · exact .inr ⟨b, off, rfl, Nat.lt_of_lt_of_le h1 hb.size, fun i hi => (hb.cell (p := ⟨b, off + i, none⟩) h1).trans (h2 i hi)⟩
theorem cell_lt {w : World} {b k : Nat} {v : Value} (h : w.cell? ⟨b, k, none⟩ = some v) : b < w.heap.size := by
  rcases Nat.lt_or_ge b w.heap.size with g | g
  · exact g
  · simp [World.cell?, Array.getElem?_eq_none g] at h
theorem lit64 {x : Int} (h : (Lit.int .i64 x).wf = true) : -9223372036854775808 ≤ x ∧ x ≤ 9223372036854775807 := by
  simpa [Lit.wf, IntKind.min, IntKind.max, IntKind.signed, IntKind.bits] using h
theorem lit8 {x : Int} (h : (Lit.int .u8 x).wf = true) : 0 ≤ x ∧ x ≤ 255 := by
  simpa [Lit.wf, IntKind.min, IntKind.max, IntKind.signed, IntKind.bits] using h
theorem Reads.base {A : Option Addr} {n : Nat} {xs : Nat → Int} {w w' : World} (h : Reads A n xs w) (hb : Below w.heap.size w w') : Reads A n xs w' := h.below hb
/-- The draw, and the place behind it. -/
def nextD (n : Nat) (xs : Nat → Int) (x : Int) : Int := if 0 ≤ x ∧ x < n then xs x.toNat else 0
def nextY (n : Nat) (x : Int) : Int := if 0 ≤ x ∧ x < n then x + 1 else x
theorem next_any (A : Option Addr) (n c : Nat) (xs : Nat → Int) (x : Int) (w : World) (hR : Reads A n xs w) (h0 : -9223372036854775808 ≤ x) (h1 : x ≤ 9223372036854775807) (hn : (n : Int) ≤ 9223372036854775807) :
    Calls Try.prog 22 #[.agg #[.slice A n c, .int .i64 x]] w fun e w' => e = .returned (.tuple #[.int .i64 (nextD n xs x), .agg #[.slice A n c, .int .i64 (nextY n x)]]) ∧ Below w.heap.size w w' := by
  unfold nextD nextY
  by_cases h : 0 ≤ x ∧ x < n
  · rw [if_pos h, if_pos h]
    rcases hR with h2 | ⟨b, off, rfl, h2, h3⟩
    · omega
    · obtain ⟨i, rfl⟩ : ∃ i : Nat, x = i := ⟨x.toNat, by omega⟩
      exact next_some b off n c i (xs i) w (by omega) hn (by unfold leftS; show _ = _; rw [if_neg (by omega), if_pos (by omega)]) h2 (h3 i (by omega))
  · rw [if_neg h, if_neg h]
    exact next_none A n c x w h0 h1 hn (by show _ = _; unfold leftS; by_cases g : x < 0; · rw [if_pos g]
                                           · rw [if_neg g, if_neg (by omega)])
def belowD (n : Nat) (xs : Nat → Int) (x m : Int) : Int := if m < 1 then 0 else nextD n xs x % m
def belowY (n : Nat) (x m : Int) : Int := if m < 1 then x else nextY n x
theorem below_any (A : Option Addr) (n c : Nat) (xs : Nat → Int) (x m : Int) (w : World) (hR : Reads A n xs w) (h0 : -9223372036854775808 ≤ x) (h1 : x ≤ 9223372036854775807) (hn : (n : Int) ≤ 9223372036854775807) (hm : m ≤ 9223372036854775807) :
    Calls Try.prog 25 #[.agg #[.slice A n c, .int .i64 x], .int .i64 m] w fun e w' => e = .returned (.tuple #[.int .i64 (belowD n xs x m), .agg #[.slice A n c, .int .i64 (belowY n x m)]]) ∧ Below w.heap.size w w' := by
  unfold belowD belowY
  by_cases h : m < 1
  · rw [if_pos h, if_pos h]
    exact below_low A n c x m w h
  · rw [if_neg h, if_neg h]
    exact below_next A n c x (nextY n x) (nextD n xs x) m _ w (by omega) hm rfl fun w1 hb => next_any A n c xs x w1 (hR.below hb) h0 h1 hn

/-- The arms of a walk: each under names that stand for what is told. -/
theorem next_is (A : Option Addr) (n c : Nat) (xs : Nat → Int) (x D Y : Int) (w : World) (hR : Reads A n xs w) (hx : Hid (-9223372036854775808 ≤ x ∧ x ≤ 9223372036854775807)) (hn : Hid ((n : Int) ≤ 9223372036854775807)) (hD : Hid (nextD n xs x = D)) (hY : Hid (nextY n x = Y)) :
    Calls Try.prog 22 #[.agg #[.slice A n c, .int .i64 x]] w fun e w' => e = .returned (.tuple #[.int .i64 D, .agg #[.slice A n c, .int .i64 Y]]) ∧ Below w.heap.size w w' := by
  rw [← hD.out, ← hY.out]
  exact next_any A n c xs x w hR hx.out.1 hx.out.2 hn.out
theorem below_is (A : Option Addr) (n c : Nat) (xs : Nat → Int) (x m D Y : Int) (w : World) (hR : Reads A n xs w) (hx : Hid (-9223372036854775808 ≤ x ∧ x ≤ 9223372036854775807)) (hn : Hid ((n : Int) ≤ 9223372036854775807)) (hm : Hid (m ≤ 9223372036854775807)) (hD : Hid (belowD n xs x m = D)) (hY : Hid (belowY n x m = Y)) :
    Calls Try.prog 25 #[.agg #[.slice A n c, .int .i64 x], .int .i64 m] w fun e w' => e = .returned (.tuple #[.int .i64 D, .agg #[.slice A n c, .int .i64 Y]]) ∧ Below w.heap.size w w' := by
  rw [← hD.out, ← hY.out]
  exact below_any A n c xs x m w hR hx.out.1 hx.out.2 hn.out hm.out
/-- What skipping makes of a place. -/
def skipY (n : Nat) (x k : Int) : Int := x + (if 0 < (if leftS n x < k then leftS n x else k) then (if leftS n x < k then leftS n x else k) else 0)
theorem leftS_bound (n : Nat) (x : Int) : 0 ≤ leftS n x ∧ (0 < leftS n x → 0 ≤ x ∧ x + leftS n x = n) := by
  unfold leftS
  split
  · omega
  · split <;> omega
theorem skip_bound (n : Nat) (x k : Int) : x ≤ skipY n x k ∧ (skipY n x k = x ∨ skipY n x k ≤ n) := by
  have h := leftS_bound n x
  unfold skipY
  by_cases h1 : leftS n x < k
  · rw [if_pos h1]
    by_cases h2 : 0 < leftS n x
    · rw [if_pos h2]; omega
    · rw [if_neg h2]; omega
  · rw [if_neg h1]
    by_cases h2 : 0 < k
    · rw [if_pos h2]; omega
    · rw [if_neg h2]; omega
theorem skip_is (A : Option Addr) (n c : Nat) (x k Y : Int) (w : World) (hx : Hid (-9223372036854775808 ≤ x ∧ x ≤ 9223372036854775807)) (hn : Hid ((n : Int) ≤ 9223372036854775807)) (hY : Hid (skipY n x k = Y)) :
    Calls Try.prog 30 #[.agg #[.slice A n c, .int .i64 x], .int .i64 k] w fun e w' => e = .returned (.agg #[.slice A n c, .int .i64 Y]) ∧ Below w.heap.size w w' := by
  have hb := skip_bound n x k
  have hx' := hx.out
  have hn' := hn.out
  have h := skip_any A n c x k (leftS n x) _ _ w hx'.1 hx'.2 hn' rfl rfl rfl (by change _ ≤ skipY n x k; omega) (by change skipY n x k ≤ _; omega)
  change Calls _ _ _ _ fun e w' => e = .returned (.agg #[.slice A n c, .int .i64 (skipY n x k)]) ∧ _ at h
  rw [hY.out] at h
  exact h
theorem left_h (A : Option Addr) (n c : Nat) (x v : Int) (w : World) (hx : Hid (-9223372036854775808 ≤ x ∧ x ≤ 9223372036854775807)) (hn : Hid ((n : Int) ≤ 9223372036854775807)) (hl : Hid (leftS n x = v)) :
    Calls Try.prog 28 #[.agg #[.slice A n c, .int .i64 x]] w fun e w' => e = .returned (.int .i64 v) ∧ Below w.heap.size w w' := left_is A n c x v w hx.out.1 hx.out.2 hn.out hl
/-- What is carried through a law's walk: nothing that was there has changed, and the tape's elements can be read. -/
def Still (A : Option Addr) (n : Nat) (xs : Nat → Int) (w0 w : World) : Prop := Below w0.heap.size w0 w ∧ Reads A n xs w
theorem Still.below {A : Option Addr} {n : Nat} {xs : Nat → Int} {w0 w w' : World} (h : Still A n xs w0 w) (hb : Below w.heap.size w w') : Still A n xs w0 w' := ⟨below_step h.1 hb, h.2.below hb⟩
theorem Still.alloc {A : Option Addr} {n : Nat} {xs : Nat → Int} {w0 w : World} (h : Still A n xs w0 w) (o : Obj) : Still A n xs w0 (w.alloc o) := h.below ((Below.refl _ _).alloc (Nat.le_refl _) o)
theorem Still.drew {A : Option Addr} {n : Nat} {xs : Nat → Int} {w0 w : World} (h : Still A n xs w0 w) : Still A n xs w0 w.drew := h.below (below_drew1 (Below.refl _ _))
theorem Still.drewN {A : Option Addr} {n : Nat} {xs : Nat → Int} {w0 w : World} (h : Still A n xs w0 w) (k : Nat) : Still A n xs w0 (w.drewN k) := h.below (pw_below_drewN (Below.refl _ _) k)
theorem BX.drewN {b : Nat} {A : Option Addr} {n c : Nat} {x : Int} {w : World} (h : BX b A n c x w) (k : Nat) : BX b A n c x (w.drewN k) := h.below (pw_below_drewN (Below.refl _ _) k)

/-! ### TapeBelow -/
/-- Where the statement says nothing. -/
theorem below_out (A : Option Addr) (n c : Nat) (x m : Int) (w : World) (hn : (n : Int) ≤ 9223372036854775807) (h : 200 < (n : Int) ∨ m < 1 ∨ 1000000 < m) :
    Calls Try.prog 7 #[.agg #[.slice A n c, .int .i64 x], .int .i64 m] w fun e w' => e = .returned (.bool true) ∧ Below w.heap.size w w' := by
  have HB := Aside0.mk (Below.refl w.heap.size w)
  by_cases h1 : 200 < (n : Int)
  · clear h
    go_enter Try.func7, Try.ntmps7
    go_wp2_with (first | (go_at_call 21; (with_reducible refine (shown_any _).mono ?_); rintro e w1 ⟨rfl, hb⟩))
    go_ret
    exact ⟨rfl, below_step (by with_reducible repeat (first | exact HB.out | apply below_alloc)) hb⟩
  · by_cases h2 : m < 1
    · clear h
      go_enter Try.func7, Try.ntmps7
      go_wp2_with (first | (go_at_call 21; (with_reducible refine (shown_any _).mono ?_); rintro e w1 ⟨rfl, hb⟩))
      go_ret
      exact ⟨rfl, below_step (by with_reducible repeat (first | exact HB.out | apply below_alloc)) hb⟩
    · have h3 : 1000000 < m := by omega
      clear h
      go_enter Try.func7, Try.ntmps7
      go_wp2_with (first | (go_at_call 21; (with_reducible refine (shown_any _).mono ?_); rintro e w1 ⟨rfl, hb⟩))
      go_ret
      exact ⟨rfl, below_step (by with_reducible repeat (first | exact HB.out | apply below_alloc)) hb⟩
theorem below_in (A : Option Addr) (n c : Nat) (xs : Nat → Int) (x m D R Y : Int) (w : World) (hR : Aside0 (Reads A n xs w)) (hn : ¬ 200 < (n : Int)) (hm : 1 ≤ m) (hm2 : m ≤ 1000000)
    (hx : Hid (-9223372036854775808 ≤ x ∧ x ≤ 9223372036854775807)) (hnn : Hid ((n : Int) ≤ 9223372036854775807)) (hmm : Hid (m ≤ 9223372036854775807)) (hD : Hid (nextD n xs x = D)) (hY : Hid (nextY n x = Y)) (hD' : Hid (belowD n xs x m = R)) (hY' : Hid (belowY n x m = Y))
    (r0 : 0 ≤ R) (r1 : R < m) (t : Int) (ht : D.tmod m = t) (t0 : -1000000 ≤ R - t) (t1 : R - t ≤ 1000000) (hz : (R - t).tmod m = 0) :
    Calls Try.prog 7 #[.agg #[.slice A n c, .int .i64 x], .int .i64 m] w fun e w' => e = .returned (.bool true) ∧ Below w.heap.size w w' := by
  have HS := Aside0.mk (show Still A n xs w w from ⟨Below.refl _ _, hR.out⟩)
  clear hR
  go_enter Try.func7, Try.ntmps7
  go_upto_region 5 with (first | (go_at_call 21; (with_reducible refine (shown_any _).mono ?_); rintro e wa ⟨rfl, hb⟩; have n0_ := Aside0.mk (Still.below (w0 := w) (by with_reducible repeat (first | exact HS.out | apply Still.alloc)) hb); clear HS; have HS := n0_; clear n0_; have X1 := Aside0.mk (BX.below (BX.new (A := A) (n := n) (c := c) (x := x) w 29) hb); clear hb; obtain ⟨pz, p0, p1⟩ := X1.out; have pn := Nat.ne_of_lt pz; have pm := (Nat.ne_of_lt pz).symm) | (go_at_call 22; (with_reducible refine (next_is A n c xs x D Y _ ?_ hx hnn hD hY).mono ?_); (case refine_1 => exact (show Still A n xs w _ by with_reducible repeat (first | exact HS.out | apply Still.alloc)).2); rintro e wb ⟨rfl, hb⟩; have n0_ := Aside0.mk (Still.below (w0 := w) (by with_reducible repeat (first | exact HS.out | apply Still.alloc)) hb); clear HS; have HS := n0_; clear n0_; have n1_ := Aside0.mk (X1.out.below hb); clear X1 hb; have X1 := n1_; clear n1_; obtain ⟨pz, p0, p1⟩ := X1.out; have pn := Nat.ne_of_lt pz; have pm := (Nat.ne_of_lt pz).symm) | (go_at_call 25; (with_reducible refine (below_is A n c xs x m R Y _ ?_ hx hnn hmm hD' hY').mono ?_); (case refine_1 => exact (show Still A n xs w _ by with_reducible repeat (first | exact HS.out | apply Still.alloc)).2); rintro e wc ⟨rfl, hb⟩; have n0_ := Aside0.mk (Still.below (w0 := w) (by with_reducible repeat (first | exact HS.out | apply Still.alloc)) hb); clear HS; have HS := n0_; clear n0_; have n1_ := Aside0.mk ((X1.out.alloc _).below hb); have X6 := Aside0.mk (BX.below (BX.new (A := A) (n := n) (c := c) (x := Y) wb 29) hb); clear X1 hb; have X1 := n1_; clear n1_))
  obtain ⟨pz6, q0, q1⟩ := X6.out
  have qn := Nat.ne_of_lt pz6
  have qm := (Nat.ne_of_lt pz6).symm
  clear X1 X6 hx hnn hmm hD hY hD' hY'
  go_wp2
  go_ret
  exact ⟨rfl, (HS.out.alloc _).1⟩
theorem below_law (A : Option Addr) (n c : Nat) (xs : Nat → Int) (x m : Int) (w : World) (hR : Reads A n xs w) (hx : -9223372036854775808 ≤ x ∧ x ≤ 9223372036854775807) (hn : (n : Int) ≤ 9223372036854775807) :
    Calls Try.prog 7 #[.agg #[.slice A n c, .int .i64 x], .int .i64 m] w fun e w' => e = .returned (.bool true) ∧ Below w.heap.size w w' := by
  by_cases h : 200 < (n : Int) ∨ m < 1 ∨ 1000000 < m
  · exact below_out A n c x m w hn h
  · have hm : 1 ≤ m := by omega
    have h1 := Int.emod_nonneg (nextD n xs x) (by omega : m ≠ 0)
    have h2 := Int.emod_lt_of_pos (nextD n xs x) (by omega : 0 < m)
    have h3 := emod_of_tmod (nextD n xs x) m hm
    have h4 := tmod_low (nextD n xs x) m hm
    have h5 := Int.tmod_lt_of_pos (nextD n xs x) (b := m) (by omega)
    refine below_in A n c xs x m (nextD n xs x) (nextD n xs x % m) (nextY n x) w (Aside0.mk hR) (by omega) hm (by omega) hx hn (by change m ≤ _; omega) rfl rfl (by change belowD n xs x m = _; unfold belowD; rw [if_neg (by omega)]) (by change belowY n x m = _; unfold belowY; rw [if_neg (by omega)]) h1 h2 _ rfl ?_ ?_ ?_
    · split at h3 <;> omega
    · split at h3 <;> omega
    · rw [h3]
      split
      · rw [show Int.tmod (nextD n xs x) m + m - Int.tmod (nextD n xs x) m = m from by omega, Int.tmod_self]
      · rw [Int.sub_self, Int.zero_tmod]

/-! ### TapeSpent -/
theorem spent_out (A : Option Addr) (n c : Nat) (x m : Int) (w : World) (hn : (n : Int) ≤ 9223372036854775807) (h : 200 < (n : Int) ∨ (0 ≤ x ∧ x < n)) :
    Calls Try.prog 8 #[.slice A n c, .int .i64 x, .int .i64 m] w fun e w' => e = .returned (.bool true) ∧ Below w.heap.size w w' := by
  by_cases h1 : 200 < (n : Int)
  · clear h
    go_enter Try.func8, Try.ntmps8
    go_wp2_with (first | (go_at_call 21; (with_reducible refine (shown_any _).mono ?_); rintro e w1 ⟨rfl, hb⟩))
    go_ret
    exact ⟨rfl, hb⟩
  · have h2 : 0 ≤ x := by omega
    have h3 : x < (n : Int) := by omega
    clear h
    go_enter Try.func8, Try.ntmps8
    go_wp2_with (first | (go_at_call 21; (with_reducible refine (shown_any _).mono ?_); rintro e w1 ⟨rfl, hb⟩))
    go_ret
    exact ⟨rfl, hb⟩
theorem spent_in (A : Option Addr) (n c : Nat) (xs : Nat → Int) (x m : Int) (w : World) (hR : Aside0 (Reads A n xs w)) (hn : ¬ 200 < (n : Int)) (hp : x < 0 ∨ (n : Int) ≤ x)
    (hx : Hid (-9223372036854775808 ≤ x ∧ x ≤ 9223372036854775807)) (hnn : Hid ((n : Int) ≤ 9223372036854775807)) (hmm : Hid (m ≤ 9223372036854775807)) (hD : Hid (nextD n xs x = 0)) (hY : Hid (nextY n x = x)) (hD' : Hid (belowD n xs x m = 0)) (hY' : Hid (belowY n x m = x)) (hl : Hid (leftS n x = 0)) (hs : Hid (skipY n x m = x)) :
    Calls Try.prog 8 #[.slice A n c, .int .i64 x, .int .i64 m] w fun e w' => e = .returned (.bool true) ∧ Below w.heap.size w w' := by
  have HS := Aside0.mk (show Still A n xs w w from ⟨Below.refl _ _, hR.out⟩)
  clear hR
  have hfd := field29_1
  rcases hp with h1 | h1
  · have h2 : ¬ 0 ≤ x := by omega
    go_enter Try.func8, Try.ntmps8
    go_upto_region 6 with (first | (go_at_call 21; (with_reducible refine (shown_any _).mono ?_); rintro e wa ⟨rfl, hb⟩; have n0_ := Aside0.mk (Still.below (w0 := w) (by with_reducible repeat (first | exact HS.out | apply Still.alloc)) hb); clear HS; have HS := n0_; clear n0_; clear hb) | (go_at_call 22; (with_reducible refine (next_is A n c xs x 0 x _ ?_ hx hnn hD hY).mono ?_); (case refine_1 => exact (show Still A n xs w _ by with_reducible repeat (first | exact HS.out | apply Still.alloc)).2); rintro e wb ⟨rfl, hb⟩; have n0_ := Aside0.mk (Still.below (w0 := w) (by with_reducible repeat (first | exact HS.out | apply Still.alloc)) hb); clear HS; have HS := n0_; clear n0_; have X7 := Aside0.mk (BX.below (BX.new (A := A) (n := n) (c := c) (x := x) wa 29) hb); clear hb; obtain ⟨pz, p0, p1⟩ := X7.out; have pn := Nat.ne_of_lt pz; have pm := (Nat.ne_of_lt pz).symm) | (go_at_call 25; (with_reducible refine (below_is A n c xs x m 0 x _ ?_ hx hnn hmm hD' hY').mono ?_); (case refine_1 => exact (show Still A n xs w _ by with_reducible repeat (first | exact HS.out | apply Still.alloc)).2); rintro e wc ⟨rfl, hb⟩; have n0_ := Aside0.mk (Still.below (w0 := w) (by with_reducible repeat (first | exact HS.out | apply Still.alloc)) hb); clear HS; have HS := n0_; clear n0_; have n1_ := Aside0.mk ((X7.out.alloc _).below hb); have X9 := Aside0.mk (BX.below (BX.new (A := A) (n := n) (c := c) (x := x) wb 29) hb); clear X7 hb; have X7 := n1_; clear n1_))
    have n0_ := Aside0.mk (HS.out.alloc (.cells #[.slice A n c, .int .i64 x] 29))
    have n1_ := Aside0.mk (X7.out.alloc (.cells #[.slice A n c, .int .i64 x] 29))
    have n2_ := Aside0.mk (X9.out.alloc (.cells #[.slice A n c, .int .i64 x] 29))
    have n3_ := Aside0.mk (BX.new (A := A) (n := n) (c := c) (x := x) wc 29)
    clear HS X7 X9 hD hY hD' hY'
    generalize wc.alloc (.cells #[.slice A n c, .int .i64 x] 29) = W4 at n0_ n1_ n2_ n3_ ⊢
    have HS := n0_
    have X7 := n1_
    have X9 := n2_
    have X11 := n3_
    clear n0_ n1_ n2_ n3_
    obtain ⟨_, p0, p1⟩ := X7.out
    obtain ⟨_, p2, p3⟩ := X9.out
    obtain ⟨_, p4, p5⟩ := X11.out
    go_wp2_with (first | (go_at_call 28; (with_reducible refine (left_h A n c x 0 _ hx hnn hl).mono ?_); rintro e wd ⟨rfl, hb⟩; have n0_ := Aside0.mk (Still.below (w0 := w) (by with_reducible repeat (first | exact HS.out | apply Still.alloc)) hb); clear HS; have HS := n0_; clear n0_; have n1_ := Aside0.mk (X7.out.below hb); have n2_ := Aside0.mk (X9.out.below hb); have n3_ := Aside0.mk (X11.out.below hb); obtain ⟨_, p0, p1⟩ := n1_.out; obtain ⟨_, p2, p3⟩ := n2_.out; obtain ⟨_, p4, p5⟩ := n3_.out; clear X7 X9 X11 hb; have X7 := n1_; have X9 := n2_; have X11 := n3_; clear n1_ n2_ n3_) | (go_at_call 30; (with_reducible refine (skip_is A n c x m x _ hx hnn hs).mono ?_); rintro e we ⟨rfl, hb⟩; have n0_ := Aside0.mk (Still.below (w0 := w) (by with_reducible repeat (first | exact HS.out | apply Still.alloc)) hb); clear HS; have HS := n0_; clear n0_; have n1_ := Aside0.mk (X7.out.below hb); have n2_ := Aside0.mk (X9.out.below hb); have n3_ := Aside0.mk (X11.out.below hb); obtain ⟨_, p0, p1⟩ := n1_.out; obtain ⟨_, p2, p3⟩ := n2_.out; obtain ⟨_, p4, p5⟩ := n3_.out; clear X7 X9 X11 hb; have X7 := n1_; have X9 := n2_; have X11 := n3_; clear n1_ n2_ n3_))
    go_ret
    exact ⟨rfl, HS.out.1⟩
  · have h2 : ¬ x < (n : Int) := by omega
    have h3 : 0 ≤ x := by omega
    go_enter Try.func8, Try.ntmps8
    go_upto_region 6 with (first | (go_at_call 21; (with_reducible refine (shown_any _).mono ?_); rintro e wa ⟨rfl, hb⟩; have n0_ := Aside0.mk (Still.below (w0 := w) (by with_reducible repeat (first | exact HS.out | apply Still.alloc)) hb); clear HS; have HS := n0_; clear n0_; clear hb) | (go_at_call 22; (with_reducible refine (next_is A n c xs x 0 x _ ?_ hx hnn hD hY).mono ?_); (case refine_1 => exact (show Still A n xs w _ by with_reducible repeat (first | exact HS.out | apply Still.alloc)).2); rintro e wb ⟨rfl, hb⟩; have n0_ := Aside0.mk (Still.below (w0 := w) (by with_reducible repeat (first | exact HS.out | apply Still.alloc)) hb); clear HS; have HS := n0_; clear n0_; have X7 := Aside0.mk (BX.below (BX.new (A := A) (n := n) (c := c) (x := x) wa 29) hb); clear hb; obtain ⟨pz, p0, p1⟩ := X7.out; have pn := Nat.ne_of_lt pz; have pm := (Nat.ne_of_lt pz).symm) | (go_at_call 25; (with_reducible refine (below_is A n c xs x m 0 x _ ?_ hx hnn hmm hD' hY').mono ?_); (case refine_1 => exact (show Still A n xs w _ by with_reducible repeat (first | exact HS.out | apply Still.alloc)).2); rintro e wc ⟨rfl, hb⟩; have n0_ := Aside0.mk (Still.below (w0 := w) (by with_reducible repeat (first | exact HS.out | apply Still.alloc)) hb); clear HS; have HS := n0_; clear n0_; have n1_ := Aside0.mk ((X7.out.alloc _).below hb); have X9 := Aside0.mk (BX.below (BX.new (A := A) (n := n) (c := c) (x := x) wb 29) hb); clear X7 hb; have X7 := n1_; clear n1_))
    have n0_ := Aside0.mk (HS.out.alloc (.cells #[.slice A n c, .int .i64 x] 29))
    have n1_ := Aside0.mk (X7.out.alloc (.cells #[.slice A n c, .int .i64 x] 29))
    have n2_ := Aside0.mk (X9.out.alloc (.cells #[.slice A n c, .int .i64 x] 29))
    have n3_ := Aside0.mk (BX.new (A := A) (n := n) (c := c) (x := x) wc 29)
    clear HS X7 X9 hD hY hD' hY'
    generalize wc.alloc (.cells #[.slice A n c, .int .i64 x] 29) = W4 at n0_ n1_ n2_ n3_ ⊢
    have HS := n0_
    have X7 := n1_
    have X9 := n2_
    have X11 := n3_
    clear n0_ n1_ n2_ n3_
    obtain ⟨_, p0, p1⟩ := X7.out
    obtain ⟨_, p2, p3⟩ := X9.out
    obtain ⟨_, p4, p5⟩ := X11.out
    go_wp2_with (first | (go_at_call 28; (with_reducible refine (left_h A n c x 0 _ hx hnn hl).mono ?_); rintro e wd ⟨rfl, hb⟩; have n0_ := Aside0.mk (Still.below (w0 := w) (by with_reducible repeat (first | exact HS.out | apply Still.alloc)) hb); clear HS; have HS := n0_; clear n0_; have n1_ := Aside0.mk (X7.out.below hb); have n2_ := Aside0.mk (X9.out.below hb); have n3_ := Aside0.mk (X11.out.below hb); obtain ⟨_, p0, p1⟩ := n1_.out; obtain ⟨_, p2, p3⟩ := n2_.out; obtain ⟨_, p4, p5⟩ := n3_.out; clear X7 X9 X11 hb; have X7 := n1_; have X9 := n2_; have X11 := n3_; clear n1_ n2_ n3_) | (go_at_call 30; (with_reducible refine (skip_is A n c x m x _ hx hnn hs).mono ?_); rintro e we ⟨rfl, hb⟩; have n0_ := Aside0.mk (Still.below (w0 := w) (by with_reducible repeat (first | exact HS.out | apply Still.alloc)) hb); clear HS; have HS := n0_; clear n0_; have n1_ := Aside0.mk (X7.out.below hb); have n2_ := Aside0.mk (X9.out.below hb); have n3_ := Aside0.mk (X11.out.below hb); obtain ⟨_, p0, p1⟩ := n1_.out; obtain ⟨_, p2, p3⟩ := n2_.out; obtain ⟨_, p4, p5⟩ := n3_.out; clear X7 X9 X11 hb; have X7 := n1_; have X9 := n2_; have X11 := n3_; clear n1_ n2_ n3_))
    go_ret
    exact ⟨rfl, HS.out.1⟩
theorem spent_law (A : Option Addr) (n c : Nat) (xs : Nat → Int) (x m : Int) (w : World) (hR : Reads A n xs w) (hx : -9223372036854775808 ≤ x ∧ x ≤ 9223372036854775807) (hm : m ≤ 9223372036854775807) (hn : (n : Int) ≤ 9223372036854775807) :
    Calls Try.prog 8 #[.slice A n c, .int .i64 x, .int .i64 m] w fun e w' => e = .returned (.bool true) ∧ Below w.heap.size w w' := by
  by_cases h : 200 < (n : Int) ∨ (0 ≤ x ∧ x < n)
  · exact spent_out A n c x m w hn h
  · have hl : leftS n x = 0 := by
      unfold leftS
      by_cases g : x < 0
      · rw [if_pos g]
      · rw [if_neg g, if_neg (by omega)]
    have hd : nextD n xs x = 0 := by unfold nextD; rw [if_neg (by omega)]
    have hy : nextY n x = x := by unfold nextY; rw [if_neg (by omega)]
    refine spent_in A n c xs x m w (Aside0.mk hR) (by omega) (by omega) hx hn hm hd hy ?_ ?_ hl ?_
    · change belowD n xs x m = 0
      unfold belowD
      rw [hd]
      split
      · rfl
      · simp
    · change belowY n x m = x
      unfold belowY
      rw [hy]
      split <;> rfl
    · change skipY n x m = x
      unfold skipY
      rw [hl]
      by_cases g : (0 : Int) < m
      · rw [if_pos g]; simp
      · rw [if_neg g, if_neg g]; omega
end Go.Proofs.Yteiocdbkilfnkaa.Tape
