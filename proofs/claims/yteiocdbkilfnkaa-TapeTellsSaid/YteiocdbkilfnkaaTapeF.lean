/- The walk of the statement TapeOrder. -/
import Derived.Test.YteiocdbkilfnkaaTapeE
namespace Go.Proofs.Yteiocdbkilfnkaa.Tape
open Go Go.RowKit Go.Conc Go.Proofs.YteiocdbkilfnkaaW.PrintWords Go.Proofs.YteiocdbkilfnkaaW.PrintMore
attribute [local go_sem] max2_int min2_int max_two min_two

/-- A tape lies in a block that can be written. -/
def BF (b : Nat) (A : Option Addr) (n c : Nat) (x : Int) (w : World) : Prop := BX b A n c x w ∧ w.frozen? ⟨b, 0, none⟩ = false ∧ w.frozen? ⟨b, 1, none⟩ = false
theorem BF.below {b : Nat} {A : Option Addr} {n c : Nat} {x : Int} {w w' : World} (h : BF b A n c x w) (hb : Below w.heap.size w w') : BF b A n c x w' :=
  ⟨h.1.below hb, (hb.frozen (p := ⟨b, 0, none⟩) h.1.1).trans h.2.1, (hb.frozen (p := ⟨b, 1, none⟩) h.1.1).trans h.2.2⟩
theorem BF.alloc {b : Nat} {A : Option Addr} {n c : Nat} {x : Int} {w : World} (h : BF b A n c x w) (o : Obj) : BF b A n c x (w.alloc o) := h.below ((Below.refl _ _).alloc (Nat.le_refl _) o)
theorem BF.new {A : Option Addr} {n c : Nat} {x : Int} (w : World) (T : TypeId) : BF w.heap.size A n c x (w.alloc (.cells #[.slice A n c, .int .i64 x] T)) := by
  unfold BF
  exact ⟨BX.new w T, by simp, by simp⟩
theorem BF.put {b : Nat} {A : Option Addr} {n c : Nat} {x : Int} {w : World} (h : BF b A n c x w) (y : Int) : BF b A n c y ((w.setCell ⟨b, 0, none⟩ (.slice A n c)).setCell ⟨b, 1, none⟩ (.int .i64 y)) := by
  obtain ⟨⟨h1, h2, h3⟩, h4, h5⟩ := h
  refine ⟨⟨by simpa using h1, ?_, ?_⟩, ?_, ?_⟩
  · simp [go_sem, h2]
  · simp [go_sem, h3]
  · simp [go_sem, h4]
  · simp [go_sem, h5]
def posOf (n k : Nat) : Int := if k < n then (k : Int) else (n : Int)
theorem start_pos {b : Nat} {A : Option Addr} {n c : Nat} {w : World} (h : BF b A n c 0 w) : BF b A n c (posOf n 0) w := by
  have : posOf n 0 = 0 := by unfold posOf; split <;> omega
  rw [this]
  exact h
theorem order_next {b : Nat} {A : Option Addr} {n c k : Nat} {x : Int} {w : World} (h : BF b A n c x w) (hk : k < n) : BF b A n c (posOf n (k + 1)) ((w.setCell ⟨b, 0, none⟩ (.slice A n c)).setCell ⟨b, 1, none⟩ (.int .i64 ((k : Int) + 1))) := by
  have : posOf n (k + 1) = (k : Int) + 1 := by unfold posOf; split <;> omega
  rw [this]
  exact h.put _
theorem order_stay {b : Nat} {A : Option Addr} {n c k : Nat} {x : Int} {w : World} (h : BF b A n c x w) (hk : ¬ k < n) : BF b A n c (posOf n (k + 1)) ((w.setCell ⟨b, 0, none⟩ (.slice A n c)).setCell ⟨b, 1, none⟩ (.int .i64 (n : Int))) := by
  have : posOf n (k + 1) = (n : Int) := by unfold posOf; rw [if_neg (by omega)]
  rw [this]
  exact h.put _
theorem order_out (A : Option Addr) (n c : Nat) (m : Int) (w : World) (h1 : 200 < (n : Int)) :
    Calls Try.prog 6 #[.slice A n c, .int .u8 m] w fun e w' => e = .returned (.bool true) ∧ Below w.heap.size w w' := by
  go_enter Try.func6, Try.ntmps6
  go_wp2_with (first | (go_at_call 21; (with_reducible refine (shown_any _).mono ?_); rintro e w1 ⟨rfl, hb⟩))
  go_ret
  exact ⟨rfl, hb⟩
set_option maxHeartbeats 4000000 in
set_option maxRecDepth 100000 in
theorem order_in (A : Option Addr) (n c : Nat) (xs : Nat → Int) (m : Int) (w : World) (hR : Aside0 (Reads A n xs w)) (hn : (n : Int) ≤ 200) (hnn : Hid ((n : Int) ≤ 9223372036854775807)) (m0 : 0 ≤ m) (m1 : m ≤ 255) :
    Calls Try.prog 6 #[.slice A n c, .int .u8 m] w fun e w' => e = .returned (.bool true) ∧ Below w.heap.size w w' := by
  have hn' : ¬ 200 < (n : Int) := by omega
  have q0 : 0 ≤ m % 5 := by omega
  have q1 : m % 5 < 5 := by omega
  go_enter Try.func6, Try.ntmps6
  go_upto_region 5 with (first | (go_at_call 21; (with_reducible refine (shown_any _).mono ?_); rintro e wa ⟨rfl, hb⟩; have HB := Aside0.mk hb; clear hb))
  have hB0 := Aside0.mk (below_alloc HB.out (.cells #[.slice A n c, .int .i64 0] 29))
  have hX0 := Aside0.mk (BF.new (A := A) (n := n) (c := c) (x := 0) wa 29)
  have hle := HB.out.size
  clear HB
  generalize wa.alloc (.cells #[.slice A n c, .int .i64 0] 29) = W0 at hB0 hX0 ⊢
  generalize wa.heap.size = bt at hle hX0 ⊢
  go_loopw [6, 7, 8] (fun i _ _ wr => ∃ k : Nat, k ≤ n + (m % 5).toNat ∧ i = .int .i64 k ∧ Aside0 (Below w.heap.size w wr) ∧ Aside0 (BF bt A n c (posOf n k) wr)) (fun i _ _ _ => n + (m % 5).toNat - (intOf i).toNat)
  case atStart => exact ⟨0, by omega, rfl, hB0, Aside0.mk (start_pos hX0.out)⟩
  case round =>
    clear hB0 hX0
    obtain ⟨k, hk, rfl, HB, hX⟩ := hrel
    by_cases hlt : k < n
    · rw [show posOf n k = (k : Int) from if_pos hlt] at hX
      rcases hR.out with h9 | ⟨b, off, rfl, hbz, hcell⟩
      · omega
      have hcell := Aside0.mk hcell
      obtain ⟨⟨z0, p0, p1⟩, f0, f1⟩ := hX.out
      have g1 : (k : Int) < (n : Int) := by omega
      have g2 : (k : Int) < (n : Int) + m % 5 := by omega
      have g3 : 0 < (n : Int) - (k : Int) := by omega
      have hL : Hid (leftS n (k : Int) = (n : Int) - (k : Int)) := by change _ = _; unfold leftS; rw [if_neg (by omega), if_pos g3]
      have hD : Hid (nextD n xs (k : Int) = xs k) := by change _ = _; unfold nextD; rw [if_pos (by omega)]; rfl
      have hY : Hid (nextY n (k : Int) = (k : Int) + 1) := by change _ = _; unfold nextY; rw [if_pos (by omega)]
      have hkk : Hid (-9223372036854775808 ≤ (k : Int) ∧ (k : Int) ≤ 9223372036854775807) := ⟨by omega, by omega⟩
      go_wp2_with (first | (go_at_call 28; (with_reducible refine (left_h _ n c (k : Int) ((n : Int) - (k : Int)) _ hkk hnn hL).mono ?_); rintro e wb ⟨rfl, hb⟩; have n0_ := Aside0.mk (below_step HB.out hb); have n1_ := Aside0.mk (hX.out.below hb); clear HB hX; have HB := n0_; have hX := n1_; clear n0_ n1_; clear hb; obtain ⟨⟨z1, p1, r1⟩, s1, t1⟩ := hX.out; have pn1 := Nat.ne_of_lt z1; have pm1 := (Nat.ne_of_lt z1).symm) | (go_at_call 22; (with_reducible refine (next_is _ n c xs (k : Int) (xs k) ((k : Int) + 1) _ ?_ hkk hnn hD hY).mono ?_); (case refine_1 => exact hR.out.below HB.out); rintro e wc ⟨rfl, hb⟩; have n0_ := Aside0.mk (below_step HB.out hb); have n1_ := Aside0.mk (hX.out.below hb); clear HB hX; have HB := n0_; have hX := n1_; clear n0_ n1_; clear hb; obtain ⟨⟨z2, p2, r2⟩, s2, t2⟩ := hX.out; have pn2 := Nat.ne_of_lt z2; have pm2 := (Nat.ne_of_lt z2).symm; have c9 := (HB.out.cell (p := ⟨b, off + k, none⟩) hbz).trans (hcell.out k hlt); have c6 := Nat.lt_of_lt_of_le hbz HB.out.size; have c8 := Nat.ne_of_lt c6; have c7 := (Nat.ne_of_lt c6).symm))
      go_roundw
      case rel => exact ⟨k + 1, by omega, by go_num, Aside0.mk (((HB.out.setCell hle _).setCell hle _).alloc (by simpa using HB.out.size) _), Aside0.mk ((order_next (k := k) hX.out hlt).alloc _)⟩
      case measure => simp [intOf]; omega
    · rw [show posOf n k = (n : Int) from if_neg hlt] at hX
      obtain ⟨⟨z0, p0, p1⟩, f0, f1⟩ := hX.out
      have g1 : ¬ (k : Int) < (n : Int) := by omega
      by_cases hlt2 : k < n + (m % 5).toNat
      · have g2 : (k : Int) < (n : Int) + m % 5 := by omega
        have g3 : ¬ 0 < (n : Int) - (k : Int) := by omega
        have hL : Hid (leftS n (n : Int) = 0) := by change _ = _; unfold leftS; rw [if_neg (by omega), if_neg (by omega)]
        have hD : Hid (nextD n xs (n : Int) = 0) := by change _ = _; unfold nextD; rw [if_neg (by omega)]
        have hY : Hid (nextY n (n : Int) = (n : Int)) := by change _ = _; unfold nextY; rw [if_neg (by omega)]
        have hkk : Hid (-9223372036854775808 ≤ (n : Int) ∧ (n : Int) ≤ 9223372036854775807) := ⟨by omega, by omega⟩
        go_wp2_with (first | (go_at_call 28; (with_reducible refine (left_h _ n c (n : Int) 0 _ hkk hnn hL).mono ?_); rintro e wb ⟨rfl, hb⟩; have n0_ := Aside0.mk (below_step HB.out hb); have n1_ := Aside0.mk (hX.out.below hb); clear HB hX; have HB := n0_; have hX := n1_; clear n0_ n1_; clear hb; obtain ⟨⟨z1, p1, r1⟩, s1, t1⟩ := hX.out; have pn1 := Nat.ne_of_lt z1; have pm1 := (Nat.ne_of_lt z1).symm) | (go_at_call 22; (with_reducible refine (next_is _ n c xs (n : Int) 0 (n : Int) _ ?_ hkk hnn hD hY).mono ?_); (case refine_1 => exact hR.out.below HB.out); rintro e wc ⟨rfl, hb⟩; have n0_ := Aside0.mk (below_step HB.out hb); have n1_ := Aside0.mk (hX.out.below hb); clear HB hX; have HB := n0_; have hX := n1_; clear n0_ n1_; clear hb; obtain ⟨⟨z2, p2, r2⟩, s2, t2⟩ := hX.out; have pn2 := Nat.ne_of_lt z2; have pm2 := (Nat.ne_of_lt z2).symm))
        go_roundw
        case rel => exact ⟨k + 1, by omega, by go_num, Aside0.mk (((HB.out.setCell hle _).setCell hle _).alloc (by simpa using HB.out.size) _), Aside0.mk ((order_stay (k := k) hX.out hlt).alloc _)⟩
        case measure => simp [intOf]; omega
      · have g2 : ¬ (k : Int) < (n : Int) + m % 5 := by omega
        go_wp2
        go_ret
        exact ⟨rfl, HB.out⟩
theorem order_law (A : Option Addr) (n c : Nat) (xs : Nat → Int) (m : Int) (w : World) (hR : Reads A n xs w) (hn : (n : Int) ≤ 9223372036854775807) (hm : 0 ≤ m ∧ m ≤ 255) :
    Calls Try.prog 6 #[.slice A n c, .int .u8 m] w fun e w' => e = .returned (.bool true) ∧ Below w.heap.size w w' := by
  by_cases h : 200 < (n : Int)
  · exact order_out A n c m w h
  · exact order_in A n c xs m w (Aside0.mk hR) (by omega) hn hm.1 hm.2
end Go.Proofs.Yteiocdbkilfnkaa.Tape
