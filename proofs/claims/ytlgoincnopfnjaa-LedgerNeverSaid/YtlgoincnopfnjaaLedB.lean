/- Ledgers that can be read; the program's in, check and give. -/
import Derived.Test.YtlgoincnopfnjaaLedA
namespace Go.Proofs.Ytlgoincnopfnjaa.Led
open Go Go.RowKit Go.Proofs.YtlgoincnopfnjaaW.PrintWords Go.Proofs.YtlgoincnopfnjaaW.PrintMore Go.Proofs.YtlgoincnopfnjaaW.PrintLast
set_option linter.unusedSimpArgs false
attribute [local go_sem] max2_int min2_int max_two min_two

theorem in_is (x y : Int) (b : Bool) (w : World) (hb : Hid (decide (0 ≤ x ∧ x < y) = b)) : Calls Try.prog 34 #[.int .i64 x, .int .i64 y] w fun e w' => e = .returned (.bool b) ∧ w = w' := by
  by_cases h1 : 0 ≤ x
  · by_cases h2 : x < y
    · obtain rfl : true = b := by rw [← hb.out]; simp [h1, h2]
      clear hb
      go_enter Try.func34, Try.ntmps34
      go_wp2
      go_ret
      exact ⟨rfl, rfl⟩
    · obtain rfl : false = b := by rw [← hb.out]; simp; omega
      clear hb
      go_enter Try.func34, Try.ntmps34
      go_wp2
      go_ret
      exact ⟨rfl, rfl⟩
  · obtain rfl : false = b := by rw [← hb.out]; simp; omega
    clear hb
    go_enter Try.func34, Try.ntmps34
    go_wp2
    go_ret
    exact ⟨rfl, rfl⟩
/-- What is wrong with a call. -/
def checkS (n m : Nat) (t item K : Int) : Int := if 0 ≤ t ∧ t < m ∧ 0 ≤ item ∧ item < n then (if 1 ≤ K ∧ K ≤ 1048576 then 0 else 201) else 1
theorem check_is (A B : Option Addr) (n c m d : Nat) (t item K e : Int) (w : World) (hK : Aside0 (-9223372036854775808 ≤ K ∧ K ≤ 9223372036854775807)) (he : Hid (checkS n m t item K = e)) :
    Calls Try.prog 29 #[.agg #[.slice A n c, .slice B m d], .int .i64 t, .agg #[.int .i64 item, .int .i64 K]] w fun r w' => r = .returned (.int .i64 e) ∧ Below w.heap.size w w' := by
  have HB := Aside0.mk (((Below.refl w.heap.size w).alloc (Nat.le_refl _) (.cells #[.slice A n c, .slice B m d] 25)).alloc (by simp) (.cells #[.int .i64 item, .int .i64 K] 27))
  by_cases h1 : 0 ≤ t ∧ t < m
  · have hb1 : Hid (decide (0 ≤ t ∧ t < m) = true) := by change _ = _; simpa using h1
    by_cases h2 : 0 ≤ item ∧ item < n
    · have hb2 : Hid (decide (0 ≤ item ∧ item < n) = true) := by change _ = _; simpa using h2
      by_cases h3 : 1 ≤ K ∧ K ≤ 1048576
      · have hb3 : Hid (decide (0 ≤ wrap64 (K - 1) ∧ wrap64 (K - 1) < 1048576) = true) := by change _ = _; rw [decide_eq_true_iff]; unfold wrap64; omega
        obtain rfl : 0 = e := by rw [← he.out]; unfold checkS; rw [if_pos ⟨h1.1, h1.2, h2⟩, if_pos h3]
        clear h1 h2 h3 he
        go_enter Try.func29, Try.ntmps29
        go_wp2_with (first | (go_at_call 34; (with_reducible refine (in_is t (m : Int) _ _ hb1).mono ?_); rintro e w1 ⟨rfl, rfl⟩) | (go_at_call 34; (with_reducible refine (in_is item (n : Int) _ _ hb2).mono ?_); rintro e w1 ⟨rfl, rfl⟩) | (go_at_call 34; (with_reducible refine (in_is (wrap64 (K - 1)) 1048576 _ _ hb3).mono ?_); rintro e w1 ⟨rfl, rfl⟩))
        go_ret
        exact ⟨rfl, HB.out⟩
      · have hb3 : Hid (decide (0 ≤ wrap64 (K - 1) ∧ wrap64 (K - 1) < 1048576) = false) := by
          change _ = _
          have := hK.out
          rw [decide_eq_false_iff_not]
          unfold wrap64
          omega
        obtain rfl : 201 = e := by rw [← he.out]; unfold checkS; rw [if_pos ⟨h1.1, h1.2, h2⟩, if_neg h3]
        clear h1 h2 h3 he
        go_enter Try.func29, Try.ntmps29
        go_wp2_with (first | (go_at_call 34; (with_reducible refine (in_is t (m : Int) _ _ hb1).mono ?_); rintro e w1 ⟨rfl, rfl⟩) | (go_at_call 34; (with_reducible refine (in_is item (n : Int) _ _ hb2).mono ?_); rintro e w1 ⟨rfl, rfl⟩) | (go_at_call 34; (with_reducible refine (in_is (wrap64 (K - 1)) 1048576 _ _ hb3).mono ?_); rintro e w1 ⟨rfl, rfl⟩))
        go_ret
        exact ⟨rfl, HB.out⟩
    · have hb2 : Hid (decide (0 ≤ item ∧ item < n) = false) := by change _ = _; simpa using h2
      obtain rfl : 1 = e := by rw [← he.out]; unfold checkS; rw [if_neg (by omega)]
      clear h1 h2 he
      go_enter Try.func29, Try.ntmps29
      go_wp2_with (first | (go_at_call 34; (with_reducible refine (in_is t (m : Int) _ _ hb1).mono ?_); rintro e w1 ⟨rfl, rfl⟩) | (go_at_call 34; (with_reducible refine (in_is item (n : Int) _ _ hb2).mono ?_); rintro e w1 ⟨rfl, rfl⟩))
      go_ret
      exact ⟨rfl, HB.out⟩
  · have hb1 : Hid (decide (0 ≤ t ∧ t < m) = false) := by change _ = _; simpa using h1
    obtain rfl : 1 = e := by rw [← he.out]; unfold checkS; rw [if_neg (by omega)]
    clear h1 he
    go_enter Try.func29, Try.ntmps29
    go_wp2_with (first | (go_at_call 34; (with_reducible refine (in_is t (m : Int) _ _ hb1).mono ?_); rintro e w1 ⟨rfl, rfl⟩))
    go_ret
    exact ⟨rfl, HB.out⟩
end Go.Proofs.Ytlgoincnopfnjaa.Led
