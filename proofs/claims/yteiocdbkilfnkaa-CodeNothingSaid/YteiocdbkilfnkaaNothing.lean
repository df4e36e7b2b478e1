/- For every word w of 64 bits: its kind lies between -1 and Done and is Free just at 0; just words of threads have a thread (0 to 15), and just open words a place (item 0 to 3, layer 1 to 3). No condition. -/
import Derived.Test.YteiocdbkilfnkaaPureCodeTells
import Derived.Test.YteiocdbkilfnkaaPCodeTellsx3
namespace Go.Proofs.Yteiocdbkilfnkaa.Nothing
open Go Go.RowKit Go.Proofs.Yteiocdbkilfnkaa.PCodeTells Go.Proofs.YteiocdbkilfnkaaW.PrintWords

/-- Kind, Who and Where, by what was proved of them in plain Lean. -/
theorem kind_any (a r : Int) (w : World) (h : -9223372036854775808 ≤ a ∧ a ≤ 9223372036854775807) (e : Pure.kindS a = r) :
    Calls Try.prog 16 #[.int .i64 a] w fun e w' => e = .returned (.int .i64 r) ∧ Below w.heap.size w w' :=
  code_Kind.calls 1 a r w (by rw [Pure.kind_spec 0 a h, e])
theorem who_any (a r : Int) (w : World) (h : -9223372036854775808 ≤ a ∧ a ≤ 9223372036854775807) (e : Pure.whoS a = r) :
    Calls Try.prog 18 #[.int .i64 a] w fun e w' => e = .returned (.int .i64 r) ∧ Below w.heap.size w w' :=
  code_Who.calls 1 a r w (by rw [Pure.who_spec 0 a h, e])
theorem where_any (a r s : Int) (w : World) (h : -9223372036854775808 ≤ a ∧ a ≤ 9223372036854775807) (e : Pure.whereS a = (r, s)) :
    Calls Try.prog 14 #[.int .i64 a] w fun e w' => e = .returned (.tuple #[.int .i64 r, .int .i64 s]) ∧ Below w.heap.size w w' :=
  code_Where.calls 1 a r s w (by rw [Pure.where_spec 0 a h, e])
theorem shown_any (w : World) : Calls Try.prog 20 #[] w fun e w' => e = .returned (.bool true) ∧ Below w.heap.size w w' :=
  millstreamlaw08_shown.calls 1 true w (Pure.shown_true 0)

/-- The walk: a word of a thread, kind 1. -/
theorem walk1 (a H : Int) (w : World) (h : Hid (-9223372036854775808 ≤ a ∧ a ≤ 9223372036854775807)) (ek : Hid (Pure.kindS a = 1)) (ew : Hid (Pure.whoS a = H)) (ep : Hid (Pure.whereS a = (-1, 0))) (hne : (a == 0) = false) (h1 : 0 ≤ H) (h2 : H < 16) (h3 : -1 ≤ H) :
    Calls Try.prog 4 #[.int .i64 a] w fun e w' => e = .returned (.bool true) ∧ Below w.heap.size w w' := by
  have HB := Aside0.mk (Below.refl w.heap.size w)
  go_enter Try.func4, Try.ntmps4
  go_wp2_with (first | (go_at_call 16; (with_reducible refine (kind_any a (1) _ h.out ek.out).mono ?_); rintro e w1 ⟨rfl, hb⟩; have n0_ := Aside0.mk (below_step HB.out hb); clear HB hb; have HB := n0_; clear n0_) | (go_at_call 18; (with_reducible refine (who_any a (H) _ h.out ew.out).mono ?_); rintro e w1 ⟨rfl, hb⟩; have n0_ := Aside0.mk (below_step HB.out hb); clear HB hb; have HB := n0_; clear n0_) | (go_at_call 14; (with_reducible refine (where_any a (-1) (0) _ h.out ep.out).mono ?_); rintro e w1 ⟨rfl, hb⟩; have n0_ := Aside0.mk (below_step HB.out hb); clear HB hb; have HB := n0_; clear n0_) | (go_at_call 20; (with_reducible refine (shown_any _).mono ?_); rintro e w1 ⟨rfl, hb⟩; have n0_ := Aside0.mk (below_step HB.out hb); clear HB hb; have HB := n0_; clear n0_))
  go_ret
  exact ⟨rfl, HB.out⟩

/-- The walk: a word of a thread, kind 2. -/
theorem walk2 (a H : Int) (w : World) (h : Hid (-9223372036854775808 ≤ a ∧ a ≤ 9223372036854775807)) (ek : Hid (Pure.kindS a = 2)) (ew : Hid (Pure.whoS a = H)) (ep : Hid (Pure.whereS a = (-1, 0))) (hne : (a == 0) = false) (h1 : 0 ≤ H) (h2 : H < 16) (h3 : -1 ≤ H) :
    Calls Try.prog 4 #[.int .i64 a] w fun e w' => e = .returned (.bool true) ∧ Below w.heap.size w w' := by
  have HB := Aside0.mk (Below.refl w.heap.size w)
  go_enter Try.func4, Try.ntmps4
  go_wp2_with (first | (go_at_call 16; (with_reducible refine (kind_any a (2) _ h.out ek.out).mono ?_); rintro e w1 ⟨rfl, hb⟩; have n0_ := Aside0.mk (below_step HB.out hb); clear HB hb; have HB := n0_; clear n0_) | (go_at_call 18; (with_reducible refine (who_any a (H) _ h.out ew.out).mono ?_); rintro e w1 ⟨rfl, hb⟩; have n0_ := Aside0.mk (below_step HB.out hb); clear HB hb; have HB := n0_; clear n0_) | (go_at_call 14; (with_reducible refine (where_any a (-1) (0) _ h.out ep.out).mono ?_); rintro e w1 ⟨rfl, hb⟩; have n0_ := Aside0.mk (below_step HB.out hb); clear HB hb; have HB := n0_; clear n0_) | (go_at_call 20; (with_reducible refine (shown_any _).mono ?_); rintro e w1 ⟨rfl, hb⟩; have n0_ := Aside0.mk (below_step HB.out hb); clear HB hb; have HB := n0_; clear n0_))
  go_ret
  exact ⟨rfl, HB.out⟩

/-- The walk: a word of a thread, kind 3. -/
theorem walk3 (a H : Int) (w : World) (h : Hid (-9223372036854775808 ≤ a ∧ a ≤ 9223372036854775807)) (ek : Hid (Pure.kindS a = 3)) (ew : Hid (Pure.whoS a = H)) (ep : Hid (Pure.whereS a = (-1, 0))) (hne : (a == 0) = false) (h1 : 0 ≤ H) (h2 : H < 16) (h3 : -1 ≤ H) :
    Calls Try.prog 4 #[.int .i64 a] w fun e w' => e = .returned (.bool true) ∧ Below w.heap.size w w' := by
  have HB := Aside0.mk (Below.refl w.heap.size w)
  go_enter Try.func4, Try.ntmps4
  go_wp2_with (first | (go_at_call 16; (with_reducible refine (kind_any a (3) _ h.out ek.out).mono ?_); rintro e w1 ⟨rfl, hb⟩; have n0_ := Aside0.mk (below_step HB.out hb); clear HB hb; have HB := n0_; clear n0_) | (go_at_call 18; (with_reducible refine (who_any a (H) _ h.out ew.out).mono ?_); rintro e w1 ⟨rfl, hb⟩; have n0_ := Aside0.mk (below_step HB.out hb); clear HB hb; have HB := n0_; clear n0_) | (go_at_call 14; (with_reducible refine (where_any a (-1) (0) _ h.out ep.out).mono ?_); rintro e w1 ⟨rfl, hb⟩; have n0_ := Aside0.mk (below_step HB.out hb); clear HB hb; have HB := n0_; clear n0_) | (go_at_call 20; (with_reducible refine (shown_any _).mono ?_); rintro e w1 ⟨rfl, hb⟩; have n0_ := Aside0.mk (below_step HB.out hb); clear HB hb; have HB := n0_; clear n0_))
  go_ret
  exact ⟨rfl, HB.out⟩

/-- The walk: an open word. -/
theorem walk4 (a I L : Int) (w : World) (h : Hid (-9223372036854775808 ≤ a ∧ a ≤ 9223372036854775807)) (ek : Hid (Pure.kindS a = 4)) (ew : Hid (Pure.whoS a = -1)) (ep : Hid (Pure.whereS a = (I, L))) (hne : (a == 0) = false) (h1 : 0 ≤ I) (h2 : I < 4) (h3 : -1 ≤ I) (h4 : 0 < L) (h5 : L < 4) :
    Calls Try.prog 4 #[.int .i64 a] w fun e w' => e = .returned (.bool true) ∧ Below w.heap.size w w' := by
  have HB := Aside0.mk (Below.refl w.heap.size w)
  go_enter Try.func4, Try.ntmps4
  go_wp2_with (first | (go_at_call 16; (with_reducible refine (kind_any a (4) _ h.out ek.out).mono ?_); rintro e w1 ⟨rfl, hb⟩; have n0_ := Aside0.mk (below_step HB.out hb); clear HB hb; have HB := n0_; clear n0_) | (go_at_call 18; (with_reducible refine (who_any a (-1) _ h.out ew.out).mono ?_); rintro e w1 ⟨rfl, hb⟩; have n0_ := Aside0.mk (below_step HB.out hb); clear HB hb; have HB := n0_; clear n0_) | (go_at_call 14; (with_reducible refine (where_any a (I) (L) _ h.out ep.out).mono ?_); rintro e w1 ⟨rfl, hb⟩; have n0_ := Aside0.mk (below_step HB.out hb); clear HB hb; have HB := n0_; clear n0_) | (go_at_call 20; (with_reducible refine (shown_any _).mono ?_); rintro e w1 ⟨rfl, hb⟩; have n0_ := Aside0.mk (below_step HB.out hb); clear HB hb; have HB := n0_; clear n0_))
  go_ret
  exact ⟨rfl, HB.out⟩

/-- The walk: the told word. -/
theorem walk5 (a : Int) (w : World) (h : Hid (-9223372036854775808 ≤ a ∧ a ≤ 9223372036854775807)) (ek : Hid (Pure.kindS a = 5)) (ew : Hid (Pure.whoS a = -1)) (ep : Hid (Pure.whereS a = (-1, 0))) (hne : (a == 0) = false) :
    Calls Try.prog 4 #[.int .i64 a] w fun e w' => e = .returned (.bool true) ∧ Below w.heap.size w w' := by
  have HB := Aside0.mk (Below.refl w.heap.size w)
  go_enter Try.func4, Try.ntmps4
  go_wp2_with (first | (go_at_call 16; (with_reducible refine (kind_any a (5) _ h.out ek.out).mono ?_); rintro e w1 ⟨rfl, hb⟩; have n0_ := Aside0.mk (below_step HB.out hb); clear HB hb; have HB := n0_; clear n0_) | (go_at_call 18; (with_reducible refine (who_any a (-1) _ h.out ew.out).mono ?_); rintro e w1 ⟨rfl, hb⟩; have n0_ := Aside0.mk (below_step HB.out hb); clear HB hb; have HB := n0_; clear n0_) | (go_at_call 14; (with_reducible refine (where_any a (-1) (0) _ h.out ep.out).mono ?_); rintro e w1 ⟨rfl, hb⟩; have n0_ := Aside0.mk (below_step HB.out hb); clear HB hb; have HB := n0_; clear n0_) | (go_at_call 20; (with_reducible refine (shown_any _).mono ?_); rintro e w1 ⟨rfl, hb⟩; have n0_ := Aside0.mk (below_step HB.out hb); clear HB hb; have HB := n0_; clear n0_))
  go_ret
  exact ⟨rfl, HB.out⟩

/-- The walk: a word that says nothing. -/
theorem walk6 (a : Int) (w : World) (h : Hid (-9223372036854775808 ≤ a ∧ a ≤ 9223372036854775807)) (ek : Hid (Pure.kindS a = -1)) (ew : Hid (Pure.whoS a = -1)) (ep : Hid (Pure.whereS a = (-1, 0))) (hne : (a == 0) = false) :
    Calls Try.prog 4 #[.int .i64 a] w fun e w' => e = .returned (.bool true) ∧ Below w.heap.size w w' := by
  have HB := Aside0.mk (Below.refl w.heap.size w)
  go_enter Try.func4, Try.ntmps4
  go_wp2_with (first | (go_at_call 16; (with_reducible refine (kind_any a (-1) _ h.out ek.out).mono ?_); rintro e w1 ⟨rfl, hb⟩; have n0_ := Aside0.mk (below_step HB.out hb); clear HB hb; have HB := n0_; clear n0_) | (go_at_call 18; (with_reducible refine (who_any a (-1) _ h.out ew.out).mono ?_); rintro e w1 ⟨rfl, hb⟩; have n0_ := Aside0.mk (below_step HB.out hb); clear HB hb; have HB := n0_; clear n0_) | (go_at_call 14; (with_reducible refine (where_any a (-1) (0) _ h.out ep.out).mono ?_); rintro e w1 ⟨rfl, hb⟩; have n0_ := Aside0.mk (below_step HB.out hb); clear HB hb; have HB := n0_; clear n0_) | (go_at_call 20; (with_reducible refine (shown_any _).mono ?_); rintro e w1 ⟨rfl, hb⟩; have n0_ := Aside0.mk (below_step HB.out hb); clear HB hb; have HB := n0_; clear n0_))
  go_ret
  exact ⟨rfl, HB.out⟩

/-- The walk: the free word. -/
theorem walk0 (a : Int) (w : World) (h : Hid (-9223372036854775808 ≤ a ∧ a ≤ 9223372036854775807)) (ek : Hid (Pure.kindS a = 0)) (ew : Hid (Pure.whoS a = -1)) (ep : Hid (Pure.whereS a = (-1, 0))) (hne : (a == 0) = true) :
    Calls Try.prog 4 #[.int .i64 a] w fun e w' => e = .returned (.bool true) ∧ Below w.heap.size w w' := by
  have HB := Aside0.mk (Below.refl w.heap.size w)
  go_enter Try.func4, Try.ntmps4
  go_wp2_with (first | (go_at_call 16; (with_reducible refine (kind_any a (0) _ h.out ek.out).mono ?_); rintro e w1 ⟨rfl, hb⟩; have n0_ := Aside0.mk (below_step HB.out hb); clear HB hb; have HB := n0_; clear n0_) | (go_at_call 18; (with_reducible refine (who_any a (-1) _ h.out ew.out).mono ?_); rintro e w1 ⟨rfl, hb⟩; have n0_ := Aside0.mk (below_step HB.out hb); clear HB hb; have HB := n0_; clear n0_) | (go_at_call 14; (with_reducible refine (where_any a (-1) (0) _ h.out ep.out).mono ?_); rintro e w1 ⟨rfl, hb⟩; have n0_ := Aside0.mk (below_step HB.out hb); clear HB hb; have HB := n0_; clear n0_) | (go_at_call 20; (with_reducible refine (shown_any _).mono ?_); rintro e w1 ⟨rfl, hb⟩; have n0_ := Aside0.mk (below_step HB.out hb); clear HB hb; have HB := n0_; clear n0_))
  go_ret
  exact ⟨rfl, HB.out⟩

theorem all (a : Int) (w : World) (h : -9223372036854775808 ≤ a ∧ a ≤ 9223372036854775807) :
    Calls Try.prog 4 #[.int .i64 a] w fun e w' => e = .returned (.bool true) ∧ Below w.heap.size w w' := by
  by_cases h0 : a = 0
  · exact walk0 a w h (by subst h0; exact (by decide : Pure.kindS 0 = 0)) (by subst h0; exact (by decide : Pure.whoS 0 = -1)) (by subst h0; exact (by decide : Pure.whereS 0 = (-1, 0))) (by simpa using h0)
  have hne : (a == 0) = false := by simpa using h0
  by_cases h5 : a = 5
  · exact walk5 a w h (by subst h5; exact (by decide : Pure.kindS 5 = 5)) (by subst h5; exact (by decide : Pure.whoS 5 = -1)) (by subst h5; exact (by decide : Pure.whereS 5 = (-1, 0))) hne
  by_cases c : 1 ≤ a % 8 ∧ a % 8 ≤ 3 ∧ 8 ≤ a ∧ a < 136
  · have es : Pure.spec a = (a % 8, a / 8 - 1) := by unfold Pure.spec; rw [if_neg h5, if_pos c]
    have ek : Pure.kindS a = a % 8 := by unfold Pure.kindS; rw [es, if_neg h0]; simp only; rw [if_neg (by omega)]
    have ew : Pure.whoS a = a / 8 - 1 := by unfold Pure.whoS; rw [es]; simp only; rw [if_pos (by omega)]
    have ep : Pure.whereS a = (-1, 0) := by unfold Pure.whereS; rw [es]; simp only; rw [if_neg (by omega)]
    have h3 : a % 8 = 1 ∨ a % 8 = 2 ∨ a % 8 = 3 := by omega
    rcases h3 with h3 | h3 | h3
    · exact walk1 a _ w h (by rw [h3] at ek; exact ek) ew ep hne (by omega) (by omega) (by omega)
    · exact walk2 a _ w h (by rw [h3] at ek; exact ek) ew ep hne (by omega) (by omega) (by omega)
    · exact walk3 a _ w h (by rw [h3] at ek; exact ek) ew ep hne (by omega) (by omega) (by omega)
  by_cases c2 : a % 8 = 4 ∧ 8 ≤ a ∧ a < 520 ∧ 1 ≤ (a / 8 - 1) % 16 ∧ (a / 8 - 1) % 16 ≤ 3
  · have es : Pure.spec a = (4, a / 8 - 1) := by unfold Pure.spec; rw [if_neg h5, if_neg c, if_pos c2]
    have ek : Pure.kindS a = 4 := by unfold Pure.kindS; rw [es, if_neg h0]; rfl
    have ew : Pure.whoS a = -1 := by unfold Pure.whoS; rw [es]; rfl
    have ep : Pure.whereS a = ((a / 8 - 1) / 16, (a / 8 - 1) % 16) := by unfold Pure.whereS; rw [es]; rfl
    exact walk4 a _ _ w h ek ew ep hne (by omega) (by omega) (by omega) (by omega) (by omega)
  · have es : Pure.spec a = (0, 0) := by unfold Pure.spec; rw [if_neg h5, if_neg c, if_neg c2]
    have ek : Pure.kindS a = -1 := by unfold Pure.kindS; rw [es, if_neg h0]; rfl
    have ew : Pure.whoS a = -1 := by unfold Pure.whoS; rw [es]; rfl
    have ep : Pure.whereS a = (-1, 0) := by unfold Pure.whereS; rw [es]; rfl
    exact walk6 a w h ek ew ep hne
end Go.Proofs.Yteiocdbkilfnkaa.Nothing
