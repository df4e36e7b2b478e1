/- The program's tape: Skip. -/
import Derived.Test.YteiocdbkilfnkaaTape
import Derived.Test.YteiocdbkilfnkaaPTapeTellsx1
namespace Go.Proofs.Yteiocdbkilfnkaa.Tape
open Go Go.RowKit Go.Conc Go.Proofs.YteiocdbkilfnkaaW.PrintWords Go.Proofs.YteiocdbkilfnkaaW.PrintMore Go.Proofs.YteiocdbkilfnkaaW.PrintLast
set_option linter.unusedSimpArgs false
attribute [local go_sem] max2_int min2_int max_two min_two

/-- The two blocks of Skip, in a later world. -/
structure Two (A : Option Addr) (n c : Nat) (x : Int) (B : Nat) (w : World) : Prop where
  c0 : w.cell? ⟨B, 0, none⟩ = some (.slice A n c)
  c1 : w.cell? ⟨B, 1, none⟩ = some (.int .i64 x)
  c2 : w.cell? ⟨B + 1, 0, none⟩ = some (.slice none 0 0)
  c3 : w.cell? ⟨B + 1, 1, none⟩ = some (.int .i64 0)
  f0 : w.frozen? ⟨B, 0, none⟩ = false
  f1 : w.frozen? ⟨B, 1, none⟩ = false
  f2 : w.frozen? ⟨B + 1, 0, none⟩ = false
  f3 : w.frozen? ⟨B + 1, 1, none⟩ = false
  z : B + 1 < w.heap.size
theorem Two.below {A : Option Addr} {n c : Nat} {x : Int} {B : Nat} {w w' : World} (h : Two A n c x B w) (hb : Below w.heap.size w w') : Two A n c x B w' := by
  obtain ⟨c0, c1, c2, c3, f0, f1, f2, f3, z⟩ := h
  have hs := hb.size
  exact ⟨(hb.cell (p := ⟨B, 0, none⟩) (by simp; omega)).trans c0, (hb.cell (p := ⟨B, 1, none⟩) (by simp; omega)).trans c1, (hb.cell (p := ⟨B + 1, 0, none⟩) z).trans c2, (hb.cell (p := ⟨B + 1, 1, none⟩) z).trans c3,
    (hb.frozen (p := ⟨B, 0, none⟩) (by simp; omega)).trans f0, (hb.frozen (p := ⟨B, 1, none⟩) (by simp; omega)).trans f1, (hb.frozen (p := ⟨B + 1, 0, none⟩) z).trans f2, (hb.frozen (p := ⟨B + 1, 1, none⟩) z).trans f3, by omega⟩
/-- Some draws are skipped: l of n are left, k is asked for. -/
theorem skip_any (A : Option Addr) (n c : Nat) (x k l u v : Int) (w : World) (h0 : -9223372036854775808 ≤ x) (h1 : x ≤ 9223372036854775807) (hn : (n : Int) ≤ 9223372036854775807) (hl : Hid (leftS n x = l))
    (hu : (if l < k then l else k) = u) (hv : (if 0 < u then u else 0) = v) (g0 : -9223372036854775808 ≤ x + v) (g1 : x + v ≤ 9223372036854775807) :
    Calls Try.prog 30 #[.agg #[.slice A n c, .int .i64 x], .int .i64 k] w fun e w' => e = .returned (.agg #[.slice A n c, .int .i64 (x + v)]) ∧ Below w.heap.size w w' := by
  go_enter Try.func30, Try.ntmps30
  go_wp2
  refine start_ (n := 10) (S := fun w' => w'.cell? ⟨w.heap.size, 0, none⟩ = some (.slice A n c) ∧ w'.cell? ⟨w.heap.size, 1, none⟩ = some (.int .i64 x)) (ds := [9]) #[false, false, false, false, false, false, false, false, false, false] (by kernel_rfl) rfl rfl ⟨by simp, by simp⟩ (fun hHeld => ?_); refine with_tabW PTapeTells.tape_Skip.tab1 PTapeTells.tape_Skip.bits1 (fun HT_ HW_ => ?_)
  have HB := Aside0.mk (below_drew1 (((Below.refl w.heap.size w).alloc (Nat.le_refl _) (.cells #[.slice A n c, .int .i64 x] 29)).alloc (by simp) (.cells #[.slice none 0 0, .int .i64 0] 29)))
  have hR : Two A n c x w.heap.size ((w.alloc (.cells #[.slice A n c, .int .i64 x] 29)).alloc (.cells #[.slice none 0 0, .int .i64 0] 29)).drew := ⟨by simp, by simp, by simp, by simp, by simp, by simp, by simp, by simp, by simp⟩
  generalize ((w.alloc (.cells #[.slice A n c, .int .i64 x] 29)).alloc (.cells #[.slice none 0 0, .int .i64 0] 29)).drew = w9 at HB hHeld hR ⊢
  refine pure_ (i := 0) (N := some 5) (v := ?_) (a' := ?_) #[true, false, false, false, false, false, false, false, false, false] rfl rfl (any_of HT_.out (by kernel_rfl)) (fun _ _ _ h => h) (Or.inl ⟨by rfl, ?_⟩) ?_ ?_
  rotate_left
  · intro w'
    go_simp
    with_reducible rfl
  rotate_left
  · simp only [Act.put, List.setIfInBounds_toArray, List.set_cons_zero, List.set_cons_succ, i64_w, i32_w]
    rfl
  refine pure_ (i := 2) (N := some 7) (v := ?_) (a' := ?_) #[true, false, true, false, false, false, false, false, false, false] rfl rfl (any_of HT_.out (by kernel_rfl)) (fun _ _ _ h => h) (Or.inl ⟨by rfl, ?_⟩) ?_ ?_
  rotate_left
  · intro w'
    go_simp
    with_reducible rfl
  rotate_left
  · simp only [Act.put, List.setIfInBounds_toArray, List.set_cons_zero, List.set_cons_succ, i64_w, i32_w]
    rfl
  refine take_ (i := 1) (N := some 6) (v := ?_) (a' := ?_) #[true, true, true, false, false, false, false, false, false, false] rfl rfl (take_ofW HT_.out HW_.out (by kernel_rfl)) (fun _ _ _ h => h) (Or.inl ⟨by rfl, ?_⟩) hHeld ?_ ?_
  rotate_left
  · rintro w' ⟨s0, s1⟩
    go_simp
    with_reducible rfl
  rotate_left
  · simp only [Act.put, List.setIfInBounds_toArray, List.set_cons_zero, List.set_cons_succ, i64_w, i32_w]
    rfl
  refine take_ (i := 3) (N := some 8) (v := ?_) (a' := ?_) #[true, true, true, true, false, false, false, false, false, false] rfl rfl (take_ofW HT_.out HW_.out (by kernel_rfl)) (fun _ _ _ h => h) (Or.inl ⟨by rfl, ?_⟩) hHeld ?_ ?_
  rotate_left
  · rintro w' ⟨s0, s1⟩
    go_simp
    with_reducible rfl
  rotate_left
  · simp only [Act.put, List.setIfInBounds_toArray, List.set_cons_zero, List.set_cons_succ, i64_w, i32_w]
    rfl
  refine one_ (i := 4) (N := some 9) #[true, true, true, true, true, false, false, false, false, false] rfl rfl (one_of HT_.out (by kernel_rfl)) (by decide) (fun K hK => ?_)
  refine goes_ Try.func28 (by kernel_rfl) rfl #[.agg #[.slice A n c, .int .i64 x]] (by rfl) rfl rfl (by (try simp only [List.map_toArray, List.map_cons, List.map_nil]); first | done | rfl) ?_
  with_reducible refine (left_is A n c x l _ h0 h1 hn hl).mono ?_
  rintro e w10 ⟨rfl, hb⟩
  refine ⟨_, rfl, ?_⟩
  have hR2 := hR.below hb
  have HB2 := Aside0.mk (below_step HB.out hb)
  clear hR HB hHeld hb
  obtain ⟨hc0, hc1, hc2, hc3, hf0, hf1, hf2, hf3, hz⟩ := hR2
  refine hK.out _ _ ⟨hc0, hc1⟩ (fun hHeld => ?_)
  clear hK K
  refine norm_ (a' := ?_) ?_ ?_
  rotate_left
  · show Act.put _ (some 9) _ = _
    simp only [Act.put, List.setIfInBounds_toArray, List.set_cons_zero, List.set_cons_succ, i64_w, i32_w]
    rfl
  refine pure_ (i := 5) (N := some 10) (v := ?_) (a' := ?_) #[true, true, true, true, true, true, false, false, false, false] rfl rfl (any_of HT_.out (by kernel_rfl)) (fun _ _ _ h => h) (Or.inl ⟨by rfl, ?_⟩) ?_ ?_
  rotate_left
  · intro w'
    go_simp
    with_reducible rfl
  rotate_left
  · simp only [Act.put, List.setIfInBounds_toArray, List.set_cons_zero, List.set_cons_succ, i64_w, i32_w]
    rfl
  refine pure_ (i := 6) (N := some 11) (v := ?_) (a' := ?_) #[true, true, true, true, true, true, true, false, false, false] rfl rfl (any_of HT_.out (by kernel_rfl)) (fun _ _ _ h => h) (Or.inl ⟨by rfl, ?_⟩) ?_ ?_
  rotate_left
  · intro w'
    go_simp
    with_reducible rfl
  rotate_left
  · simp only [Act.put, List.setIfInBounds_toArray, List.set_cons_zero, List.set_cons_succ, i64_w, i32_w]
    rfl
  refine pure_ (i := 7) (N := some 12) (v := ?_) (a' := ?_) #[true, true, true, true, true, true, true, true, false, false] rfl rfl (any_of HT_.out (by kernel_rfl)) (fun _ _ _ h => h) (Or.inl ⟨by rfl, ?_⟩) ?_ ?_
  rotate_left
  · intro w'
    go_simp
    with_reducible rfl
  rotate_left
  · simp only [Act.put, List.setIfInBounds_toArray, List.set_cons_zero, List.set_cons_succ, i64_w, i32_w]
    rfl
  refine pure_ (i := 8) (N := some 13) (v := ?_) (a' := ?_) #[true, true, true, true, true, true, true, true, true, false] rfl rfl (any_of HT_.out (by kernel_rfl)) (fun _ _ _ h => h) (Or.inl ⟨by rfl, ?_⟩) ?_ ?_
  rotate_left
  · intro w'
    go_simp
    with_reducible rfl
  rotate_left
  · simp only [Act.put, List.setIfInBounds_toArray, List.set_cons_zero, List.set_cons_succ, i64_w, i32_w]
    rfl
  refine last_ (i := 9) (N := none) #[true, true, true, true, true, true, true, true, true, true] rfl rfl (one_of HT_.out (by kernel_rfl)) (by decide) (fun K hK => ?_)
  refine skip_ (w1 := ?_) (by rfl) rfl ?_ ?_
  rotate_left
  · go_simp
    rfl
  refine hK.out _ _ ?_
  clear hK K
  refine done_ (done_of HT_.out (by kernel_rfl)) ?_
  clear HT_ HW_ hl
  go_wp2
  have hw : wrap64 (x + v) = x + v := by unfold wrap64; omega
  rw [hw]
  refine bodyPost_ret (v := .agg #[.slice A n c, .int .i64 (x + v)]) (by simp [results, Try.results30, go_sem, hc2, hc3]) rfl ⟨rfl, ?_⟩
  exact ((HB2.out.setCell (by simp) _).setCell (by simp) _).setCell (by simp) _
end Go.Proofs.Yteiocdbkilfnkaa.Tape
