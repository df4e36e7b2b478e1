-- PRINTED BY print.sh 35421559b90ae4d0a3588c463048766b98c2df88dd9212a6774a882060cdf62d: not written by this session
import Derived.Test.YteiocdbkilfnkaaPCodeMakesx0
import Derived.Test.YteiocdbkilfnkaaPCodeMakesx2
namespace Go.Proofs.Yteiocdbkilfnkaa.PCodeMakes
open Go.RowKit Go.Proofs.YteiocdbkilfnkaaW.PrintWords Go.Proofs.YteiocdbkilfnkaaW.PrintLast Go.Proofs.YteiocdbkilfnkaaW.PrintMore
attribute [local go_sem] max2_int min2_int max_two min_two max_three min_three max_four min_four   -- for this text's walks alone
set_option linter.unusedVariables false
set_option linter.unusedSimpArgs false

/-! ### millstreamlaw08_CodeMakes: function 12 -/
def millstreamlaw08_CodeMakes.f (k : Nat) (a0 : Int) (a1 : Int) (a2 : Int) : Option (Bool) := (code_First.f (Int.tmod (wrap64 (a0)) 16)).bind fun t128 => ((millstreamref08_First.f (Int.tmod (wrap64 (a0)) 16)).bind fun t129 => (if t128 = t129 then ((code_Joined.f (Int.tmod (wrap64 (a0)) 16)).bind fun t130 => ((millstreamref08_Joined.f (Int.tmod (wrap64 (a0)) 16)).bind fun t131 => (if t130 = t131 then ((code_Deposited.f (Int.tmod (wrap64 (a0)) 16)).bind fun t132 => ((millstreamref08_Deposited.f (Int.tmod (wrap64 (a0)) 16)).bind fun t133 => (if t132 = t133 then ((code_Open.f (Int.tmod (wrap64 (a1)) 4) (wrap64 (1 + (Int.tmod (wrap64 (a2)) 3)))).bind fun t134 => ((millstreamref08_Open.f (Int.tmod (wrap64 (a1)) 4) (wrap64 (1 + (Int.tmod (wrap64 (a2)) 3)))).bind fun t135 => (if t134 = t135 then ((code_Told.f).bind fun t136 => ((millstreamref08_Told.f).bind fun t137 => (if t136 = t137 then ((millstreamlaw08_shown.f k).bind fun t138 => (some t138)) else (some false)))) else (some false)))) else (some false)))) else (some false)))) else (some false)))
theorem millstreamlaw08_CodeMakes.mono : ∀ a0 a1 a2 k, LeO (millstreamlaw08_CodeMakes.f k a0 a1 a2) (millstreamlaw08_CodeMakes.f (k + 1) a0 a1 a2) := by
  intro a0 a1 a2 k
  unfold millstreamlaw08_CodeMakes.f
  repeat' first
      | (with_reducible exact millstreamlaw08_shown.mono _)
      | (with_reducible exact LeO.refl _)
      | (with_reducible exact LeO.none _)
      | (with_reducible refine LeO.ite ?_ ?_)
      | (with_reducible refine LeO.bind ?_ (fun _ => ?_))
      | exact millstreamlaw08_shown.mono _
      | exact LeO.none _
      | refine LeO.ite ?_ ?_
      | refine LeO.bind ?_ (fun _ => ?_)
set_option maxHeartbeats 8000000 in
set_option maxRecDepth 100000 in
theorem millstreamlaw08_CodeMakes.calls (k : Nat) (a0 : Int) (a1 : Int) (a2 : Int) (r : Bool) (w : World) (h : millstreamlaw08_CodeMakes.f k a0 a1 a2 = some r) :
    Calls Try.prog 12 #[.int .u8 a0, .int .u8 a1, .int .u8 a2] w fun e w' => e = .returned (.bool r) ∧ Below w.heap.size w w' := by
  have HB := Aside0.mk (Below.refl w.heap.size w)
  have H : ((code_First.f (Int.tmod (wrap64 (a0)) 16)).bind fun t128 => ((millstreamref08_First.f (Int.tmod (wrap64 (a0)) 16)).bind fun t129 => (if t128 = t129 then ((code_Joined.f (Int.tmod (wrap64 (a0)) 16)).bind fun t130 => ((millstreamref08_Joined.f (Int.tmod (wrap64 (a0)) 16)).bind fun t131 => (if t130 = t131 then ((code_Deposited.f (Int.tmod (wrap64 (a0)) 16)).bind fun t132 => ((millstreamref08_Deposited.f (Int.tmod (wrap64 (a0)) 16)).bind fun t133 => (if t132 = t133 then ((code_Open.f (Int.tmod (wrap64 (a1)) 4) (wrap64 (1 + (Int.tmod (wrap64 (a2)) 3)))).bind fun t134 => ((millstreamref08_Open.f (Int.tmod (wrap64 (a1)) 4) (wrap64 (1 + (Int.tmod (wrap64 (a2)) 3)))).bind fun t135 => (if t134 = t135 then ((code_Told.f).bind fun t136 => ((millstreamref08_Told.f).bind fun t137 => (if t136 = t137 then ((millstreamlaw08_shown.f k).bind fun t138 => (some t138)) else (some false)))) else (some false)))) else (some false)))) else (some false)))) else (some false)))) = some r := h
  clear h
  replace H := Option.bind_eq_some_iff.mp H
  obtain ⟨t128, A40, H⟩ := H
  replace H : ((millstreamref08_First.f (Int.tmod (wrap64 (a0)) 16)).bind fun t129 => (if t128 = t129 then ((code_Joined.f (Int.tmod (wrap64 (a0)) 16)).bind fun t130 => ((millstreamref08_Joined.f (Int.tmod (wrap64 (a0)) 16)).bind fun t131 => (if t130 = t131 then ((code_Deposited.f (Int.tmod (wrap64 (a0)) 16)).bind fun t132 => ((millstreamref08_Deposited.f (Int.tmod (wrap64 (a0)) 16)).bind fun t133 => (if t132 = t133 then ((code_Open.f (Int.tmod (wrap64 (a1)) 4) (wrap64 (1 + (Int.tmod (wrap64 (a2)) 3)))).bind fun t134 => ((millstreamref08_Open.f (Int.tmod (wrap64 (a1)) 4) (wrap64 (1 + (Int.tmod (wrap64 (a2)) 3)))).bind fun t135 => (if t134 = t135 then ((code_Told.f).bind fun t136 => ((millstreamref08_Told.f).bind fun t137 => (if t136 = t137 then ((millstreamlaw08_shown.f k).bind fun t138 => (some t138)) else (some false)))) else (some false)))) else (some false)))) else (some false)))) else (some false))) = some r := H
  have A4 := Aside0.mk A40
  clear A40
  replace H := Option.bind_eq_some_iff.mp H
  obtain ⟨t129, A50, H⟩ := H
  replace H : (if t128 = t129 then ((code_Joined.f (Int.tmod (wrap64 (a0)) 16)).bind fun t130 => ((millstreamref08_Joined.f (Int.tmod (wrap64 (a0)) 16)).bind fun t131 => (if t130 = t131 then ((code_Deposited.f (Int.tmod (wrap64 (a0)) 16)).bind fun t132 => ((millstreamref08_Deposited.f (Int.tmod (wrap64 (a0)) 16)).bind fun t133 => (if t132 = t133 then ((code_Open.f (Int.tmod (wrap64 (a1)) 4) (wrap64 (1 + (Int.tmod (wrap64 (a2)) 3)))).bind fun t134 => ((millstreamref08_Open.f (Int.tmod (wrap64 (a1)) 4) (wrap64 (1 + (Int.tmod (wrap64 (a2)) 3)))).bind fun t135 => (if t134 = t135 then ((code_Told.f).bind fun t136 => ((millstreamref08_Told.f).bind fun t137 => (if t136 = t137 then ((millstreamlaw08_shown.f k).bind fun t138 => (some t138)) else (some false)))) else (some false)))) else (some false)))) else (some false)))) else (some false)) = some r := H
  have A5 := Aside0.mk A50
  clear A50
  by_cases c6 : t128 = t129
  · rw [if_pos c6] at H
    have c6b0 : (t128 == t129) = true := beq_iff_eq.mpr c6
    have c6b1 : (t128 != t129) = false := bne_eq_false_iff_eq.mpr c6
    clear c6
    replace H := Option.bind_eq_some_iff.mp H
    obtain ⟨t130, A70, H⟩ := H
    replace H : ((millstreamref08_Joined.f (Int.tmod (wrap64 (a0)) 16)).bind fun t131 => (if t130 = t131 then ((code_Deposited.f (Int.tmod (wrap64 (a0)) 16)).bind fun t132 => ((millstreamref08_Deposited.f (Int.tmod (wrap64 (a0)) 16)).bind fun t133 => (if t132 = t133 then ((code_Open.f (Int.tmod (wrap64 (a1)) 4) (wrap64 (1 + (Int.tmod (wrap64 (a2)) 3)))).bind fun t134 => ((millstreamref08_Open.f (Int.tmod (wrap64 (a1)) 4) (wrap64 (1 + (Int.tmod (wrap64 (a2)) 3)))).bind fun t135 => (if t134 = t135 then ((code_Told.f).bind fun t136 => ((millstreamref08_Told.f).bind fun t137 => (if t136 = t137 then ((millstreamlaw08_shown.f k).bind fun t138 => (some t138)) else (some false)))) else (some false)))) else (some false)))) else (some false))) = some r := H
    have A7 := Aside0.mk A70
    clear A70
    replace H := Option.bind_eq_some_iff.mp H
    obtain ⟨t131, A80, H⟩ := H
    replace H : (if t130 = t131 then ((code_Deposited.f (Int.tmod (wrap64 (a0)) 16)).bind fun t132 => ((millstreamref08_Deposited.f (Int.tmod (wrap64 (a0)) 16)).bind fun t133 => (if t132 = t133 then ((code_Open.f (Int.tmod (wrap64 (a1)) 4) (wrap64 (1 + (Int.tmod (wrap64 (a2)) 3)))).bind fun t134 => ((millstreamref08_Open.f (Int.tmod (wrap64 (a1)) 4) (wrap64 (1 + (Int.tmod (wrap64 (a2)) 3)))).bind fun t135 => (if t134 = t135 then ((code_Told.f).bind fun t136 => ((millstreamref08_Told.f).bind fun t137 => (if t136 = t137 then ((millstreamlaw08_shown.f k).bind fun t138 => (some t138)) else (some false)))) else (some false)))) else (some false)))) else (some false)) = some r := H
    have A8 := Aside0.mk A80
    clear A80
    by_cases c9 : t130 = t131
    · rw [if_pos c9] at H
      have c9b0 : (t130 == t131) = true := beq_iff_eq.mpr c9
      have c9b1 : (t130 != t131) = false := bne_eq_false_iff_eq.mpr c9
      clear c9
      replace H := Option.bind_eq_some_iff.mp H
      obtain ⟨t132, A100, H⟩ := H
      replace H : ((millstreamref08_Deposited.f (Int.tmod (wrap64 (a0)) 16)).bind fun t133 => (if t132 = t133 then ((code_Open.f (Int.tmod (wrap64 (a1)) 4) (wrap64 (1 + (Int.tmod (wrap64 (a2)) 3)))).bind fun t134 => ((millstreamref08_Open.f (Int.tmod (wrap64 (a1)) 4) (wrap64 (1 + (Int.tmod (wrap64 (a2)) 3)))).bind fun t135 => (if t134 = t135 then ((code_Told.f).bind fun t136 => ((millstreamref08_Told.f).bind fun t137 => (if t136 = t137 then ((millstreamlaw08_shown.f k).bind fun t138 => (some t138)) else (some false)))) else (some false)))) else (some false))) = some r := H
      have A10 := Aside0.mk A100
      clear A100
      replace H := Option.bind_eq_some_iff.mp H
      obtain ⟨t133, A110, H⟩ := H
      replace H : (if t132 = t133 then ((code_Open.f (Int.tmod (wrap64 (a1)) 4) (wrap64 (1 + (Int.tmod (wrap64 (a2)) 3)))).bind fun t134 => ((millstreamref08_Open.f (Int.tmod (wrap64 (a1)) 4) (wrap64 (1 + (Int.tmod (wrap64 (a2)) 3)))).bind fun t135 => (if t134 = t135 then ((code_Told.f).bind fun t136 => ((millstreamref08_Told.f).bind fun t137 => (if t136 = t137 then ((millstreamlaw08_shown.f k).bind fun t138 => (some t138)) else (some false)))) else (some false)))) else (some false)) = some r := H
      have A11 := Aside0.mk A110
      clear A110
      by_cases c12 : t132 = t133
      · rw [if_pos c12] at H
        have c12b0 : (t132 == t133) = true := beq_iff_eq.mpr c12
        have c12b1 : (t132 != t133) = false := bne_eq_false_iff_eq.mpr c12
        clear c12
        replace H := Option.bind_eq_some_iff.mp H
        obtain ⟨t134, A130, H⟩ := H
        replace H : ((millstreamref08_Open.f (Int.tmod (wrap64 (a1)) 4) (wrap64 (1 + (Int.tmod (wrap64 (a2)) 3)))).bind fun t135 => (if t134 = t135 then ((code_Told.f).bind fun t136 => ((millstreamref08_Told.f).bind fun t137 => (if t136 = t137 then ((millstreamlaw08_shown.f k).bind fun t138 => (some t138)) else (some false)))) else (some false))) = some r := H
        have A13 := Aside0.mk A130
        clear A130
        replace H := Option.bind_eq_some_iff.mp H
        obtain ⟨t135, A140, H⟩ := H
        replace H : (if t134 = t135 then ((code_Told.f).bind fun t136 => ((millstreamref08_Told.f).bind fun t137 => (if t136 = t137 then ((millstreamlaw08_shown.f k).bind fun t138 => (some t138)) else (some false)))) else (some false)) = some r := H
        have A14 := Aside0.mk A140
        clear A140
        by_cases c15 : t134 = t135
        · rw [if_pos c15] at H
          have c15b0 : (t134 == t135) = true := beq_iff_eq.mpr c15
          have c15b1 : (t134 != t135) = false := bne_eq_false_iff_eq.mpr c15
          clear c15
          replace H := Option.bind_eq_some_iff.mp H
          obtain ⟨t136, A160, H⟩ := H
          replace H : ((millstreamref08_Told.f).bind fun t137 => (if t136 = t137 then ((millstreamlaw08_shown.f k).bind fun t138 => (some t138)) else (some false))) = some r := H
          have A16 := Aside0.mk A160
          clear A160
          replace H := Option.bind_eq_some_iff.mp H
          obtain ⟨t137, A170, H⟩ := H
          replace H : (if t136 = t137 then ((millstreamlaw08_shown.f k).bind fun t138 => (some t138)) else (some false)) = some r := H
          have A17 := Aside0.mk A170
          clear A170
          by_cases c18 : t136 = t137
          · rw [if_pos c18] at H
            have c18b0 : (t136 == t137) = true := beq_iff_eq.mpr c18
            have c18b1 : (t136 != t137) = false := bne_eq_false_iff_eq.mpr c18
            clear c18
            replace H := Option.bind_eq_some_iff.mp H
            obtain ⟨t138, A190, H⟩ := H
            replace H : (some t138) = some r := H
            have A19 := Aside0.mk A190
            clear A190
            obtain rfl := Option.some.inj H
            go_enter Try.func12, Try.ntmps12
            go_wp2_with (first | ((with_reducible refine gate_callee (f := 33) rfl ?_); refine goesL_ (some 21) rfl rfl Try.func33 (by kernel_rfl) rfl #[.int .i64 (Int.tmod (wrap64 (a0)) 16)] rfl (by (try simp only [List.map_toArray, List.map_cons, List.map_nil]); first | done | rfl | (simp only [List.length_drop, List.length_take]; rfl)) ?_; (with_reducible refine (code_First.calls (Int.tmod (wrap64 (a0)) 16) t128 _ A4.out).mono ?_); rintro e w20 ⟨rfl, hb⟩; refine ⟨_, rfl, ?_⟩; have n0_ := Aside0.mk (below_step (by repeat (first | (with_reducible first | exact HB.out | apply below_alloc | apply pw_below_drewN | apply below_drew1) | exact HB.out)) hb); clear HB; have HB := n0_; clear n0_; (try clear hb); (try clear hb2); (try clear hk); (try clear hi)) | ((with_reducible refine gate_callee (f := 36) rfl ?_); refine goesL_ (some 23) rfl rfl Try.func36 (by kernel_rfl) rfl #[.int .i64 (Int.tmod (wrap64 (a0)) 16)] rfl (by (try simp only [List.map_toArray, List.map_cons, List.map_nil]); first | done | rfl | (simp only [List.length_drop, List.length_take]; rfl)) ?_; (with_reducible refine (millstreamref08_First.calls (Int.tmod (wrap64 (a0)) 16) t129 _ A5.out).mono ?_); rintro e w' ⟨rfl, ⟨nd, rfl⟩⟩; refine ⟨_, rfl, ?_⟩) | (go_at_call 34; (with_reducible refine (code_Joined.calls (Int.tmod (wrap64 (a0)) 16) t130 _ A7.out).mono ?_); rintro e w21 ⟨rfl, hb⟩; have n0_ := Aside0.mk (below_step (by repeat (first | (with_reducible first | exact HB.out | apply below_alloc | apply pw_below_drewN | apply below_drew1) | exact HB.out)) hb); clear HB; have HB := n0_; clear n0_; (try clear hb); (try clear hb2); (try clear hk); (try clear hi)) | (go_at_call 37; (with_reducible refine (millstreamref08_Joined.calls (Int.tmod (wrap64 (a0)) 16) t131 _ A8.out).mono ?_); rintro e w' ⟨rfl, ⟨nd, rfl⟩⟩) | (go_at_call 35; (with_reducible refine (code_Deposited.calls (Int.tmod (wrap64 (a0)) 16) t132 _ A10.out).mono ?_); rintro e w22 ⟨rfl, hb⟩; have n0_ := Aside0.mk (below_step (by repeat (first | (with_reducible first | exact HB.out | apply below_alloc | apply pw_below_drewN | apply below_drew1) | exact HB.out)) hb); clear HB; have HB := n0_; clear n0_; (try clear hb); (try clear hb2); (try clear hk); (try clear hi)) | (go_at_call 38; (with_reducible refine (millstreamref08_Deposited.calls (Int.tmod (wrap64 (a0)) 16) t133 _ A11.out).mono ?_); rintro e w' ⟨rfl, ⟨nd, rfl⟩⟩) | (go_at_call 32; (with_reducible refine (code_Open.calls (Int.tmod (wrap64 (a1)) 4) (wrap64 (1 + (Int.tmod (wrap64 (a2)) 3))) t134 _ A13.out).mono ?_); rintro e w23 ⟨rfl, hb⟩; have n0_ := Aside0.mk (below_step (by repeat (first | (with_reducible first | exact HB.out | apply below_alloc | apply pw_below_drewN | apply below_drew1) | exact HB.out)) hb); clear HB; have HB := n0_; clear n0_; (try clear hb); (try clear hb2); (try clear hk); (try clear hi)) | (go_at_call 39; (with_reducible refine (millstreamref08_Open.calls (Int.tmod (wrap64 (a1)) 4) (wrap64 (1 + (Int.tmod (wrap64 (a2)) 3))) t135 _ A14.out).mono ?_); rintro e w' ⟨rfl, ⟨nd, rfl⟩⟩) | (go_at_call 40; (with_reducible refine (code_Told.calls  t136 _ A16.out).mono ?_); rintro e w24 ⟨rfl, hb⟩; have n0_ := Aside0.mk (below_step (by repeat (first | (with_reducible first | exact HB.out | apply below_alloc | apply pw_below_drewN | apply below_drew1) | exact HB.out)) hb); clear HB; have HB := n0_; clear n0_; (try clear hb); (try clear hb2); (try clear hk); (try clear hi)) | (go_at_call 41; (with_reducible refine (millstreamref08_Told.calls  t137 _ A17.out).mono ?_); rintro e w' ⟨rfl, ⟨nd, rfl⟩⟩) | (go_at_call 20; (with_reducible refine (millstreamlaw08_shown.calls k  t138 _ A19.out).mono ?_); rintro e w25 ⟨rfl, hb⟩; have n0_ := Aside0.mk (below_step (by repeat (first | (with_reducible first | exact HB.out | apply below_alloc | apply pw_below_drewN | apply below_drew1) | exact HB.out)) hb); clear HB; have HB := n0_; clear n0_; (try clear hb); (try clear hb2); (try clear hk); (try clear hi)))
            go_ret
            exact ⟨by first | rfl | (simp [errW_none, errW_some] <;> rfl) | (simp [*, errW_none, errW_some] <;> rfl), by repeat (first | (with_reducible first | exact HB.out | apply below_alloc | apply pw_below_drewN | apply below_drew1) | exact HB.out)⟩
          · rw [if_neg c18] at H
            have c18b0 : (t136 == t137) = false := beq_eq_false_iff_ne.mpr c18
            have c18b1 : (t136 != t137) = true := bne_iff_ne.mpr c18
            obtain rfl := Option.some.inj H
            go_enter Try.func12, Try.ntmps12
            go_wp2_with (first | ((with_reducible refine gate_callee (f := 33) rfl ?_); refine goesL_ (some 21) rfl rfl Try.func33 (by kernel_rfl) rfl #[.int .i64 (Int.tmod (wrap64 (a0)) 16)] rfl (by (try simp only [List.map_toArray, List.map_cons, List.map_nil]); first | done | rfl | (simp only [List.length_drop, List.length_take]; rfl)) ?_; (with_reducible refine (code_First.calls (Int.tmod (wrap64 (a0)) 16) t128 _ A4.out).mono ?_); rintro e w26 ⟨rfl, hb⟩; refine ⟨_, rfl, ?_⟩; have n0_ := Aside0.mk (below_step (by repeat (first | (with_reducible first | exact HB.out | apply below_alloc | apply pw_below_drewN | apply below_drew1) | exact HB.out)) hb); clear HB; have HB := n0_; clear n0_; (try clear hb); (try clear hb2); (try clear hk); (try clear hi)) | ((with_reducible refine gate_callee (f := 36) rfl ?_); refine goesL_ (some 23) rfl rfl Try.func36 (by kernel_rfl) rfl #[.int .i64 (Int.tmod (wrap64 (a0)) 16)] rfl (by (try simp only [List.map_toArray, List.map_cons, List.map_nil]); first | done | rfl | (simp only [List.length_drop, List.length_take]; rfl)) ?_; (with_reducible refine (millstreamref08_First.calls (Int.tmod (wrap64 (a0)) 16) t129 _ A5.out).mono ?_); rintro e w' ⟨rfl, ⟨nd, rfl⟩⟩; refine ⟨_, rfl, ?_⟩) | (go_at_call 34; (with_reducible refine (code_Joined.calls (Int.tmod (wrap64 (a0)) 16) t130 _ A7.out).mono ?_); rintro e w27 ⟨rfl, hb⟩; have n0_ := Aside0.mk (below_step (by repeat (first | (with_reducible first | exact HB.out | apply below_alloc | apply pw_below_drewN | apply below_drew1) | exact HB.out)) hb); clear HB; have HB := n0_; clear n0_; (try clear hb); (try clear hb2); (try clear hk); (try clear hi)) | (go_at_call 37; (with_reducible refine (millstreamref08_Joined.calls (Int.tmod (wrap64 (a0)) 16) t131 _ A8.out).mono ?_); rintro e w' ⟨rfl, ⟨nd, rfl⟩⟩) | (go_at_call 35; (with_reducible refine (code_Deposited.calls (Int.tmod (wrap64 (a0)) 16) t132 _ A10.out).mono ?_); rintro e w28 ⟨rfl, hb⟩; have n0_ := Aside0.mk (below_step (by repeat (first | (with_reducible first | exact HB.out | apply below_alloc | apply pw_below_drewN | apply below_drew1) | exact HB.out)) hb); clear HB; have HB := n0_; clear n0_; (try clear hb); (try clear hb2); (try clear hk); (try clear hi)) | (go_at_call 38; (with_reducible refine (millstreamref08_Deposited.calls (Int.tmod (wrap64 (a0)) 16) t133 _ A11.out).mono ?_); rintro e w' ⟨rfl, ⟨nd, rfl⟩⟩) | (go_at_call 32; (with_reducible refine (code_Open.calls (Int.tmod (wrap64 (a1)) 4) (wrap64 (1 + (Int.tmod (wrap64 (a2)) 3))) t134 _ A13.out).mono ?_); rintro e w29 ⟨rfl, hb⟩; have n0_ := Aside0.mk (below_step (by repeat (first | (with_reducible first | exact HB.out | apply below_alloc | apply pw_below_drewN | apply below_drew1) | exact HB.out)) hb); clear HB; have HB := n0_; clear n0_; (try clear hb); (try clear hb2); (try clear hk); (try clear hi)) | (go_at_call 39; (with_reducible refine (millstreamref08_Open.calls (Int.tmod (wrap64 (a1)) 4) (wrap64 (1 + (Int.tmod (wrap64 (a2)) 3))) t135 _ A14.out).mono ?_); rintro e w' ⟨rfl, ⟨nd, rfl⟩⟩) | (go_at_call 40; (with_reducible refine (code_Told.calls  t136 _ A16.out).mono ?_); rintro e w30 ⟨rfl, hb⟩; have n0_ := Aside0.mk (below_step (by repeat (first | (with_reducible first | exact HB.out | apply below_alloc | apply pw_below_drewN | apply below_drew1) | exact HB.out)) hb); clear HB; have HB := n0_; clear n0_; (try clear hb); (try clear hb2); (try clear hk); (try clear hi)) | (go_at_call 41; (with_reducible refine (millstreamref08_Told.calls  t137 _ A17.out).mono ?_); rintro e w' ⟨rfl, ⟨nd, rfl⟩⟩))
            go_ret
            exact ⟨by first | rfl | (simp [errW_none, errW_some] <;> rfl) | (simp [*, errW_none, errW_some] <;> rfl), by repeat (first | (with_reducible first | exact HB.out | apply below_alloc | apply pw_below_drewN | apply below_drew1) | exact HB.out)⟩
        · rw [if_neg c15] at H
          have c15b0 : (t134 == t135) = false := beq_eq_false_iff_ne.mpr c15
          have c15b1 : (t134 != t135) = true := bne_iff_ne.mpr c15
          obtain rfl := Option.some.inj H
          go_enter Try.func12, Try.ntmps12
          go_wp2_with (first | ((with_reducible refine gate_callee (f := 33) rfl ?_); refine goesL_ (some 21) rfl rfl Try.func33 (by kernel_rfl) rfl #[.int .i64 (Int.tmod (wrap64 (a0)) 16)] rfl (by (try simp only [List.map_toArray, List.map_cons, List.map_nil]); first | done | rfl | (simp only [List.length_drop, List.length_take]; rfl)) ?_; (with_reducible refine (code_First.calls (Int.tmod (wrap64 (a0)) 16) t128 _ A4.out).mono ?_); rintro e w31 ⟨rfl, hb⟩; refine ⟨_, rfl, ?_⟩; have n0_ := Aside0.mk (below_step (by repeat (first | (with_reducible first | exact HB.out | apply below_alloc | apply pw_below_drewN | apply below_drew1) | exact HB.out)) hb); clear HB; have HB := n0_; clear n0_; (try clear hb); (try clear hb2); (try clear hk); (try clear hi)) | ((with_reducible refine gate_callee (f := 36) rfl ?_); refine goesL_ (some 23) rfl rfl Try.func36 (by kernel_rfl) rfl #[.int .i64 (Int.tmod (wrap64 (a0)) 16)] rfl (by (try simp only [List.map_toArray, List.map_cons, List.map_nil]); first | done | rfl | (simp only [List.length_drop, List.length_take]; rfl)) ?_; (with_reducible refine (millstreamref08_First.calls (Int.tmod (wrap64 (a0)) 16) t129 _ A5.out).mono ?_); rintro e w' ⟨rfl, ⟨nd, rfl⟩⟩; refine ⟨_, rfl, ?_⟩) | (go_at_call 34; (with_reducible refine (code_Joined.calls (Int.tmod (wrap64 (a0)) 16) t130 _ A7.out).mono ?_); rintro e w32 ⟨rfl, hb⟩; have n0_ := Aside0.mk (below_step (by repeat (first | (with_reducible first | exact HB.out | apply below_alloc | apply pw_below_drewN | apply below_drew1) | exact HB.out)) hb); clear HB; have HB := n0_; clear n0_; (try clear hb); (try clear hb2); (try clear hk); (try clear hi)) | (go_at_call 37; (with_reducible refine (millstreamref08_Joined.calls (Int.tmod (wrap64 (a0)) 16) t131 _ A8.out).mono ?_); rintro e w' ⟨rfl, ⟨nd, rfl⟩⟩) | (go_at_call 35; (with_reducible refine (code_Deposited.calls (Int.tmod (wrap64 (a0)) 16) t132 _ A10.out).mono ?_); rintro e w33 ⟨rfl, hb⟩; have n0_ := Aside0.mk (below_step (by repeat (first | (with_reducible first | exact HB.out | apply below_alloc | apply pw_below_drewN | apply below_drew1) | exact HB.out)) hb); clear HB; have HB := n0_; clear n0_; (try clear hb); (try clear hb2); (try clear hk); (try clear hi)) | (go_at_call 38; (with_reducible refine (millstreamref08_Deposited.calls (Int.tmod (wrap64 (a0)) 16) t133 _ A11.out).mono ?_); rintro e w' ⟨rfl, ⟨nd, rfl⟩⟩) | (go_at_call 32; (with_reducible refine (code_Open.calls (Int.tmod (wrap64 (a1)) 4) (wrap64 (1 + (Int.tmod (wrap64 (a2)) 3))) t134 _ A13.out).mono ?_); rintro e w34 ⟨rfl, hb⟩; have n0_ := Aside0.mk (below_step (by repeat (first | (with_reducible first | exact HB.out | apply below_alloc | apply pw_below_drewN | apply below_drew1) | exact HB.out)) hb); clear HB; have HB := n0_; clear n0_; (try clear hb); (try clear hb2); (try clear hk); (try clear hi)) | (go_at_call 39; (with_reducible refine (millstreamref08_Open.calls (Int.tmod (wrap64 (a1)) 4) (wrap64 (1 + (Int.tmod (wrap64 (a2)) 3))) t135 _ A14.out).mono ?_); rintro e w' ⟨rfl, ⟨nd, rfl⟩⟩))
          go_ret
          exact ⟨by first | rfl | (simp [errW_none, errW_some] <;> rfl) | (simp [*, errW_none, errW_some] <;> rfl), by repeat (first | (with_reducible first | exact HB.out | apply below_alloc | apply pw_below_drewN | apply below_drew1) | exact HB.out)⟩
      · rw [if_neg c12] at H
        have c12b0 : (t132 == t133) = false := beq_eq_false_iff_ne.mpr c12
        have c12b1 : (t132 != t133) = true := bne_iff_ne.mpr c12
        obtain rfl := Option.some.inj H
        go_enter Try.func12, Try.ntmps12
        go_wp2_with (first | ((with_reducible refine gate_callee (f := 33) rfl ?_); refine goesL_ (some 21) rfl rfl Try.func33 (by kernel_rfl) rfl #[.int .i64 (Int.tmod (wrap64 (a0)) 16)] rfl (by (try simp only [List.map_toArray, List.map_cons, List.map_nil]); first | done | rfl | (simp only [List.length_drop, List.length_take]; rfl)) ?_; (with_reducible refine (code_First.calls (Int.tmod (wrap64 (a0)) 16) t128 _ A4.out).mono ?_); rintro e w35 ⟨rfl, hb⟩; refine ⟨_, rfl, ?_⟩; have n0_ := Aside0.mk (below_step (by repeat (first | (with_reducible first | exact HB.out | apply below_alloc | apply pw_below_drewN | apply below_drew1) | exact HB.out)) hb); clear HB; have HB := n0_; clear n0_; (try clear hb); (try clear hb2); (try clear hk); (try clear hi)) | ((with_reducible refine gate_callee (f := 36) rfl ?_); refine goesL_ (some 23) rfl rfl Try.func36 (by kernel_rfl) rfl #[.int .i64 (Int.tmod (wrap64 (a0)) 16)] rfl (by (try simp only [List.map_toArray, List.map_cons, List.map_nil]); first | done | rfl | (simp only [List.length_drop, List.length_take]; rfl)) ?_; (with_reducible refine (millstreamref08_First.calls (Int.tmod (wrap64 (a0)) 16) t129 _ A5.out).mono ?_); rintro e w' ⟨rfl, ⟨nd, rfl⟩⟩; refine ⟨_, rfl, ?_⟩) | (go_at_call 34; (with_reducible refine (code_Joined.calls (Int.tmod (wrap64 (a0)) 16) t130 _ A7.out).mono ?_); rintro e w36 ⟨rfl, hb⟩; have n0_ := Aside0.mk (below_step (by repeat (first | (with_reducible first | exact HB.out | apply below_alloc | apply pw_below_drewN | apply below_drew1) | exact HB.out)) hb); clear HB; have HB := n0_; clear n0_; (try clear hb); (try clear hb2); (try clear hk); (try clear hi)) | (go_at_call 37; (with_reducible refine (millstreamref08_Joined.calls (Int.tmod (wrap64 (a0)) 16) t131 _ A8.out).mono ?_); rintro e w' ⟨rfl, ⟨nd, rfl⟩⟩) | (go_at_call 35; (with_reducible refine (code_Deposited.calls (Int.tmod (wrap64 (a0)) 16) t132 _ A10.out).mono ?_); rintro e w37 ⟨rfl, hb⟩; have n0_ := Aside0.mk (below_step (by repeat (first | (with_reducible first | exact HB.out | apply below_alloc | apply pw_below_drewN | apply below_drew1) | exact HB.out)) hb); clear HB; have HB := n0_; clear n0_; (try clear hb); (try clear hb2); (try clear hk); (try clear hi)) | (go_at_call 38; (with_reducible refine (millstreamref08_Deposited.calls (Int.tmod (wrap64 (a0)) 16) t133 _ A11.out).mono ?_); rintro e w' ⟨rfl, ⟨nd, rfl⟩⟩))
        go_ret
        exact ⟨by first | rfl | (simp [errW_none, errW_some] <;> rfl) | (simp [*, errW_none, errW_some] <;> rfl), by repeat (first | (with_reducible first | exact HB.out | apply below_alloc | apply pw_below_drewN | apply below_drew1) | exact HB.out)⟩
    · rw [if_neg c9] at H
      have c9b0 : (t130 == t131) = false := beq_eq_false_iff_ne.mpr c9
      have c9b1 : (t130 != t131) = true := bne_iff_ne.mpr c9
      obtain rfl := Option.some.inj H
      go_enter Try.func12, Try.ntmps12
      go_wp2_with (first | ((with_reducible refine gate_callee (f := 33) rfl ?_); refine goesL_ (some 21) rfl rfl Try.func33 (by kernel_rfl) rfl #[.int .i64 (Int.tmod (wrap64 (a0)) 16)] rfl (by (try simp only [List.map_toArray, List.map_cons, List.map_nil]); first | done | rfl | (simp only [List.length_drop, List.length_take]; rfl)) ?_; (with_reducible refine (code_First.calls (Int.tmod (wrap64 (a0)) 16) t128 _ A4.out).mono ?_); rintro e w38 ⟨rfl, hb⟩; refine ⟨_, rfl, ?_⟩; have n0_ := Aside0.mk (below_step (by repeat (first | (with_reducible first | exact HB.out | apply below_alloc | apply pw_below_drewN | apply below_drew1) | exact HB.out)) hb); clear HB; have HB := n0_; clear n0_; (try clear hb); (try clear hb2); (try clear hk); (try clear hi)) | ((with_reducible refine gate_callee (f := 36) rfl ?_); refine goesL_ (some 23) rfl rfl Try.func36 (by kernel_rfl) rfl #[.int .i64 (Int.tmod (wrap64 (a0)) 16)] rfl (by (try simp only [List.map_toArray, List.map_cons, List.map_nil]); first | done | rfl | (simp only [List.length_drop, List.length_take]; rfl)) ?_; (with_reducible refine (millstreamref08_First.calls (Int.tmod (wrap64 (a0)) 16) t129 _ A5.out).mono ?_); rintro e w' ⟨rfl, ⟨nd, rfl⟩⟩; refine ⟨_, rfl, ?_⟩) | (go_at_call 34; (with_reducible refine (code_Joined.calls (Int.tmod (wrap64 (a0)) 16) t130 _ A7.out).mono ?_); rintro e w39 ⟨rfl, hb⟩; have n0_ := Aside0.mk (below_step (by repeat (first | (with_reducible first | exact HB.out | apply below_alloc | apply pw_below_drewN | apply below_drew1) | exact HB.out)) hb); clear HB; have HB := n0_; clear n0_; (try clear hb); (try clear hb2); (try clear hk); (try clear hi)) | (go_at_call 37; (with_reducible refine (millstreamref08_Joined.calls (Int.tmod (wrap64 (a0)) 16) t131 _ A8.out).mono ?_); rintro e w' ⟨rfl, ⟨nd, rfl⟩⟩))
      go_ret
      exact ⟨by first | rfl | (simp [errW_none, errW_some] <;> rfl) | (simp [*, errW_none, errW_some] <;> rfl), by repeat (first | (with_reducible first | exact HB.out | apply below_alloc | apply pw_below_drewN | apply below_drew1) | exact HB.out)⟩
  · rw [if_neg c6] at H
    have c6b0 : (t128 == t129) = false := beq_eq_false_iff_ne.mpr c6
    have c6b1 : (t128 != t129) = true := bne_iff_ne.mpr c6
    obtain rfl := Option.some.inj H
    go_enter Try.func12, Try.ntmps12
    go_wp2_with (first | ((with_reducible refine gate_callee (f := 33) rfl ?_); refine goesL_ (some 21) rfl rfl Try.func33 (by kernel_rfl) rfl #[.int .i64 (Int.tmod (wrap64 (a0)) 16)] rfl (by (try simp only [List.map_toArray, List.map_cons, List.map_nil]); first | done | rfl | (simp only [List.length_drop, List.length_take]; rfl)) ?_; (with_reducible refine (code_First.calls (Int.tmod (wrap64 (a0)) 16) t128 _ A4.out).mono ?_); rintro e w40 ⟨rfl, hb⟩; refine ⟨_, rfl, ?_⟩; have n0_ := Aside0.mk (below_step (by repeat (first | (with_reducible first | exact HB.out | apply below_alloc | apply pw_below_drewN | apply below_drew1) | exact HB.out)) hb); clear HB; have HB := n0_; clear n0_; (try clear hb); (try clear hb2); (try clear hk); (try clear hi)) | ((with_reducible refine gate_callee (f := 36) rfl ?_); refine goesL_ (some 23) rfl rfl Try.func36 (by kernel_rfl) rfl #[.int .i64 (Int.tmod (wrap64 (a0)) 16)] rfl (by (try simp only [List.map_toArray, List.map_cons, List.map_nil]); first | done | rfl | (simp only [List.length_drop, List.length_take]; rfl)) ?_; (with_reducible refine (millstreamref08_First.calls (Int.tmod (wrap64 (a0)) 16) t129 _ A5.out).mono ?_); rintro e w' ⟨rfl, ⟨nd, rfl⟩⟩; refine ⟨_, rfl, ?_⟩))
    go_ret
    exact ⟨by first | rfl | (simp [errW_none, errW_some] <;> rfl) | (simp [*, errW_none, errW_some] <;> rfl), by repeat (first | (with_reducible first | exact HB.out | apply below_alloc | apply pw_below_drewN | apply below_drew1) | exact HB.out)⟩

/-- THE ONE PURE STATEMENT of millstreamlaw08_CodeMakes: yours. -/
def millstreamlaw08_CodeMakes.Pure : Prop := ∀ (a0 : Int) (a1 : Int) (a2 : Int), (Lit.int .u8 a0).wf = true → (Lit.int .u8 a1).wf = true → (Lit.int .u8 a2).wf = true → ∃ k, millstreamlaw08_CodeMakes.f k a0 a1 a2 = some true
theorem millstreamlaw08_CodeMakes.walk (P : millstreamlaw08_CodeMakes.Pure) (a0 : Int) (a1 : Int) (a2 : Int) (w : World) (w0 : (Lit.int .u8 a0).wf = true) (w1 : (Lit.int .u8 a1).wf = true) (w2 : (Lit.int .u8 a2).wf = true) :
    Calls Try.prog 12 #[.int .u8 a0, .int .u8 a1, .int .u8 a2] w fun e w' => e = .returned (.bool true) ∧ Below w.heap.size w w' := by
  obtain ⟨k, h⟩ := P a0 a1 a2 w0 w1 w2
  refine (millstreamlaw08_CodeMakes.calls k a0 a1 a2 true w h).mono ?_
  rintro e w' ⟨rfl, hd⟩
  exact ⟨rfl, hd⟩

end Go.Proofs.Yteiocdbkilfnkaa.PCodeMakes
