/- For every thread, item and layer: the words First, Joined, Deposited and Open tell back what they were made of. No condition. -/
import Derived.Test.YteiocdbkilfnkaaWords
namespace Go.Proofs.Yteiocdbkilfnkaa.Back
open Go Go.RowKit Go.Proofs.Yteiocdbkilfnkaa.PCodeMakes Go.Proofs.Yteiocdbkilfnkaa.Words Go.Proofs.YteiocdbkilfnkaaW.PrintWords

theorem bb {x : Int} (h : -9223372036854775808 ≤ x) (g : x ≤ 9223372036854775807) : Hid (-9223372036854775808 ≤ x ∧ x ≤ 9223372036854775807) := ⟨h, g⟩
theorem walk (a0 a1 a2 F J D O : Int) (w : World) (h0 : 0 ≤ a0) (g0 : a0 ≤ 255) (h1 : 0 ≤ a1) (g1 : a1 ≤ 255) (h2 : 0 ≤ a2) (g2 : a2 ≤ 255)
    (hF : Hid (code_First.f (a0 % 16) = some F)) (hJ : Hid (code_Joined.f (a0 % 16) = some J)) (hD : Hid (code_Deposited.f (a0 % 16) = some D)) (hO : Hid (code_Open.f (a1 % 4) (1 + a2 % 3) = some O))
    (bF : Hid (-9223372036854775808 ≤ F ∧ F ≤ 9223372036854775807)) (bJ : Hid (-9223372036854775808 ≤ J ∧ J ≤ 9223372036854775807)) (bD : Hid (-9223372036854775808 ≤ D ∧ D ≤ 9223372036854775807)) (bO : Hid (-9223372036854775808 ≤ O ∧ O ≤ 9223372036854775807))
    (kF : Hid (kindS F = 1)) (kJ : Hid (kindS J = 2)) (kD : Hid (kindS D = 3)) (kO : Hid (kindS O = 4))
    (vF : Hid (whoS F = a0 % 16)) (vJ : Hid (whoS J = a0 % 16)) (vD : Hid (whoS D = a0 % 16)) (vO : Hid (whoS O = -1)) (wO : Hid (whereS O = (a1 % 4, 1 + a2 % 3))) :
    Calls Try.prog 11 #[.int .u8 a0, .int .u8 a1, .int .u8 a2] w fun e w' => e = .returned (.bool true) ∧ Below w.heap.size w w' := by
  have HB := Aside0.mk (Below.refl w.heap.size w)
  go_enter Try.func11, Try.ntmps11
  go_wp2_with (first | (go_at_call 32; (with_reducible refine (code_Open.calls _ _ O _ hO.out).mono ?_); rintro e w1 ⟨rfl, hb⟩; have n0_ := Aside0.mk (below_step HB.out hb); clear HB hb; have HB := n0_; clear n0_) | (go_at_call 33; (with_reducible refine (code_First.calls _ F _ hF.out).mono ?_); rintro e w1 ⟨rfl, hb⟩; have n0_ := Aside0.mk (below_step HB.out hb); clear HB hb; have HB := n0_; clear n0_) | (go_at_call 34; (with_reducible refine (code_Joined.calls _ J _ hJ.out).mono ?_); rintro e w1 ⟨rfl, hb⟩; have n0_ := Aside0.mk (below_step HB.out hb); clear HB hb; have HB := n0_; clear n0_) | (go_at_call 35; (with_reducible refine (code_Deposited.calls _ D _ hD.out).mono ?_); rintro e w1 ⟨rfl, hb⟩; have n0_ := Aside0.mk (below_step HB.out hb); clear HB hb; have HB := n0_; clear n0_) | (go_at_call 14; (with_reducible refine (where_any O (a1 % 4) (1 + a2 % 3) _ bO wO).mono ?_); rintro e w1 ⟨rfl, hb⟩; have n0_ := Aside0.mk (below_step HB.out hb); clear HB hb; have HB := n0_; clear n0_) | (go_at_call 16; (with_reducible refine (kind_any F 1 _ bF kF).mono ?_); rintro e w1 ⟨rfl, hb⟩; have n0_ := Aside0.mk (below_step HB.out hb); clear HB hb; have HB := n0_; clear n0_) | (go_at_call 16; (with_reducible refine (kind_any J 2 _ bJ kJ).mono ?_); rintro e w1 ⟨rfl, hb⟩; have n0_ := Aside0.mk (below_step HB.out hb); clear HB hb; have HB := n0_; clear n0_) | (go_at_call 16; (with_reducible refine (kind_any D 3 _ bD kD).mono ?_); rintro e w1 ⟨rfl, hb⟩; have n0_ := Aside0.mk (below_step HB.out hb); clear HB hb; have HB := n0_; clear n0_) | (go_at_call 16; (with_reducible refine (kind_any O 4 _ bO kO).mono ?_); rintro e w1 ⟨rfl, hb⟩; have n0_ := Aside0.mk (below_step HB.out hb); clear HB hb; have HB := n0_; clear n0_) | (go_at_call 18; (with_reducible refine (who_any F (a0 % 16) _ bF vF).mono ?_); rintro e w1 ⟨rfl, hb⟩; have n0_ := Aside0.mk (below_step HB.out hb); clear HB hb; have HB := n0_; clear n0_) | (go_at_call 18; (with_reducible refine (who_any J (a0 % 16) _ bJ vJ).mono ?_); rintro e w1 ⟨rfl, hb⟩; have n0_ := Aside0.mk (below_step HB.out hb); clear HB hb; have HB := n0_; clear n0_) | (go_at_call 18; (with_reducible refine (who_any D (a0 % 16) _ bD vD).mono ?_); rintro e w1 ⟨rfl, hb⟩; have n0_ := Aside0.mk (below_step HB.out hb); clear HB hb; have HB := n0_; clear n0_) | (go_at_call 18; (with_reducible refine (who_any O (-1) _ bO vO).mono ?_); rintro e w1 ⟨rfl, hb⟩; have n0_ := Aside0.mk (below_step HB.out hb); clear HB hb; have HB := n0_; clear n0_) | (go_at_call 20; (with_reducible refine (shown_any _).mono ?_); rintro e w1 ⟨rfl, hb⟩; have n0_ := Aside0.mk (below_step HB.out hb); clear HB hb; have HB := n0_; clear n0_))
  go_ret
  exact ⟨rfl, HB.out⟩
theorem all (a0 a1 a2 : Int) (w : World) (w0 : (Lit.int .u8 a0).wf = true) (w1 : (Lit.int .u8 a1).wf = true) (w2 : (Lit.int .u8 a2).wf = true) :
    Calls Try.prog 11 #[.int .u8 a0, .int .u8 a1, .int .u8 a2] w fun e w' => e = .returned (.bool true) ∧ Below w.heap.size w w' := by
  have h0 := lit8 w0; have h1 := lit8 w1; have h2 := lit8 w2
  have gt : 0 ≤ a0 % 16 ∧ a0 % 16 < 16 := by omega
  have gi : 0 ≤ a1 % 4 ∧ a1 % 4 < 4 := by omega
  have gl : 1 ≤ 1 + a2 % 3 ∧ 1 + a2 % 3 ≤ 3 := by omega
  exact walk a0 a1 a2 _ _ _ _ w h0.1 h0.2 h1.1 h1.2 h2.1 h2.2 (first_of _ gt) (joined_of _ gt) (deposited_of _ gt) (open_of _ _ gi gl)
    (bb (by omega) (by omega)) (bb (by omega) (by omega)) (bb (by omega) (by omega)) (bb (by omega) (by omega))
    (kind_thread _ 1 gt (by omega)) (kind_thread _ 2 gt (by omega)) (kind_thread _ 3 gt (by omega)) (kind_open _ _ gi gl)
    (who_thread _ 1 gt (by omega)) (who_thread _ 2 gt (by omega)) (who_thread _ 3 gt (by omega)) (who_open _ _ gi gl) (where_open _ _ gi gl)
end Go.Proofs.Yteiocdbkilfnkaa.Back
