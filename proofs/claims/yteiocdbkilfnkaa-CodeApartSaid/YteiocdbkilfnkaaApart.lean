/- For any two threads, items and layers: two words are one just if they are made of the same things; none of them is the free word or the told word. No condition. -/
import Derived.Test.YteiocdbkilfnkaaWords
namespace Go.Proofs.Yteiocdbkilfnkaa.Apart
open Go Go.RowKit Go.Proofs.Yteiocdbkilfnkaa.PCodeMakes Go.Proofs.Yteiocdbkilfnkaa.Words Go.Proofs.YteiocdbkilfnkaaW.PrintWords

/-- Are two words made of the same things? -/
def same (m n : Nat) (a b i j k l : Int) : Bool := decide (m = n ∧ (m < 3 ∧ a = b ∨ m = 3 ∧ i = j ∧ k = l ∨ 3 < m))
def Six (X : Nat → Int) (F J D O : Int) : Prop := X 0 = F ∧ X 1 = J ∧ X 2 = D ∧ X 3 = O ∧ X 4 = 0 ∧ X 5 = 5
/-- Six whole numbers lie in a block. -/
def Cells6 (w : World) (b : Nat) (X : Nat → Int) : Prop := ∀ i, i < 6 → w.cell? ⟨b, i, none⟩ = some (.int .i64 (X i))
theorem cells_drewN {w : World} {b : Nat} {X : Nat → Int} (h : Cells6 w b X) (n : Nat) : Cells6 (w.drewN n) b X := fun i hi => by simpa using h i hi
theorem six_cells {X : Nat → Int} {F J D O : Int} (h : Hid (Six X F J D O)) (w : World) : Cells6 (w.alloc (.cells #[.int .i64 F, .int .i64 J, .int .i64 D, .int .i64 O, .int .i64 0, .int .i64 5] 3)) w.heap.size X := by
  obtain ⟨h0, h1, h2, h3, h4, h5⟩ := h.out
  intro i hi
  have : i = 0 ∨ i = 1 ∨ i = 2 ∨ i = 3 ∨ i = 4 ∨ i = 5 := by omega
  rcases this with rfl | rfl | rfl | rfl | rfl | rfl <;> simp [*]
theorem X_cells {X : Nat → Int} {F J D O : Int} {wA wB : World} (h : Hid (Six X F J D O)) (hb : Below (wA.alloc (.cells #[.int .i64 F, .int .i64 J, .int .i64 D, .int .i64 O, .int .i64 0, .int .i64 5] 3)).heap.size (wA.alloc (.cells #[.int .i64 F, .int .i64 J, .int .i64 D, .int .i64 O, .int .i64 0, .int .i64 5] 3)) wB) (o : Obj) :
    Aside0 (Cells6 (wB.alloc o) wA.heap.size X) := by
  refine Aside0.mk fun i hi => ?_
  have h1 := six_cells h wA i hi
  have h2 := hb.alloc (by have := hb.size; exact this) o
  rw [← h1]
  exact h2.cell (p := ⟨wA.heap.size, i, none⟩) (by simp)
theorem Y_cells {X : Nat → Int} {F J D O : Int} {wB : World} (h : Hid (Six X F J D O)) :
    Aside0 (Cells6 (wB.alloc (.cells #[.int .i64 F, .int .i64 J, .int .i64 D, .int .i64 O, .int .i64 0, .int .i64 5] 3)) wB.heap.size X) := Aside0.mk (six_cells h wB)
set_option maxHeartbeats 4000000 in
set_option maxRecDepth 100000 in
theorem walk (a0 a1 a2 a3 a4 a5 F J D O F' J' D' O' : Int) (w : World) (h0 : 0 ≤ a0) (g0 : a0 ≤ 255) (h1 : 0 ≤ a1) (g1 : a1 ≤ 255) (h2 : 0 ≤ a2) (g2 : a2 ≤ 255) (h3 : 0 ≤ a3) (g3 : a3 ≤ 255) (h4 : 0 ≤ a4) (g4 : a4 ≤ 255) (h5 : 0 ≤ a5) (g5 : a5 ≤ 255)
    (hF : Hid (code_First.f (a0 % 16) = some F)) (hJ : Hid (code_Joined.f (a0 % 16) = some J)) (hD : Hid (code_Deposited.f (a0 % 16) = some D)) (hO : Hid (code_Open.f (a2 % 4) (1 + a3 % 3) = some O))
    (hF' : Hid (code_First.f (a1 % 16) = some F')) (hJ' : Hid (code_Joined.f (a1 % 16) = some J')) (hD' : Hid (code_Deposited.f (a1 % 16) = some D')) (hO' : Hid (code_Open.f (a4 % 4) (1 + a5 % 3) = some O'))
    (hT : Hid (code_Told.f = some 5)) (X Y : Nat → Int) (h6 : Hid (Six X F J D O)) (h6' : Hid (Six Y F' J' D' O')) (hP : Hid (∀ m n, m < 6 → n < 6 → (X m == Y n) = same m n (a0 % 16) (a1 % 16) (a2 % 4) (a4 % 4) (1 + a3 % 3) (1 + a5 % 3))) (tok1 tok2 tok3 tok4 tok5 : True) :
    Calls Try.prog 13 #[.int .u8 a0, .int .u8 a1, .int .u8 a2, .int .u8 a3, .int .u8 a4, .int .u8 a5] w fun e w' => e = .returned (.bool true) ∧ Below w.heap.size w w' := by
  have HB := Aside0.mk (Below.refl w.heap.size w)
  go_enter Try.func13, Try.ntmps13
  go_wp2_with (first | (go_at_call 33; have _t := tok1; (with_reducible refine (code_First.calls (a0 % 16) F _ hF.out).mono ?_); rintro e w1 ⟨rfl, hb⟩; have n0_ := Aside0.mk (below_step (by repeat (first | (with_reducible first | exact HB.out | apply below_alloc | apply pw_below_drewN | apply below_drew1) | exact HB.out)) hb); clear HB hb; have HB := n0_; clear n0_; clear tok1 _t) | (go_at_call 34; have _t := tok2; (with_reducible refine (code_Joined.calls (a0 % 16) J _ hJ.out).mono ?_); rintro e w1 ⟨rfl, hb⟩; have n0_ := Aside0.mk (below_step (by repeat (first | (with_reducible first | exact HB.out | apply below_alloc | apply pw_below_drewN | apply below_drew1) | exact HB.out)) hb); clear HB hb; have HB := n0_; clear n0_; clear tok2 _t) | (go_at_call 35; have _t := tok3; (with_reducible refine (code_Deposited.calls (a0 % 16) D _ hD.out).mono ?_); rintro e w1 ⟨rfl, hb⟩; have n0_ := Aside0.mk (below_step (by repeat (first | (with_reducible first | exact HB.out | apply below_alloc | apply pw_below_drewN | apply below_drew1) | exact HB.out)) hb); clear HB hb; have HB := n0_; clear n0_; clear tok3 _t) | (go_at_call 32; have _t := tok4; (with_reducible refine (code_Open.calls (a2 % 4) (1 + a3 % 3) O _ hO.out).mono ?_); rintro e w1 ⟨rfl, hb⟩; have n0_ := Aside0.mk (below_step (by repeat (first | (with_reducible first | exact HB.out | apply below_alloc | apply pw_below_drewN | apply below_drew1) | exact HB.out)) hb); clear HB hb; have HB := n0_; clear n0_; clear tok4 _t) | (go_at_call 40; have _t := tok5; (with_reducible refine (code_Told.calls 5 _ hT.out).mono ?_); rintro e wA ⟨rfl, hb⟩; have n0_ := Aside0.mk (below_step (by repeat (first | (with_reducible first | exact HB.out | apply below_alloc | apply pw_below_drewN | apply below_drew1) | exact HB.out)) hb); clear HB hb; have HB := n0_; clear n0_; clear tok5 _t) | (go_at_call 33; (with_reducible refine (code_First.calls (a1 % 16) F' _ hF'.out).mono ?_); rintro e w1 ⟨rfl, hb⟩; have HX := Aside0.mk hb; have n0_ := Aside0.mk (below_step (by repeat (first | (with_reducible first | exact HB.out | apply below_alloc | apply pw_below_drewN | apply below_drew1) | exact HB.out)) hb); clear HB hb; have HB := n0_; clear n0_) | (go_at_call 34; (with_reducible refine (code_Joined.calls (a1 % 16) J' _ hJ'.out).mono ?_); rintro e w1 ⟨rfl, hb⟩; have n0_ := Aside0.mk (below_step (by repeat (first | (with_reducible first | exact HB.out | apply below_alloc | apply pw_below_drewN | apply below_drew1) | exact HB.out)) hb); have n1_ := Aside0.mk (below_step HX.out hb); clear HB HX hb; have HB := n0_; have HX := n1_; clear n0_ n1_) | (go_at_call 35; (with_reducible refine (code_Deposited.calls (a1 % 16) D' _ hD'.out).mono ?_); rintro e w1 ⟨rfl, hb⟩; have n0_ := Aside0.mk (below_step (by repeat (first | (with_reducible first | exact HB.out | apply below_alloc | apply pw_below_drewN | apply below_drew1) | exact HB.out)) hb); have n1_ := Aside0.mk (below_step HX.out hb); clear HB HX hb; have HB := n0_; have HX := n1_; clear n0_ n1_) | (go_at_call 32; (with_reducible refine (code_Open.calls (a4 % 4) (1 + a5 % 3) O' _ hO'.out).mono ?_); rintro e w1 ⟨rfl, hb⟩; have n0_ := Aside0.mk (below_step (by repeat (first | (with_reducible first | exact HB.out | apply below_alloc | apply pw_below_drewN | apply below_drew1) | exact HB.out)) hb); have n1_ := Aside0.mk (below_step HX.out hb); clear HB HX hb; have HB := n0_; have HX := n1_; clear n0_ n1_) | (go_at_call 40; (with_reducible refine (code_Told.calls 5 _ hT.out).mono ?_); rintro e wB ⟨rfl, hb⟩; have n0_ := Aside0.mk (below_step (by repeat (first | (with_reducible first | exact HB.out | apply below_alloc | apply pw_below_drewN | apply below_drew1) | exact HB.out)) hb); have n1_ := Aside0.mk (below_step HX.out hb); clear HB HX hb; have HB := n0_; have HX := n1_; clear n0_ n1_))
  have hcx := X_cells (wB := wB) h6 HX.out (Obj.cells #[.int .i64 F', .int .i64 J', .int .i64 D', .int .i64 O', .int .i64 0, .int .i64 5] 3)
  have hcy := Y_cells (wB := wB) h6'
  have HB2 := Aside0.mk (below_alloc HB.out (Obj.cells #[.int .i64 F', .int .i64 J', .int .i64 D', .int .i64 O', .int .i64 0, .int .i64 5] 3))
  clear HX HB
  revert hcx hcy HB2 hP
  obtain ⟨bx, hbx⟩ : ∃ bx, bx = wA.heap.size := ⟨_, rfl⟩
  obtain ⟨by', hby⟩ : ∃ bx, bx = wB.heap.size := ⟨_, rfl⟩
  obtain ⟨W0, hW0⟩ : ∃ W0, W0 = wB.alloc (Obj.cells #[.int .i64 F', .int .i64 J', .int .i64 D', .int .i64 O', .int .i64 0, .int .i64 5] 3) := ⟨_, rfl⟩
  rw [← hbx, ← hby, ← hW0]
  clear hW0 hbx hby
  obtain ⟨A, hA⟩ : ∃ x, x = a0 % 16 := ⟨_, rfl⟩
  obtain ⟨B, hB⟩ : ∃ x, x = a1 % 16 := ⟨_, rfl⟩
  obtain ⟨I, hI⟩ : ∃ x, x = a2 % 4 := ⟨_, rfl⟩
  obtain ⟨J2, hJ2⟩ : ∃ x, x = a4 % 4 := ⟨_, rfl⟩
  obtain ⟨L, hL⟩ : ∃ x, x = 1 + a3 % 3 := ⟨_, rfl⟩
  obtain ⟨L2, hL2⟩ : ∃ x, x = 1 + a5 % 3 := ⟨_, rfl⟩
  rw [← hA, ← hB, ← hI, ← hJ2, ← hL, ← hL2]
  clear hA hB hI hJ2 hL hL2 hF hJ hD hO hF' hJ' hD' hO'
  intro hP hcx hcy HB2
  go_loopw [21, 22, 23] (fun m _ _ wr => ∃ M : Nat, M ≤ 6 ∧ m = .int .i64 M ∧ Aside0 (Cells6 wr bx X) ∧ Aside0 (Cells6 wr by' Y) ∧ Aside0 (Below w.heap.size w wr)) (fun m _ _ _ => 6 - (intOf m).toNat)
  case atStart => exact ⟨0, by omega, rfl, hcx, hcy, HB2⟩
  case round =>
    obtain ⟨M, hM, rfl, cx, cy, hbw⟩ := hrel
    by_cases hlt : M < 6
    · have hlt' : decide ((M : Int) < 6) = true := by rw [decide_eq_true_iff]; omega
      go_wp2
      obtain ⟨wo, rfl⟩ : ∃ wo : World, wo = wr := ⟨_, rfl⟩
      go_loopw [22, 23] (fun n _ wi => ∃ N : Nat, N ≤ 6 ∧ n = .int .i64 N ∧ Aside0 (Cells6 wi bx X) ∧ Aside0 (Cells6 wi by' Y) ∧ Aside0 (Below w.heap.size w wi)) (fun n _ _ => 6 - (intOf n).toNat)
      case atStart => exact ⟨0, by omega, rfl, cx, cy, hbw⟩
      case round =>
        clear cx cy hbw
        obtain ⟨N, hN, rfl, cx, cy, hbw⟩ := hrel
        by_cases hlt2 : N < 6
        · have gx := cx.out M hlt
          have gy := cy.out N hlt2
          by_cases e : M = N
          · subst e
            by_cases c3 : M < 3
            · have c3' : (M : Int) < 3 := by omega
              by_cases cA : A = B
              · subst cA
                have e3 : (X M == Y M) = true := (hP.out M M hlt hlt).trans (by simp [same, c3])
                have gy' : wr.cell? ⟨by', M, none⟩ = some (.int .i64 (X M)) := by rw [gy, beq_iff_eq.mp e3]
                clear e3 gy
                go_wp2
                go_quiet (fail)
                go_wp2
                go_roundw
                case rel => exact ⟨M + 1, by omega, by go_num, Aside0.mk (cells_drewN cx.out _), Aside0.mk (cells_drewN cy.out _), Aside0.mk (pw_below_drewN hbw.out _)⟩
                case measure => simp [intOf]; omega
              · have cA' : (A == B) = false := by simpa using cA
                have e2 : (X M == Y M) = false := (hP.out M M hlt hlt).trans (by simp [same, c3, cA]; omega)
                have c4' : ((M : Int) == 3) = false := by rw [beq_eq_false_iff_ne]; omega
                have c5 : ¬ 3 < (M : Int) := by omega
                go_wp2
                go_quiet (fail)
                go_wp2
                go_roundw
                case rel => exact ⟨M + 1, by omega, by go_num, Aside0.mk (cells_drewN cx.out _), Aside0.mk (cells_drewN cy.out _), Aside0.mk (pw_below_drewN hbw.out _)⟩
                case measure => simp [intOf]; omega
            · have c3' : ¬ (M : Int) < 3 := by omega
              by_cases c4 : M = 3
              · have c4a : ((M : Int) == 3) = true := by rw [beq_iff_eq]; omega
                have c5 : ¬ 3 < (M : Int) := by omega
                by_cases cI : I = J2
                · subst cI
                  by_cases cL : L = L2
                  · subst cL
                    have e3 : (X M == Y M) = true := (hP.out M M hlt hlt).trans (by simp [same, c4])
                    have gy' : wr.cell? ⟨by', M, none⟩ = some (.int .i64 (X M)) := by rw [gy, beq_iff_eq.mp e3]
                    clear e3 gy
                    clear c4
                    go_wp2
                    go_quiet (fail)
                    go_wp2
                    go_roundw
                    case rel => exact ⟨M + 1, by omega, by go_num, Aside0.mk (cells_drewN cx.out _), Aside0.mk (cells_drewN cy.out _), Aside0.mk (pw_below_drewN hbw.out _)⟩
                    case measure => simp [intOf]; omega
                  · have cL' : (L == L2) = false := by simpa using cL
                    have e2 : (X M == Y M) = false := (hP.out M M hlt hlt).trans (by simp [same, c4, cL])
                    clear c4
                    go_wp2
                    go_quiet (fail)
                    go_wp2
                    go_roundw
                    case rel => exact ⟨M + 1, by omega, by go_num, Aside0.mk (cells_drewN cx.out _), Aside0.mk (cells_drewN cy.out _), Aside0.mk (pw_below_drewN hbw.out _)⟩
                    case measure => simp [intOf]; omega
                · have cI' : (I == J2) = false := by simpa using cI
                  have e2 : (X M == Y M) = false := (hP.out M M hlt hlt).trans (by simp [same, c4, cI])
                  clear c4
                  go_wp2
                  go_quiet (fail)
                  go_wp2
                  go_roundw
                  case rel => exact ⟨M + 1, by omega, by go_num, Aside0.mk (cells_drewN cx.out _), Aside0.mk (cells_drewN cy.out _), Aside0.mk (pw_below_drewN hbw.out _)⟩
                  case measure => simp [intOf]; omega
              · have c4' : ((M : Int) == 3) = false := by rw [beq_eq_false_iff_ne]; omega
                have c5 : 3 < (M : Int) := by omega
                have e3 : (X M == Y M) = true := (hP.out M M hlt hlt).trans (by simp [same]; omega)
                have gy' : wr.cell? ⟨by', M, none⟩ = some (.int .i64 (X M)) := by rw [gy, beq_iff_eq.mp e3]
                clear e3 gy
                go_wp2
                go_quiet (fail)
                go_wp2
                go_roundw
                case rel => exact ⟨M + 1, by omega, by go_num, Aside0.mk (cells_drewN cx.out _), Aside0.mk (cells_drewN cy.out _), Aside0.mk (pw_below_drewN hbw.out _)⟩
                case measure => simp [intOf]; omega
          · have e1 : ((M : Int) == (N : Int)) = false := by rw [beq_eq_false_iff_ne]; omega
            have e2 : (X M == Y N) = false := (hP.out M N hlt hlt2).trans (by simp [same, e])
            go_wp2
            go_quiet (fail)
            go_wp2
            go_roundw
            case rel => exact ⟨N + 1, by omega, by go_num, Aside0.mk (cells_drewN cx.out _), Aside0.mk (cells_drewN cy.out _), Aside0.mk (pw_below_drewN hbw.out _)⟩
            case measure => simp [intOf]; omega
        · go_wp2
          go_roundw
          case rel => exact ⟨M + 1, by omega, by go_num, cx, cy, hbw⟩
          case measure => simp [intOf]; omega
    · go_wp2_with (go_at_call 20; (with_reducible refine (shown_any _).mono ?_); rintro e w1 ⟨rfl, hb⟩; have HB := Aside0.mk (below_step hbw.out hb); clear hb)
      go_ret
      exact ⟨rfl, HB.out⟩

theorem told_of : code_Told.f = some 5 := by
  unfold code_Told.f code_said_word.f; simp [wrap64]
theorem six_same (a b i j k l : Int) (ha : 0 ≤ a ∧ a < 16) (hb : 0 ≤ b ∧ b < 16) (hk : 1 ≤ k ∧ k ≤ 3) (hl : 1 ≤ l ∧ l ≤ 3) (X Y : Nat → Int)
    (hX : Six X (8 * (a + 1) + 1) (8 * (a + 1) + 2) (8 * (a + 1) + 3) (8 * (16 * i + k + 1) + 4)) (hY : Six Y (8 * (b + 1) + 1) (8 * (b + 1) + 2) (8 * (b + 1) + 3) (8 * (16 * j + l + 1) + 4)) :
    ∀ m n, m < 6 → n < 6 → (X m == Y n) = same m n a b i j k l := by
  obtain ⟨x0, x1, x2, x3, x4, x5⟩ := hX
  obtain ⟨y0, y1, y2, y3, y4, y5⟩ := hY
  intro m n hm hn
  unfold same
  rw [Bool.eq_iff_iff, beq_iff_eq, decide_eq_true_iff]
  have : m = 0 ∨ m = 1 ∨ m = 2 ∨ m = 3 ∨ m = 4 ∨ m = 5 := by omega
  have : n = 0 ∨ n = 1 ∨ n = 2 ∨ n = 3 ∨ n = 4 ∨ n = 5 := by omega
  rcases ‹m = 0 ∨ _› with rfl | rfl | rfl | rfl | rfl | rfl <;> rcases ‹n = 0 ∨ _› with rfl | rfl | rfl | rfl | rfl | rfl <;> simp only [x0, x1, x2, x3, x4, x5, y0, y1, y2, y3, y4, y5] <;> first | (simp; done) | (simp; omega)
theorem six_is (p q r s : Int) : ∃ X : Nat → Int, Six X p q r s := ⟨fun i => if i = 0 then p else if i = 1 then q else if i = 2 then r else if i = 3 then s else if i = 4 then 0 else 5, rfl, rfl, rfl, rfl, rfl, rfl⟩
theorem all (a0 a1 a2 a3 a4 a5 : Int) (w : World) (w0 : (Lit.int .u8 a0).wf = true) (w1 : (Lit.int .u8 a1).wf = true) (w2 : (Lit.int .u8 a2).wf = true) (w3 : (Lit.int .u8 a3).wf = true) (w4 : (Lit.int .u8 a4).wf = true) (w5 : (Lit.int .u8 a5).wf = true) :
    Calls Try.prog 13 #[.int .u8 a0, .int .u8 a1, .int .u8 a2, .int .u8 a3, .int .u8 a4, .int .u8 a5] w fun e w' => e = .returned (.bool true) ∧ Below w.heap.size w w' := by
  have h0 := lit8 w0; have h1 := lit8 w1; have h2 := lit8 w2; have h3 := lit8 w3; have h4 := lit8 w4; have h5 := lit8 w5
  have ga : 0 ≤ a0 % 16 ∧ a0 % 16 < 16 := by omega
  have gb : 0 ≤ a1 % 16 ∧ a1 % 16 < 16 := by omega
  have gi : 0 ≤ a2 % 4 ∧ a2 % 4 < 4 := by omega
  have gj : 0 ≤ a4 % 4 ∧ a4 % 4 < 4 := by omega
  have gk : 1 ≤ 1 + a3 % 3 ∧ 1 + a3 % 3 ≤ 3 := by omega
  have gl : 1 ≤ 1 + a5 % 3 ∧ 1 + a5 % 3 ≤ 3 := by omega
  obtain ⟨X, hX⟩ := six_is (8 * (a0 % 16 + 1) + 1) (8 * (a0 % 16 + 1) + 2) (8 * (a0 % 16 + 1) + 3) (8 * (16 * (a2 % 4) + (1 + a3 % 3) + 1) + 4)
  obtain ⟨Y, hY⟩ := six_is (8 * (a1 % 16 + 1) + 1) (8 * (a1 % 16 + 1) + 2) (8 * (a1 % 16 + 1) + 3) (8 * (16 * (a4 % 4) + (1 + a5 % 3) + 1) + 4)
  exact walk a0 a1 a2 a3 a4 a5 _ _ _ _ _ _ _ _ w h0.1 h0.2 h1.1 h1.2 h2.1 h2.2 h3.1 h3.2 h4.1 h4.2 h5.1 h5.2 (first_of _ ga) (joined_of _ ga) (deposited_of _ ga) (open_of _ _ gi gk)
    (first_of _ gb) (joined_of _ gb) (deposited_of _ gb) (open_of _ _ gj gl) told_of X Y hX hY (six_same _ _ _ _ _ _ ga gb gk gl X Y hX hY) trivial trivial trivial trivial trivial
end Go.Proofs.Yteiocdbkilfnkaa.Apart
