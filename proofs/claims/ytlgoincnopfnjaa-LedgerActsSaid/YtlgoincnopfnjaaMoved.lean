/- The ref's moved: the printed walk (PLedgerActsx3), one name in it mended by hand. -/
import Derived.Test.YtlgoincnopfnjaaPLedgerActsx0
import Derived.Test.YtlgoincnopfnjaaPLedgerActsx2
namespace Go.Proofs.Ytlgoincnopfnjaa.PLedgerActs
open Go.RowKit Go.Proofs.YtlgoincnopfnjaaW.PrintWords Go.Proofs.YtlgoincnopfnjaaW.PrintLast Go.Proofs.YtlgoincnopfnjaaW.PrintMore
attribute [local go_sem] max2_int min2_int max_two min_two max_three min_three max_four min_four   -- for this text's walks alone
set_option linter.unusedVariables false
set_option linter.unusedSimpArgs false

/-! ### millstreamref20_moved: function 32 -/
def millstreamref20_moved.f (k : Nat) (l0_0 : List Int) (l0_1 : List (List Int)) (a1 : Int) (a2 : Int) (a3 : Int) : Option (List Int × (List (List Int))) := (millstreamref20_copied.f k l0_0 l0_1).bind fun bt186 => (if 0 ≤ a2 then (if a2 < (bt186.1.length : Int) then (if 0 ≤ a1 then (if a1 < (bt186.2.length : Int) then (if a2 < ((rd_L1 bt186.2 a1).length : Int) then (some ((bt186.1.set (a2 : Int).toNat (wrap64 ((rd bt186.1 a2) - a3))), (bt186.2.set (a1 : Int).toNat ((rd_L1 bt186.2 a1).set (a2 : Int).toNat (wrap64 ((rd (rd_L1 bt186.2 a1) a2) + a3)))))) else (none)) else (none)) else (none)) else (none)) else (none))
theorem millstreamref20_moved.mono : ∀ a0 a1 a2 a3 a4 k, LeO (millstreamref20_moved.f k a0 a1 a2 a3 a4) (millstreamref20_moved.f (k + 1) a0 a1 a2 a3 a4) := by
  intro a0 a1 a2 a3 a4 k
  unfold millstreamref20_moved.f
  repeat' first
      | (with_reducible exact millstreamref20_copied.mono _ _ _)
      | (with_reducible exact LeO.refl _)
      | (with_reducible exact LeO.none _)
      | (with_reducible refine LeO.ite ?_ ?_)
      | (with_reducible refine LeO.bind ?_ (fun _ => ?_))
      | exact millstreamref20_copied.mono _ _ _
      | exact LeO.none _
      | refine LeO.ite ?_ ?_
      | refine LeO.bind ?_ (fun _ => ?_)
def millstreamref20_moved.T2 : Bool × List (List Nat × List Nat) := (true, [([], []), ([0], [0]), ([], []), ([], []), ([3], [3]), ([], []), ([4, 5], [4, 5]), ([6], [6]), ([], []), ([7, 8], [7, 8]), ([1, 2, 0, 1, 2, 3, 4, 5, 6, 7, 8, 9], [1, 2]), ([10, 9, 0, 1, 2, 3, 4, 5, 6, 7, 8, 9], [9, 10])])
def millstreamref20_moved.B2 : List Nat := [0, 1, 0, 0, 8, 0, 56, 120, 0, 504, 1023, 2047]
theorem millstreamref20_moved.tab2 : rtab .any (opsOf Try.f32 2) = millstreamref20_moved.T2 := by kernel_rfl
theorem millstreamref20_moved.bits2 : waitsOk millstreamref20_moved.T2.2 millstreamref20_moved.B2 = true := by kernel_rfl
def millstreamref20_moved.T3 : Bool × List (List Nat × List Nat) := (true, [([], []), ([0], [0]), ([], []), ([1, 2], [1, 2]), ([3], [3]), ([], []), ([], []), ([6], [6]), ([], []), ([7, 8], [7, 8]), ([9], [9]), ([], []), ([10, 11], [10, 11]), ([12], [12]), ([], []), ([13, 14], [13, 14]), ([4, 5, 0, 1, 2, 3, 4, 5, 6, 7, 8, 9, 10, 11, 12, 13, 14, 15], [4, 5]), ([16, 15, 0, 1, 2, 3, 4, 5, 6, 7, 8, 9, 10, 11, 12, 13, 14, 15], [15, 16])])
def millstreamref20_moved.B3 : List Nat := [0, 1, 0, 7, 15, 0, 0, 64, 0, 448, 960, 0, 4032, 8128, 0, 32704, 65535, 131071]
theorem millstreamref20_moved.tab3 : rtab .any (opsOf Try.f32 3) = millstreamref20_moved.T3 := by kernel_rfl
theorem millstreamref20_moved.bits3 : waitsOk millstreamref20_moved.T3.2 millstreamref20_moved.B3 = true := by kernel_rfl
set_option maxHeartbeats 8000000 in
set_option maxRecDepth 100000 in
theorem millstreamref20_moved.calls (k : Nat) (A0_0 : Option Addr) (c0_0 : Nat) (l0_0 : List Int) (A0_1 : Option Addr) (c0_1 : Nat) (l0_1 : List (List Int)) (a1 : Int) (a2 : Int) (a3 : Int) (r1 : List Int) (r2 : List (List Int)) (w : World) (hr0_0 : Kd.C (Kd.int .i64) w A0_0 l0_0.length l0_0) (hc0_0 : l0_0.length ≤ c0_0) (hr0_1 : Kd.C (Kd.slice 3 (Kd.int .i64)) w A0_1 l0_1.length l0_1) (hc0_1 : l0_1.length ≤ c0_1) (h : millstreamref20_moved.f k l0_0 l0_1 a1 a2 a3 = some (r1, r2)) :
    Calls Try.prog 32 #[.agg #[.slice A0_0 l0_0.length c0_0, .slice A0_1 l0_1.length c0_1], .int .i64 a1, .int .i64 a2, .int .i64 a3] w fun e w' => ∃ v0_ v1_ : Value, e = .returned (.agg #[v0_, v1_]) ∧ Kd.R (Kd.int .i64) 3 w' w.heap.size (fun _ => True) v0_ r1 ∧ Kd.S (Kd.slice 3 (Kd.int .i64)) 22 w' w.heap.size (fun k_ => some k_ ≠ (v0_ : Value).ownBlock) v1_ r2 ∧ Below w.heap.size w w' := by
  have hu30 := Try.underlying30
  have HR0_0 := Aside0.mk hr0_0
  have HC0_0 := Aside0.mk hc0_0
  clear hr0_0 hc0_0
  have HR0_1 := Aside0.mk hr0_1
  have HC0_1 := Aside0.mk hc0_1
  clear hr0_1 hc0_1
  have HB := Aside0.mk (Below.refl w.heap.size w)
  have H : ((millstreamref20_copied.f k l0_0 l0_1).bind fun bt186 => (if 0 ≤ a2 then (if a2 < (bt186.1.length : Int) then (if 0 ≤ a1 then (if a1 < (bt186.2.length : Int) then (if a2 < ((rd_L1 bt186.2 a1).length : Int) then (some ((bt186.1.set (a2 : Int).toNat (wrap64 ((rd bt186.1 a2) - a3))), (bt186.2.set (a1 : Int).toNat ((rd_L1 bt186.2 a1).set (a2 : Int).toNat (wrap64 ((rd (rd_L1 bt186.2 a1) a2) + a3)))))) else (none)) else (none)) else (none)) else (none)) else (none))) = some (r1, r2) := h
  clear h
  replace H := Option.bind_eq_some_iff.mp H
  obtain ⟨⟨t186, t189⟩, A50, H⟩ := H
  replace H : (if 0 ≤ a2 then (if a2 < (t186.length : Int) then (if 0 ≤ a1 then (if a1 < (t189.length : Int) then (if a2 < ((rd_L1 t189 a1).length : Int) then (some ((t186.set (a2 : Int).toNat (wrap64 ((rd t186 a2) - a3))), (t189.set (a1 : Int).toNat ((rd_L1 t189 a1).set (a2 : Int).toNat (wrap64 ((rd (rd_L1 t189 a1) a2) + a3)))))) else (none)) else (none)) else (none)) else (none)) else (none)) = some (r1, r2) := H
  have A5 := Aside0.mk A50
  clear A50
  by_cases c6 : 0 ≤ a2
  · rw [if_pos c6] at H
    have c6b0 : decide (0 ≤ a2) = true := decide_eq_true c6
    clear c6
    by_cases c7 : a2 < (t186.length : Int)
    · rw [if_pos c7] at H
      have c7b0 : decide (a2 < (t186.length : Int)) = true := decide_eq_true c7
      clear c7
      obtain ⟨y194, hy194⟩ : ∃ y_ : List Int, y_ = (t186.set (a2 : Int).toNat (wrap64 ((rd t186 a2) - a3))) := ⟨_, rfl⟩
      replace H : (if 0 ≤ a1 then (if a1 < (t189.length : Int) then (if a2 < ((rd_L1 t189 a1).length : Int) then (some (y194, (t189.set (a1 : Int).toNat ((rd_L1 t189 a1).set (a2 : Int).toNat (wrap64 ((rd (rd_L1 t189 a1) a2) + a3)))))) else (none)) else (none)) else (none)) = some (r1, r2) := by first | (rw [hy194]; with_reducible exact H) | (have H2_ := (Option.bind_some _ _).symm.trans H; rw [hy194]; with_reducible exact H2_) | (have H2_ := (Option.bind_some _ _).symm.trans H; with_reducible exact H2_) | with_reducible exact H | (rw [hy194]; exact H) | exact H
      have Ny194 := Aside0.mk hy194
      clear hy194
      by_cases c9 : 0 ≤ a1
      · rw [if_pos c9] at H
        have c9b0 : decide (0 ≤ a1) = true := decide_eq_true c9
        clear c9
        by_cases c10 : a1 < (t189.length : Int)
        · rw [if_pos c10] at H
          have c10b0 : decide (a1 < (t189.length : Int)) = true := decide_eq_true c10
          clear c10
          by_cases c11 : a2 < ((rd_L1 t189 a1).length : Int)
          · rw [if_pos c11] at H
            have c11b0 : decide (a2 < ((rd_L1 t189 a1).length : Int)) = true := decide_eq_true c11
            clear c11
            obtain ⟨y198, hy198⟩ : ∃ y_ : List Int, y_ = ((rd_L1 t189 a1).set (a2 : Int).toNat (wrap64 ((rd (rd_L1 t189 a1) a2) + a3))) := ⟨_, rfl⟩
            replace H : (some (y194, (t189.set (a1 : Int).toNat y198))) = some (r1, r2) := by first | (rw [hy198]; with_reducible exact H) | (have H2_ := (Option.bind_some _ _).symm.trans H; rw [hy198]; with_reducible exact H2_) | (have H2_ := (Option.bind_some _ _).symm.trans H; with_reducible exact H2_) | with_reducible exact H | (rw [hy198]; exact H) | exact H
            have Ny198 := Aside0.mk hy198
            clear hy198
            obtain ⟨y200, hy200⟩ : ∃ y_ : List (List Int), y_ = (t189.set (a1 : Int).toNat y198) := ⟨_, rfl⟩
            replace H : (some (y194, y200)) = some (r1, r2) := by first | (rw [hy200]; with_reducible exact H) | (have H2_ := (Option.bind_some _ _).symm.trans H; rw [hy200]; with_reducible exact H2_) | (have H2_ := (Option.bind_some _ _).symm.trans H; with_reducible exact H2_) | with_reducible exact H | (rw [hy200]; exact H) | exact H
            have Ny200 := Aside0.mk hy200
            clear hy200
            simp only [Option.some.injEq, Prod.mk.injEq] at H
            obtain ⟨rfl, rfl⟩ := H
            go_enter Try.func32, Try.ntmps32
            try go_wp2_with (first | ((with_reducible refine gate_dst (N := 4) rfl ?_); refine box_event ?hg (N := 4) ?hd (cs := #[.slice A0_0 l0_0.length c0_0, .slice A0_1 l0_1.length c0_1]) (t := 30) ?hr ?_; (case hd => rfl); (case hg => rfl); (case hr => first | (go_simp; done) | (go_simp; rfl)); intro gb184 hg w13 hbox hb; have n0_ := Aside0.mk (below_step (by repeat (first | (with_reducible first | exact HB.out | apply below_alloc | apply pw_below_drewN | apply below_drew1) | exact HB.out)) hb); have n1_ := Aside0.mk (hbox); have n2_ := Aside0.mk ((by rw [hg]; exact (below_size (by repeat (first | (with_reducible first | exact HB.out | apply below_alloc | apply pw_below_drewN | apply below_drew1) | exact HB.out))) : w.heap.size ≤ gb184)); have n3_ := Aside0.mk ((by rw [hg]; exact (below_size (by repeat (first | (with_reducible first | exact HB.out | apply below_alloc | apply pw_below_drewN | apply below_drew1) | exact HB.out))) : w.heap.size ≤ gb184)); clear HB; have HB := n0_; have BK184 := n1_; have GW184 := n2_; have GE184 := n3_; clear n0_ n1_ n2_ n3_; clear hb hbox hg) | ((with_reducible refine gate_dst (N := 8) rfl ?_); refine box_event ?hg (N := 8) ?hd (cs := #[.slice none 0 0, .slice none 0 0]) (t := 30) ?hr ?_; (case hd => rfl); (case hg => rfl); (case hr => first | (go_simp; done) | (go_simp; rfl)); intro gb185 hg w14 hbox hb; have n0_ := Aside0.mk (blk_below (g := gb184) (o := .cells #[.slice A0_0 l0_0.length c0_0, .slice A0_1 l0_1.length c0_1] 30 (0, 0)) (by (with_reducible repeat (first | refine blk_drewN ?_ _ | refine blk_drew ?_ | refine blk_alloc ?_ _)); exact BK184.out) hb); have n1_ := Aside0.mk (below_step (by repeat (first | (with_reducible first | exact HB.out | apply below_alloc | apply pw_below_drewN | apply below_drew1 | refine below_set ?_ GE184.out) | exact HB.out)) hb); have n2_ := Aside0.mk (hbox); have n3_ := Aside0.mk ((by rw [hg]; exact (below_size (by repeat (first | (with_reducible first | exact HB.out | apply below_alloc | apply pw_below_drewN | apply below_drew1 | refine below_set ?_ GE184.out) | exact HB.out))) : w.heap.size ≤ gb185)); have n4_ := Aside0.mk ((by rw [hg]; exact (below_size (by repeat (first | (with_reducible first | exact HB.out | apply below_alloc | apply pw_below_drewN | apply below_drew1 | refine below_set ?_ GE184.out) | exact HB.out))) : w.heap.size ≤ gb185)); have n5_ := Aside0.mk ((by rw [hg]; exact Nat.ne_of_lt (blk_lt (g := gb184) (o := .cells #[.slice A0_0 l0_0.length c0_0, .slice A0_1 l0_1.length c0_1] 30 (0, 0)) (by (with_reducible repeat (first | refine blk_drewN ?_ _ | refine blk_drew ?_ | refine blk_alloc ?_ _)); exact BK184.out)) : gb184 ≠ gb185)); have n6_ := Aside0.mk ((by rw [hg]; exact Nat.ne_of_gt (blk_lt (g := gb184) (o := .cells #[.slice A0_0 l0_0.length c0_0, .slice A0_1 l0_1.length c0_1] 30 (0, 0)) (by (with_reducible repeat (first | refine blk_drewN ?_ _ | refine blk_drew ?_ | refine blk_alloc ?_ _)); exact BK184.out)) : gb185 ≠ gb184)); clear BK184; clear HB; have BK184 := n0_; have HB := n1_; have BK185 := n2_; have GW185 := n3_; have GE185 := n4_; have NB184_185 := n5_; have NB185_184 := n6_; clear n0_ n1_ n2_ n3_ n4_ n5_ n6_; clear hb hbox hg; have hnb15 := NB184_185.out; have hnc15 := NB185_184.out; have hcz16_0 : w14.cell? ⟨gb184, 0, none⟩ = some (.slice A0_0 l0_0.length c0_0) := (blk_cell BK184.out 0).trans rfl; have hcz16_1 : w14.cell? ⟨gb184, 1, none⟩ = some (.slice A0_1 l0_1.length c0_1) := (blk_cell BK184.out 1).trans rfl; have hfz16_0 := blk_frozen BK184.out 0; have hfz16_1 := blk_frozen BK184.out 1) | ((with_reducible refine gate_callee (f := 36) rfl ?_); refine goesL_ (some 11) rfl rfl Try.func36 (by kernel_rfl) rfl #[.agg #[.slice A0_0 l0_0.length c0_0, .slice A0_1 l0_1.length c0_1]] rfl (by (try simp only [List.map_toArray, List.map_cons, List.map_nil]); first | done | rfl | (simp only [List.length_drop, List.length_take]; rfl)) ?_; (with_reducible refine (millstreamref20_copied.calls k _ _ l0_0 _ _ l0_1 t186 t189 _ ?side1 ?side2 ?side3 ?side4 A5.out).mono ?_); (case side1 => repeat (first | exact (Kd.C_below HR0_0.out HB.out) | (with_reducible refine Kd.C_alloc ?_ _) | (with_reducible refine Kd.C_drewN ?_ _) | (with_reducible refine Kd.C_drew ?_))); (case side2 => exact HC0_0.out); (case side3 => repeat (first | exact (Kd.C_below HR0_1.out HB.out) | (with_reducible refine Kd.C_alloc ?_ _) | (with_reducible refine Kd.C_drewN ?_ _) | (with_reducible refine Kd.C_drew ?_))); (case side4 => exact HC0_1.out); rintro e w17 ⟨v187, v190, rfl, ho0, ho1, hb⟩; refine ⟨_, rfl, ?_⟩; have n0_ := Aside0.mk (Kd.R_lower ho0 (below_size (by repeat (first | (with_reducible first | exact HB.out | apply below_alloc | apply pw_below_drewN | apply below_drew1 | refine below_set ?_ GE184.out | refine below_set ?_ GE185.out) | exact HB.out)))); have n1_ := Aside0.mk (Kd.S_lower ho1 (below_size (by repeat (first | (with_reducible first | exact HB.out | apply below_alloc | apply pw_below_drewN | apply below_drew1 | refine below_set ?_ GE184.out | refine below_set ?_ GE185.out) | exact HB.out)))); have n2_ := Aside0.mk (blk_below (g := gb184) (o := .cells #[.slice A0_0 l0_0.length c0_0, .slice A0_1 l0_1.length c0_1] 30 (0, 0)) (by (with_reducible repeat (first | refine blk_drewN ?_ _ | refine blk_drew ?_ | refine blk_alloc ?_ _)); exact BK184.out) hb); have n3_ := Aside0.mk (blk_below (g := gb185) (o := .cells #[.slice none 0 0, .slice none 0 0] 30 (0, 0)) (by (with_reducible repeat (first | refine blk_drewN ?_ _ | refine blk_drew ?_ | refine blk_alloc ?_ _)); exact BK185.out) hb); have n4_ := Aside0.mk (below_step (by repeat (first | (with_reducible first | exact HB.out | apply below_alloc | apply pw_below_drewN | apply below_drew1 | refine below_set ?_ GE184.out | refine below_set ?_ GE185.out) | exact HB.out)) hb); clear BK184; clear BK185; clear HB; have HO188 := n0_; have HO191 := n1_; have BK184 := n2_; have BK185 := n3_; have HB := n4_; clear n0_ n1_ n2_ n3_ n4_; (try clear hb); (try clear hb2); (try clear hk); (try clear hi); (try clear ho0); (try clear ho1)) | ((with_reducible refine gate_dst (N := 9) rfl ?_); refine box_event ?hg (N := 9) ?hd (cs := #[.slice none 0 0, .slice none 0 0]) (t := 30) ?hr ?_; (case hd => rfl); (case hg => rfl); (case hr => first | (go_simp; done) | (go_simp; rfl)); intro gb192 hg w18 hbox hb; have n0_ := Aside0.mk (Kd.R_below (by (with_reducible repeat (first | apply Kd.R_alloc | apply Kd.R_drewN | apply Kd.R_drew)); exact HO188.out) hb); have n1_ := Aside0.mk (Kd.S_below (by (with_reducible repeat (first | apply Kd.S_alloc | apply Kd.S_drewN | apply Kd.S_drew)); exact HO191.out) hb); have n2_ := Aside0.mk (blk_below (g := gb184) (o := .cells #[.slice A0_0 l0_0.length c0_0, .slice A0_1 l0_1.length c0_1] 30 (0, 0)) (by (with_reducible repeat (first | refine blk_drewN ?_ _ | refine blk_drew ?_ | refine blk_alloc ?_ _)); exact BK184.out) hb); have n3_ := Aside0.mk (blk_below (g := gb185) (o := .cells #[.slice none 0 0, .slice none 0 0] 30 (0, 0)) (by (with_reducible repeat (first | refine blk_drewN ?_ _ | refine blk_drew ?_ | refine blk_alloc ?_ _)); exact BK185.out) hb); have n4_ := Aside0.mk (below_step (by repeat (first | (with_reducible first | exact HB.out | apply below_alloc | apply pw_below_drewN | apply below_drew1 | refine below_set ?_ GE184.out | refine below_set ?_ GE185.out) | exact HB.out)) hb); have n5_ := Aside0.mk (hbox); have n6_ := Aside0.mk ((by rw [hg]; exact (below_size (by repeat (first | (with_reducible first | exact HB.out | apply below_alloc | apply pw_below_drewN | apply below_drew1 | refine below_set ?_ GE184.out | refine below_set ?_ GE185.out) | exact HB.out))) : w.heap.size ≤ gb192)); have n7_ := Aside0.mk ((by rw [hg]; exact (below_size (by repeat (first | (with_reducible first | exact HB.out | apply below_alloc | apply pw_below_drewN | apply below_drew1 | refine below_set ?_ GE184.out | refine below_set ?_ GE185.out) | exact HB.out))) : w.heap.size ≤ gb192)); have n8_ := Aside0.mk ((by rw [hg]; exact Nat.ne_of_lt (blk_lt (g := gb184) (o := .cells #[.slice A0_0 l0_0.length c0_0, .slice A0_1 l0_1.length c0_1] 30 (0, 0)) (by (with_reducible repeat (first | refine blk_drewN ?_ _ | refine blk_drew ?_ | refine blk_alloc ?_ _)); exact BK184.out)) : gb184 ≠ gb192)); have n9_ := Aside0.mk ((by rw [hg]; exact Nat.ne_of_gt (blk_lt (g := gb184) (o := .cells #[.slice A0_0 l0_0.length c0_0, .slice A0_1 l0_1.length c0_1] 30 (0, 0)) (by (with_reducible repeat (first | refine blk_drewN ?_ _ | refine blk_drew ?_ | refine blk_alloc ?_ _)); exact BK184.out)) : gb192 ≠ gb184)); have n10_ := Aside0.mk ((by rw [hg]; exact Nat.ne_of_lt (blk_lt (g := gb185) (o := .cells #[.slice none 0 0, .slice none 0 0] 30 (0, 0)) (by (with_reducible repeat (first | refine blk_drewN ?_ _ | refine blk_drew ?_ | refine blk_alloc ?_ _)); exact BK185.out)) : gb185 ≠ gb192)); have n11_ := Aside0.mk ((by rw [hg]; exact Nat.ne_of_gt (blk_lt (g := gb185) (o := .cells #[.slice none 0 0, .slice none 0 0] 30 (0, 0)) (by (with_reducible repeat (first | refine blk_drewN ?_ _ | refine blk_drew ?_ | refine blk_alloc ?_ _)); exact BK185.out)) : gb192 ≠ gb185)); clear HO188; clear HO191; clear BK184; clear BK185; clear HB; have HO188 := n0_; have HO191 := n1_; have BK184 := n2_; have BK185 := n3_; have HB := n4_; have BK192 := n5_; have GW192 := n6_; have GE192 := n7_; have NB184_192 := n8_; have NB192_184 := n9_; have NB185_192 := n10_; have NB192_185 := n11_; clear n0_ n1_ n2_ n3_ n4_ n5_ n6_ n7_ n8_ n9_ n10_ n11_; clear hb hbox hg; obtain ⟨Ao19, co19, eo19⟩ := Kd.R_slice HO188.out; subst eo19; have hnb20 := NB192_184.out; have hnc20 := NB184_192.out; have hnb21 := NB192_185.out; have hnc21 := NB185_192.out; have hcz22_0 : w18.cell? ⟨gb192, 0, none⟩ = some (.slice none 0 0) := (blk_cell BK192.out 0).trans rfl; have hcz22_1 : w18.cell? ⟨gb192, 1, none⟩ = some (.slice none 0 0) := (blk_cell BK192.out 1).trans rfl; have hfz22_0 := blk_frozen BK192.out 0; have hfz22_1 := blk_frozen BK192.out 1; obtain ⟨Ao23, co23, eo23⟩ := Kd.S_slice HO191.out; subst eo23))
            have n0_ : Aside0 (Kd.R (Kd.int .i64) 3 ((w18.setCell ⟨gb192, 0, none⟩ (.slice Ao19 t186.length co19)).setCell ⟨gb192, 1, none⟩ (.slice Ao23 t189.length co23)) w.heap.size (fun _ => True) (.slice Ao19 t186.length co19) t186) := ⟨by (with_reducible repeat (first | apply Kd.R_alloc | apply Kd.R_drewN | apply Kd.R_drew)); exact Kd.R_mono (Kd.R_far (p := ⟨gb192, 1, none⟩) (Kd.R_far (p := ⟨gb192, 0, none⟩) (Kd.R_types HO188.out BK192.out (by decide)) (fun _ hk => hk.2) (.slice Ao19 t186.length co19)) (fun _ hk => hk.2) (.slice Ao23 t189.length co23)) (fun _ hk => trivial)⟩
            have n1_ : Aside0 (Kd.S (Kd.slice 3 (Kd.int .i64)) 22 ((w18.setCell ⟨gb192, 0, none⟩ (.slice Ao19 t186.length co19)).setCell ⟨gb192, 1, none⟩ (.slice Ao23 t189.length co23)) w.heap.size (fun k_ => some k_ ≠ (.slice Ao19 t186.length co19 : Value).ownBlock) (.slice Ao23 t189.length co23) t189) := ⟨by (with_reducible repeat (first | apply Kd.S_alloc | apply Kd.S_drewN | apply Kd.S_drew)); exact Kd.S_mono (Kd.S_far (p := ⟨gb192, 1, none⟩) (Kd.S_far (p := ⟨gb192, 0, none⟩) (Kd.S_types HO191.out BK192.out (by decide)) (fun _ hk => hk.2) (.slice Ao19 t186.length co19)) (fun _ hk => hk.2) (.slice Ao23 t189.length co23)) (fun _ hk => hk.1)⟩
            have n2_ : Aside0 (((w18.setCell ⟨gb192, 0, none⟩ (.slice Ao19 t186.length co19)).setCell ⟨gb192, 1, none⟩ (.slice Ao23 t189.length co23)).heap[gb184]? = some (.cells #[.slice A0_0 l0_0.length c0_0, .slice A0_1 l0_1.length c0_1] 30 (0, 0))) := ⟨by (with_reducible repeat (first | refine blk_drewN ?_ _ | refine blk_drew ?_ | refine blk_alloc ?_ _)); refine blk_far ?_ NB184_192.out _; (with_reducible repeat (first | refine blk_drewN ?_ _ | refine blk_drew ?_ | refine blk_alloc ?_ _)); refine blk_far ?_ NB184_192.out _; (with_reducible repeat (first | refine blk_drewN ?_ _ | refine blk_drew ?_ | refine blk_alloc ?_ _)); exact BK184.out⟩
            have n3_ : Aside0 (((w18.setCell ⟨gb192, 0, none⟩ (.slice Ao19 t186.length co19)).setCell ⟨gb192, 1, none⟩ (.slice Ao23 t189.length co23)).heap[gb185]? = some (.cells #[.slice none 0 0, .slice none 0 0] 30 (0, 0))) := ⟨by (with_reducible repeat (first | refine blk_drewN ?_ _ | refine blk_drew ?_ | refine blk_alloc ?_ _)); refine blk_far ?_ NB185_192.out _; (with_reducible repeat (first | refine blk_drewN ?_ _ | refine blk_drew ?_ | refine blk_alloc ?_ _)); refine blk_far ?_ NB185_192.out _; (with_reducible repeat (first | refine blk_drewN ?_ _ | refine blk_drew ?_ | refine blk_alloc ?_ _)); exact BK185.out⟩
            have n4_ : Aside0 (((w18.setCell ⟨gb192, 0, none⟩ (.slice Ao19 t186.length co19)).setCell ⟨gb192, 1, none⟩ (.slice Ao23 t189.length co23)).heap[gb192]? = some (.cells #[.slice Ao19 t186.length co19, .slice Ao23 t189.length co23] 30 (0, 0))) := ⟨by (with_reducible repeat (first | refine blk_drewN ?_ _ | refine blk_drew ?_ | refine blk_alloc ?_ _)); refine blk_put (cs := #[.slice Ao19 t186.length co19, .slice none 0 0]) ?_ 1 _ rfl; (with_reducible repeat (first | refine blk_drewN ?_ _ | refine blk_drew ?_ | refine blk_alloc ?_ _)); refine blk_put (cs := #[.slice none 0 0, .slice none 0 0]) ?_ 0 _ rfl; (with_reducible repeat (first | refine blk_drewN ?_ _ | refine blk_drew ?_ | refine blk_alloc ?_ _)); exact BK192.out⟩
            have n5_ : Aside0 (Below w.heap.size w ((w18.setCell ⟨gb192, 0, none⟩ (.slice Ao19 t186.length co19)).setCell ⟨gb192, 1, none⟩ (.slice Ao23 t189.length co23))) := ⟨by repeat (first | (with_reducible first | exact HB.out | apply below_alloc | apply pw_below_drewN | apply below_drew1 | refine below_set ?_ GE184.out | refine below_set ?_ GE185.out | refine below_set ?_ GE192.out) | exact HB.out)⟩
            (try clear HO188)
            (try clear HO191)
            (try clear BK184)
            (try clear BK185)
            (try clear BK192)
            (try clear HB)
            generalize ((w18.setCell ⟨gb192, 0, none⟩ (.slice Ao19 t186.length co19)).setCell ⟨gb192, 1, none⟩ (.slice Ao23 t189.length co23)) = w24 at n0_ n1_ n2_ n3_ n4_ n5_ ⊢
            have HO188 := n0_
            have HO191 := n1_
            have BK184 := n2_
            have BK185 := n3_
            have BK192 := n4_
            have HB := n5_
            clear n0_ n1_ n2_ n3_ n4_ n5_
            have n0_ := Aside0.mk (Kd.R_drew HO188.out)
            have n1_ := Aside0.mk (Kd.S_drew HO191.out)
            have n2_ := Aside0.mk (blk_drew BK184.out)
            have n3_ := Aside0.mk (blk_drew BK185.out)
            have n4_ := Aside0.mk (blk_drew BK192.out)
            have n5_ := Aside0.mk (below_drew1 HB.out)
            clear HO188
            clear HO191
            clear BK184
            clear BK185
            clear BK192
            clear HB
            have HO188 := n0_
            have HO191 := n1_
            have BK184 := n2_
            have BK185 := n3_
            have BK192 := n4_
            have HB := n5_
            clear n0_ n1_ n2_ n3_ n4_ n5_
            have p193 : 0 ≤ (a2 : Int) := of_decide_eq_true (by first | (with_reducible assumption) | assumption)
            have q193 : a2 < (t186.length : Int) := of_decide_eq_true (by first | (with_reducible assumption) | assumption)
            obtain ⟨ad193, e193, hx193_0⟩ := Kd.at_int (Kd.R_reads' HO188.out).2.2 a2 p193 q193
            cases e193
            replace p193 := eq_true p193
            replace q193 := eq_true q193
            have p8 : 0 ≤ (a2 : Int) := of_decide_eq_true (by first | (with_reducible assumption) | assumption)
            have q8 : (a2 : Int) < ((t186.length : Int) : Int) := of_decide_eq_true (by first | (with_reducible assumption) | assumption)
            obtain ⟨go8, co8, eo8, gb8, gl8, cl8, HG8⟩ := Kd.R_form HO188.out (by omega)
            (first | cases eo8 | (injection eo8 with ea_ en_ ec_; (first | subst ea_ | (injection ea_ with ea_; subst ea_)); subst ec_; clear en_))
            have GB8 := Aside0.mk gb8
            have GG8 := Aside0.mk HG8
            clear gb8 gl8 HG8
            (first | simp only [add_plain] at hx193_0 | skip)
            obtain ⟨hx8_0, hf8_0⟩ := Kd.R_celln 0 HO188.out (a2 : Int) p8 q8
            replace p8 := eq_true p8
            replace q8 := eq_true q8
            have HP26 := Kd.R_putn HO188.out (a2 : Int) (wrap64 ((rd t186 a2) - a3))
            rw [← Ny194.out] at HP26
            have HQ26 := Aside0.mk HP26
            clear HP26
            refine start_ (n := 12) (S := fun w' => w'.cell? ⟨gb192, 0, none⟩ = some (.slice (some ⟨go8, 0, none⟩) t186.length co19) ∧ w'.cell? ⟨gb192, 1, none⟩ = some (.slice Ao23 t189.length co23) ∧ w'.cell? ⟨go8, (a2).toNat, none⟩ = some (.int .i64 (rd t186 a2))) (ds := [11]) #[false, false, false, false, false, false, false, false, false, false, false, false] (by kernel_rfl) rfl rfl ⟨(blk_cell BK192.out 0).trans rfl, (blk_cell BK192.out 1).trans rfl, hx193_0⟩ (fun hHeld => ?_); refine with_tabW millstreamref20_moved.tab2 millstreamref20_moved.bits2 (fun HT_ HW_ => ?_)
            generalize w24.drew = w25 at HO188 HO191 BK184 BK185 BK192 HB GG8 HQ26 hf8_0 hx193_0 hx8_0 hHeld ⊢
            refine pure_ (i := 0) (N := some 12) (v := ?_) (a' := ?_) #[true, false, false, false, false, false, false, false, false, false, false, false] rfl rfl (any_of HT_.out (by kernel_rfl)) (fun _ _ _ h => h) (Or.inl ⟨by rfl, ?_⟩) ?_ ?_
            rotate_left
            · intro w'
              go_simp
              with_reducible rfl
            rotate_left
            · simp only [Act.put, List.setIfInBounds_toArray, List.set_cons_zero, List.set_cons_succ, i64_w, i32_w]
              rfl
            refine pure_ (i := 2) (N := some 14) (v := ?_) (a' := ?_) #[true, false, true, false, false, false, false, false, false, false, false, false] rfl rfl (any_of HT_.out (by kernel_rfl)) (fun _ _ _ h => h) (Or.inl ⟨by rfl, ?_⟩) ?_ ?_
            rotate_left
            · intro w'
              go_simp
              with_reducible rfl
            rotate_left
            · simp only [Act.put, List.setIfInBounds_toArray, List.set_cons_zero, List.set_cons_succ, i64_w, i32_w]
              rfl
            refine pure_ (i := 3) (N := some 15) (v := ?_) (a' := ?_) #[true, false, true, true, false, false, false, false, false, false, false, false] rfl rfl (any_of HT_.out (by kernel_rfl)) (fun _ _ _ h => h) (Or.inl ⟨by rfl, ?_⟩) ?_ ?_
            rotate_left
            · intro w'
              go_simp
              with_reducible rfl
            rotate_left
            · simp only [Act.put, List.setIfInBounds_toArray, List.set_cons_zero, List.set_cons_succ, i64_w, i32_w]
              rfl
            refine pure_ (i := 5) (N := some 17) (v := ?_) (a' := ?_) #[true, false, true, true, false, true, false, false, false, false, false, false] rfl rfl (any_of HT_.out (by kernel_rfl)) (fun _ _ _ h => h) (Or.inl ⟨by rfl, ?_⟩) ?_ ?_
            rotate_left
            · intro w'
              go_simp
              with_reducible rfl
            rotate_left
            · simp only [Act.put, List.setIfInBounds_toArray, List.set_cons_zero, List.set_cons_succ, i64_w, i32_w]
              rfl
            refine pure_ (i := 8) (N := some 20) (v := ?_) (a' := ?_) #[true, false, true, true, false, true, false, false, true, false, false, false] rfl rfl (any_of HT_.out (by kernel_rfl)) (fun _ _ _ h => h) (Or.inl ⟨by rfl, ?_⟩) ?_ ?_
            rotate_left
            · intro w'
              go_simp
              with_reducible rfl
            rotate_left
            · simp only [Act.put, List.setIfInBounds_toArray, List.set_cons_zero, List.set_cons_succ, i64_w, i32_w]
              rfl
            refine take_ (i := 1) (N := some 13) (v := ?_) (a' := ?_) #[true, true, true, true, false, true, false, false, true, false, false, false] rfl rfl (take_ofW HT_.out HW_.out (by kernel_rfl)) (fun _ _ _ h => h) (Or.inl ⟨by rfl, ?_⟩) hHeld ?_ ?_
            rotate_left
            · rintro w' ⟨s0, s1, s2⟩
              go_simp
              with_reducible rfl
            rotate_left
            · simp only [Act.put, List.setIfInBounds_toArray, List.set_cons_zero, List.set_cons_succ, i64_w, i32_w]
              rfl
            refine take_ (i := 4) (N := some 16) (v := ?_) (a' := ?_) #[true, true, true, true, true, true, false, false, true, false, false, false] rfl rfl (take_ofW HT_.out HW_.out (by kernel_rfl)) (fun _ _ _ h => h) (Or.inl ⟨by rfl, ?_⟩) hHeld ?_ ?_
            rotate_left
            · rintro w' ⟨s0, s1, s2⟩
              go_simp
              with_reducible rfl
            rotate_left
            · simp only [Act.put, List.setIfInBounds_toArray, List.set_cons_zero, List.set_cons_succ, i64_w, i32_w]
              rfl
            refine pure_ (i := 6) (N := some 18) (v := ?_) (a' := ?_) #[true, true, true, true, true, true, true, false, true, false, false, false] rfl rfl (any_of HT_.out (by kernel_rfl)) (fun _ _ _ h => h) (Or.inl ⟨by rfl, ?_⟩) ?_ ?_
            rotate_left
            · intro w'
              go_simp
              with_reducible rfl
            rotate_left
            · simp only [Act.put, List.setIfInBounds_toArray, List.set_cons_zero, List.set_cons_succ, i64_w, i32_w]
              rfl
            refine take_ (i := 7) (N := some 19) (v := ?_) (a' := ?_) #[true, true, true, true, true, true, true, true, true, false, false, false] rfl rfl (take_ofW HT_.out HW_.out (by kernel_rfl)) (fun _ _ _ h => h) (Or.inl ⟨by rfl, ?_⟩) hHeld ?_ ?_
            rotate_left
            · rintro w' ⟨s0, s1, s2⟩
              go_simp
              with_reducible rfl
            rotate_left
            · simp only [Act.put, List.setIfInBounds_toArray, List.set_cons_zero, List.set_cons_succ, i64_w, i32_w]
              rfl
            refine pure_ (i := 9) (N := some 21) (v := ?_) (a' := ?_) #[true, true, true, true, true, true, true, true, true, true, false, false] rfl rfl (any_of HT_.out (by kernel_rfl)) (fun _ _ _ h => h) (Or.inl ⟨by rfl, ?_⟩) ?_ ?_
            rotate_left
            · intro w'
              go_simp
              with_reducible rfl
            rotate_left
            · simp only [Act.put, List.setIfInBounds_toArray, List.set_cons_zero, List.set_cons_succ, i64_w, i32_w]
              rfl
            refine pure_ (i := 10) (N := some 22) (v := ?_) (a' := ?_) #[true, true, true, true, true, true, true, true, true, true, true, false] rfl rfl (any_of HT_.out (by kernel_rfl)) (fun _ _ _ h => h) (Or.inl ⟨by rfl, ?_⟩) ?_ ?_
            rotate_left
            · intro w'
              go_simp
              with_reducible rfl
            rotate_left
            · simp only [Act.put, List.setIfInBounds_toArray, List.set_cons_zero, List.set_cons_succ, i64_w, i32_w]
              rfl
            refine last_ (i := 11) (N := none) #[true, true, true, true, true, true, true, true, true, true, true, true] rfl rfl (one_of HT_.out (by kernel_rfl)) (by decide) (fun K hK => ?_)
            refine skip_ (w1 := ?_) (by rfl) rfl ?_ ?_
            rotate_left
            · go_simp
              rfl
            refine hK.out _ _ ?_
            clear hK K
            refine done_ (done_of HT_.out (by kernel_rfl)) ?_
            have n0_ : Aside0 (Kd.R (Kd.int .i64) 3 (w25.setCell ⟨go8, (a2 : Int).toNat, none⟩ (.int .i64 (wrap64 ((rd t186 a2) - a3)))) w.heap.size (fun _ => True) (.slice (some ⟨go8, 0, none⟩) t186.length co19) y194) := ⟨by (with_reducible repeat (first | apply Kd.R_alloc | apply Kd.R_drewN | apply Kd.R_drew)); exact HQ26.out⟩
            have n1_ : Aside0 (Kd.S (Kd.slice 3 (Kd.int .i64)) 22 (w25.setCell ⟨go8, (a2 : Int).toNat, none⟩ (.int .i64 (wrap64 ((rd t186 a2) - a3)))) w.heap.size (fun k_ => some k_ ≠ (.slice (some ⟨go8, 0, none⟩) t186.length co19 : Value).ownBlock) (.slice Ao23 t189.length co23) t189) := ⟨by (with_reducible repeat (first | apply Kd.S_alloc | apply Kd.S_drewN | apply Kd.S_drew)); exact Kd.S_mono (Kd.S_far (p := ⟨go8, (a2 : Int).toNat, none⟩) (Kd.S_mono HO191.out (fun k_ hk => (⟨hk, fun e_ => hk (by rw [e_]; rfl)⟩ : _ ∧ k_ ≠ go8))) (fun _ hk => hk.2) (.int .i64 (wrap64 ((rd t186 a2) - a3)))) (fun _ hk => hk.1)⟩
            have n2_ : Aside0 ((w25.setCell ⟨go8, (a2 : Int).toNat, none⟩ (.int .i64 (wrap64 ((rd t186 a2) - a3)))).heap[gb184]? = some (.cells #[.slice A0_0 l0_0.length c0_0, .slice A0_1 l0_1.length c0_1] 30 (0, 0))) := ⟨by (with_reducible repeat (first | refine blk_drewN ?_ _ | refine blk_drew ?_ | refine blk_alloc ?_ _)); refine blk_far ?_ (by have h_ := Kd.R_ne HO188.out BK184.out (by decide); intro e_; exact h_ (by rw [e_]; rfl)) _; (with_reducible repeat (first | refine blk_drewN ?_ _ | refine blk_drew ?_ | refine blk_alloc ?_ _)); exact BK184.out⟩
            have n3_ : Aside0 ((w25.setCell ⟨go8, (a2 : Int).toNat, none⟩ (.int .i64 (wrap64 ((rd t186 a2) - a3)))).heap[gb185]? = some (.cells #[.slice none 0 0, .slice none 0 0] 30 (0, 0))) := ⟨by (with_reducible repeat (first | refine blk_drewN ?_ _ | refine blk_drew ?_ | refine blk_alloc ?_ _)); refine blk_far ?_ (by have h_ := Kd.R_ne HO188.out BK185.out (by decide); intro e_; exact h_ (by rw [e_]; rfl)) _; (with_reducible repeat (first | refine blk_drewN ?_ _ | refine blk_drew ?_ | refine blk_alloc ?_ _)); exact BK185.out⟩
            have n4_ : Aside0 ((w25.setCell ⟨go8, (a2 : Int).toNat, none⟩ (.int .i64 (wrap64 ((rd t186 a2) - a3)))).heap[gb192]? = some (.cells #[.slice (some ⟨go8, 0, none⟩) t186.length co19, .slice Ao23 t189.length co23] 30 (0, 0))) := ⟨by (with_reducible repeat (first | refine blk_drewN ?_ _ | refine blk_drew ?_ | refine blk_alloc ?_ _)); refine blk_far ?_ (by have h_ := Kd.R_ne HO188.out BK192.out (by decide); intro e_; exact h_ (by rw [e_]; rfl)) _; (with_reducible repeat (first | refine blk_drewN ?_ _ | refine blk_drew ?_ | refine blk_alloc ?_ _)); exact BK192.out⟩
            have n5_ : Aside0 (Below w.heap.size w (w25.setCell ⟨go8, (a2 : Int).toNat, none⟩ (.int .i64 (wrap64 ((rd t186 a2) - a3))))) := ⟨by repeat (first | (with_reducible first | exact HB.out | apply below_alloc | apply pw_below_drewN | apply below_drew1 | refine below_set ?_ GB8.out | refine below_set ?_ GE184.out | refine below_set ?_ GE185.out | refine below_set ?_ GE192.out) | exact HB.out)⟩
            (try clear HO188)
            (try clear HO191)
            (try clear BK184)
            (try clear BK185)
            (try clear BK192)
            (try clear HB)
            generalize (w25.setCell ⟨go8, (a2 : Int).toNat, none⟩ (.int .i64 (wrap64 ((rd t186 a2) - a3)))) = w27 at n0_ n1_ n2_ n3_ n4_ n5_ ⊢
            have HO188 := n0_
            have HO191 := n1_
            have BK184 := n2_
            have BK185 := n3_
            have BK192 := n4_
            have HB := n5_
            clear n0_ n1_ n2_ n3_ n4_ n5_
            try go_wp2
            have n0_ := Aside0.mk (Kd.R_drew HO188.out)
            have n1_ := Aside0.mk (Kd.S_drew HO191.out)
            have n2_ := Aside0.mk (blk_drew BK184.out)
            have n3_ := Aside0.mk (blk_drew BK185.out)
            have n4_ := Aside0.mk (blk_drew BK192.out)
            have n5_ := Aside0.mk (below_drew1 HB.out)
            clear HO188
            clear HO191
            clear BK184
            clear BK185
            clear BK192
            clear HB
            have HO188 := n0_
            have HO191 := n1_
            have BK184 := n2_
            have BK185 := n3_
            have BK192 := n4_
            have HB := n5_
            clear n0_ n1_ n2_ n3_ n4_ n5_
            have p195 : 0 ≤ (a1 : Int) := of_decide_eq_true (by first | (with_reducible assumption) | assumption)
            have q195 : a1 < (t189.length : Int) := of_decide_eq_true (by first | (with_reducible assumption) | assumption)
            obtain ⟨ad195, A195_0, c195_0, e195, hx195_0, hl195_0, hi195_0⟩ := at_L1 (Kd.S_reads' HO191.out).2.2 a1 p195 q195
            cases e195
            obtain ⟨ce195, hce195, hMe195, hcc195⟩ := Kd.S_get HO191.out [] a1 p195 (by first | exact q195 | exact of_decide_eq_true (by first | (with_reducible assumption) | assumption) | (have e_ := (Kd.S_reads' HO191.out).1; omega))
            obtain ⟨ve195_0, rfl, ge195_0⟩ := hMe195
            have hv195_0 := hcc195 0 _ rfl
            rw [Nat.add_zero, show ((Kd.slice 3 (Kd.int .i64))).sz = 1 from rfl, Nat.mul_one] at hv195_0
            replace hv195_0 := Option.some.inj (hv195_0.symm.trans hx195_0)
            rw [hv195_0] at ge195_0
            have HL195_0 := Aside0.mk (show Kd.R (Kd.int .i64) 3 _ _ _ _ (rd_L1 t189 a1) from ge195_0)
            clear hv195_0 ge195_0
            have HX195_0 := Aside0.mk hx195_0
            clear hcc195 hce195
            have HR195_0 := Aside0.mk hi195_0
            have HC195_0 := Aside0.mk hl195_0
            clear hi195_0 hl195_0
            replace p195 := eq_true p195
            replace q195 := eq_true q195
            have p196 : 0 ≤ (a1 : Int) := of_decide_eq_true (by first | (with_reducible assumption) | assumption)
            have q196 : a1 < (t189.length : Int) := of_decide_eq_true (by first | (with_reducible assumption) | assumption)
            obtain ⟨ad196, A196_0, c196_0, e196, hx196_0, hl196_0, hi196_0⟩ := at_L1 (Kd.S_reads' HO191.out).2.2 a1 p196 q196
            obtain rfl : ad195 = ad196 := (by injection e196)
            obtain ⟨ce196, hce196, hMe196, hcc196⟩ := Kd.S_get HO191.out [] a1 p196 (by first | exact q196 | exact of_decide_eq_true (by first | (with_reducible assumption) | assumption) | (have e_ := (Kd.S_reads' HO191.out).1; omega))
            obtain ⟨ve196_0, rfl, ge196_0⟩ := hMe196
            have hv196_0 := hcc196 0 _ rfl
            rw [Nat.add_zero, show ((Kd.slice 3 (Kd.int .i64))).sz = 1 from rfl, Nat.mul_one] at hv196_0
            replace hv196_0 := Option.some.inj (hv196_0.symm.trans hx196_0)
            rw [hv196_0] at ge196_0
            have HL196_0 := Aside0.mk (show Kd.R (Kd.int .i64) 3 _ _ _ _ (rd_L1 t189 a1) from ge196_0)
            clear hv196_0 ge196_0
            have HX196_0 := Aside0.mk hx196_0
            clear hcc196 hce196
            have HR196_0 := Aside0.mk hi196_0
            have HC196_0 := Aside0.mk hl196_0
            clear hi196_0 hl196_0
            replace p196 := eq_true p196
            replace q196 := eq_true q196
            have ea_ := Option.some.inj (hx195_0.symm.trans hx196_0)
            injection ea_ with ea_ en_ ec_
            subst ea_
            subst ec_
            clear en_
            have p197 : 0 ≤ (a2 : Int) := of_decide_eq_true (by first | (with_reducible assumption) | assumption)
            have q197 : a2 < ((rd_L1 t189 a1).length : Int) := of_decide_eq_true (by first | (with_reducible assumption) | assumption)
            obtain ⟨ad197, e197, hx197_0⟩ := Kd.at_int (by repeat (first | (with_reducible exact HR196_0.out) | (with_reducible refine Kd.C_alloc ?_ _) | (with_reducible refine Kd.C_drewN ?_ _) | (with_reducible refine Kd.C_drew ?_) | exact HR196_0.out)) a2 p197 q197
            cases e197
            replace p197 := eq_true p197
            replace q197 := eq_true q197
            have p12 : 0 ≤ (a2 : Int) := of_decide_eq_true (by first | (with_reducible assumption) | assumption)
            have q12 : (a2 : Int) < (((rd_L1 t189 a1).length : Int) : Int) := of_decide_eq_true (by first | (with_reducible assumption) | assumption)
            obtain ⟨go12, co12, eo12, gb12, gl12, cl12, HG12⟩ := Kd.R_form HL195_0.out (by omega)
            (first | cases eo12 | (injection eo12 with ea_ en_ ec_; (first | subst ea_ | (injection ea_ with ea_; subst ea_)); subst ec_; clear en_))
            have GB12 := Aside0.mk gb12
            have GG12 := Aside0.mk HG12
            clear gb12 gl12 HG12
            (first | simp only [add_plain] at hx197_0 | skip)
            obtain ⟨hx12_0, hf12_0⟩ := Kd.R_celln 0 HL195_0.out (a2 : Int) p12 q12
            replace p12 := eq_true p12
            replace q12 := eq_true q12
            have hq29 : (a1 : Int) < (t189.length : Int) := (by have h_ : (a1 : Int) < ((t189.length : Int) : Int) := of_decide_eq_true (by first | (with_reducible assumption) | assumption); first | exact h_ | (have e_ := (Kd.S_reads' HO191.out).1; omega) | simpa only [List.length_set, List.length_set] using h_)
            obtain ⟨oki29, ce29, hcl29, hM29, hcc29, hok29, hbk29⟩ := Kd.S_borrow HO191.out [] (a1 : Int) (of_decide_eq_true (by first | (with_reducible assumption) | assumption)) hq29
            obtain ⟨ve29_0, rfl, ge29_0⟩ := hM29
            have hv29 := hcc29 0 _ rfl
            rw [Nat.add_zero, show ((Kd.slice 3 (Kd.int .i64))).sz = 1 from rfl, Nat.mul_one] at hv29
            replace hv29 := Option.some.inj (hv29.symm.trans HX195_0.out)
            subst hv29
            clear hcc29 hcl29
            replace ge29_0 := (show Kd.R (Kd.int .i64) 3 _ _ _ _ (rd_L1 t189 a1) from ge29_0)
            have HP29 := Kd.R_putg ge29_0 (a2 : Int) (wrap64 ((rd (rd_L1 t189 a1) a2) + a3))
            rw [← Ny198.out] at HP29
            have HS29 := hbk29 HP29.2 (fun k_ e_ => by injection e_ with e_; subst e_; exact ge29_0.1 _ rfl) (x' := y198) (Kd.M_row HP29.1)
            rw [← Ny200.out] at HS29
            have HQ29 := Aside0.mk HS29
            clear HP29 HS29 hbk29 hok29
            refine start_ (n := 18) (S := fun w' => w'.cell? ⟨gb192, 0, none⟩ = some (.slice (some ⟨go8, 0, none⟩) t186.length co19) ∧ w'.cell? ⟨gb192, 1, none⟩ = some (.slice (some ad195) t189.length co23) ∧ w'.cell? (ad195.add (a1).toNat) = some (.slice (some ⟨go12, 0, none⟩) (rd_L1 t189 a1).length c195_0) ∧ w'.cell? (ad195.add (a1).toNat) = some (.slice (some ⟨go12, 0, none⟩) (rd_L1 t189 a1).length c195_0) ∧ w'.cell? ⟨go12, (a2).toNat, none⟩ = some (.int .i64 (rd (rd_L1 t189 a1) a2))) (ds := [17]) #[false, false, false, false, false, false, false, false, false, false, false, false, false, false, false, false, false, false] (by kernel_rfl) rfl rfl ⟨(blk_cell BK192.out 0).trans rfl, (blk_cell BK192.out 1).trans rfl, hx195_0, hx196_0, hx197_0⟩ (fun hHeld => ?_); refine with_tabW millstreamref20_moved.tab3 millstreamref20_moved.bits3 (fun HT_ HW_ => ?_)
            generalize w27.drew = w28 at HO188 HO191 BK184 BK185 BK192 HB GG12 HL195_0 HL196_0 HQ29 HR195_0 HR196_0 HX195_0 HX196_0 hf12_0 hx12_0 hx195_0 hx196_0 hx197_0 hHeld ⊢
            refine pure_ (i := 0) (N := some 23) (v := ?_) (a' := ?_) #[true, false, false, false, false, false, false, false, false, false, false, false, false, false, false, false, false, false] rfl rfl (any_of HT_.out (by kernel_rfl)) (fun _ _ _ h => h) (Or.inl ⟨by rfl, ?_⟩) ?_ ?_
            rotate_left
            · intro w'
              go_simp
              with_reducible rfl
            rotate_left
            · simp only [Act.put, List.setIfInBounds_toArray, List.set_cons_zero, List.set_cons_succ, i64_w, i32_w]
              rfl
            refine pure_ (i := 2) (N := some 25) (v := ?_) (a' := ?_) #[true, false, true, false, false, false, false, false, false, false, false, false, false, false, false, false, false, false] rfl rfl (any_of HT_.out (by kernel_rfl)) (fun _ _ _ h => h) (Or.inl ⟨by rfl, ?_⟩) ?_ ?_
            rotate_left
            · intro w'
              go_simp
              with_reducible rfl
            rotate_left
            · simp only [Act.put, List.setIfInBounds_toArray, List.set_cons_zero, List.set_cons_succ, i64_w, i32_w]
              rfl
            refine pure_ (i := 5) (N := some 28) (v := ?_) (a' := ?_) #[true, false, true, false, false, true, false, false, false, false, false, false, false, false, false, false, false, false] rfl rfl (any_of HT_.out (by kernel_rfl)) (fun _ _ _ h => h) (Or.inl ⟨by rfl, ?_⟩) ?_ ?_
            rotate_left
            · intro w'
              go_simp
              with_reducible rfl
            rotate_left
            · simp only [Act.put, List.setIfInBounds_toArray, List.set_cons_zero, List.set_cons_succ, i64_w, i32_w]
              rfl
            refine pure_ (i := 6) (N := some 29) (v := ?_) (a' := ?_) #[true, false, true, false, false, true, true, false, false, false, false, false, false, false, false, false, false, false] rfl rfl (any_of HT_.out (by kernel_rfl)) (fun _ _ _ h => h) (Or.inl ⟨by rfl, ?_⟩) ?_ ?_
            rotate_left
            · intro w'
              go_simp
              with_reducible rfl
            rotate_left
            · simp only [Act.put, List.setIfInBounds_toArray, List.set_cons_zero, List.set_cons_succ, i64_w, i32_w]
              rfl
            refine pure_ (i := 8) (N := some 31) (v := ?_) (a' := ?_) #[true, false, true, false, false, true, true, false, true, false, false, false, false, false, false, false, false, false] rfl rfl (any_of HT_.out (by kernel_rfl)) (fun _ _ _ h => h) (Or.inl ⟨by rfl, ?_⟩) ?_ ?_
            rotate_left
            · intro w'
              go_simp
              with_reducible rfl
            rotate_left
            · simp only [Act.put, List.setIfInBounds_toArray, List.set_cons_zero, List.set_cons_succ, i64_w, i32_w]
              rfl
            refine pure_ (i := 11) (N := some 34) (v := ?_) (a' := ?_) #[true, false, true, false, false, true, true, false, true, false, false, true, false, false, false, false, false, false] rfl rfl (any_of HT_.out (by kernel_rfl)) (fun _ _ _ h => h) (Or.inl ⟨by rfl, ?_⟩) ?_ ?_
            rotate_left
            · intro w'
              go_simp
              with_reducible rfl
            rotate_left
            · simp only [Act.put, List.setIfInBounds_toArray, List.set_cons_zero, List.set_cons_succ, i64_w, i32_w]
              rfl
            refine pure_ (i := 14) (N := some 37) (v := ?_) (a' := ?_) #[true, false, true, false, false, true, true, false, true, false, false, true, false, false, true, false, false, false] rfl rfl (any_of HT_.out (by kernel_rfl)) (fun _ _ _ h => h) (Or.inl ⟨by rfl, ?_⟩) ?_ ?_
            rotate_left
            · intro w'
              go_simp
              with_reducible rfl
            rotate_left
            · simp only [Act.put, List.setIfInBounds_toArray, List.set_cons_zero, List.set_cons_succ, i64_w, i32_w]
              rfl
            refine take_ (i := 1) (N := some 24) (v := ?_) (a' := ?_) #[true, true, true, false, false, true, true, false, true, false, false, true, false, false, true, false, false, false] rfl rfl (take_ofW HT_.out HW_.out (by kernel_rfl)) (fun _ _ _ h => h) (Or.inl ⟨by rfl, ?_⟩) hHeld ?_ ?_
            rotate_left
            · rintro w' ⟨s0, s1, s2, s3, s4⟩
              go_simp
              with_reducible rfl
            rotate_left
            · simp only [Act.put, List.setIfInBounds_toArray, List.set_cons_zero, List.set_cons_succ, i64_w, i32_w]
              rfl
            refine pure_ (i := 3) (N := some 26) (v := ?_) (a' := ?_) #[true, true, true, true, false, true, true, false, true, false, false, true, false, false, true, false, false, false] rfl rfl (any_of HT_.out (by kernel_rfl)) (fun _ _ _ h => h) (Or.inl ⟨by rfl, ?_⟩) ?_ ?_
            rotate_left
            · intro w'
              go_simp
              with_reducible rfl
            rotate_left
            · simp only [Act.put, List.setIfInBounds_toArray, List.set_cons_zero, List.set_cons_succ, i64_w, i32_w]
              rfl
            refine take_ (i := 4) (N := some 27) (v := ?_) (a' := ?_) #[true, true, true, true, true, true, true, false, true, false, false, true, false, false, true, false, false, false] rfl rfl (take_ofW HT_.out HW_.out (by kernel_rfl)) (fun _ _ _ h => h) (Or.inl ⟨by rfl, ?_⟩) hHeld ?_ ?_
            rotate_left
            · rintro w' ⟨s0, s1, s2, s3, s4⟩
              go_simp
              with_reducible rfl
            rotate_left
            · simp only [Act.put, List.setIfInBounds_toArray, List.set_cons_zero, List.set_cons_succ, i64_w, i32_w]
              rfl
            refine take_ (i := 7) (N := some 30) (v := ?_) (a' := ?_) #[true, true, true, true, true, true, true, true, true, false, false, true, false, false, true, false, false, false] rfl rfl (take_ofW HT_.out HW_.out (by kernel_rfl)) (fun _ _ _ h => h) (Or.inl ⟨by rfl, ?_⟩) hHeld ?_ ?_
            rotate_left
            · rintro w' ⟨s0, s1, s2, s3, s4⟩
              go_simp
              with_reducible rfl
            rotate_left
            · simp only [Act.put, List.setIfInBounds_toArray, List.set_cons_zero, List.set_cons_succ, i64_w, i32_w]
              rfl
            refine pure_ (i := 9) (N := some 32) (v := ?_) (a' := ?_) #[true, true, true, true, true, true, true, true, true, true, false, true, false, false, true, false, false, false] rfl rfl (any_of HT_.out (by kernel_rfl)) (fun _ _ _ h => h) (Or.inl ⟨by rfl, ?_⟩) ?_ ?_
            rotate_left
            · intro w'
              go_simp
              with_reducible rfl
            rotate_left
            · simp only [Act.put, List.setIfInBounds_toArray, List.set_cons_zero, List.set_cons_succ, i64_w, i32_w]
              rfl
            refine take_ (i := 10) (N := some 33) (v := ?_) (a' := ?_) #[true, true, true, true, true, true, true, true, true, true, true, true, false, false, true, false, false, false] rfl rfl (take_ofW HT_.out HW_.out (by kernel_rfl)) (fun _ _ _ h => h) (Or.inl ⟨by rfl, ?_⟩) hHeld ?_ ?_
            rotate_left
            · rintro w' ⟨s0, s1, s2, s3, s4⟩
              go_simp
              with_reducible rfl
            rotate_left
            · simp only [Act.put, List.setIfInBounds_toArray, List.set_cons_zero, List.set_cons_succ, i64_w, i32_w]
              rfl
            refine pure_ (i := 12) (N := some 35) (v := ?_) (a' := ?_) #[true, true, true, true, true, true, true, true, true, true, true, true, true, false, true, false, false, false] rfl rfl (any_of HT_.out (by kernel_rfl)) (fun _ _ _ h => h) (Or.inl ⟨by rfl, ?_⟩) ?_ ?_
            rotate_left
            · intro w'
              go_simp
              with_reducible rfl
            rotate_left
            · simp only [Act.put, List.setIfInBounds_toArray, List.set_cons_zero, List.set_cons_succ, i64_w, i32_w]
              rfl
            refine take_ (i := 13) (N := some 36) (v := ?_) (a' := ?_) #[true, true, true, true, true, true, true, true, true, true, true, true, true, true, true, false, false, false] rfl rfl (take_ofW HT_.out HW_.out (by kernel_rfl)) (fun _ _ _ h => h) (Or.inl ⟨by rfl, ?_⟩) hHeld ?_ ?_
            rotate_left
            · rintro w' ⟨s0, s1, s2, s3, s4⟩
              go_simp
              with_reducible rfl
            rotate_left
            · simp only [Act.put, List.setIfInBounds_toArray, List.set_cons_zero, List.set_cons_succ, i64_w, i32_w]
              rfl
            refine pure_ (i := 15) (N := some 38) (v := ?_) (a' := ?_) #[true, true, true, true, true, true, true, true, true, true, true, true, true, true, true, true, false, false] rfl rfl (any_of HT_.out (by kernel_rfl)) (fun _ _ _ h => h) (Or.inl ⟨by rfl, ?_⟩) ?_ ?_
            rotate_left
            · intro w'
              go_simp
              with_reducible rfl
            rotate_left
            · simp only [Act.put, List.setIfInBounds_toArray, List.set_cons_zero, List.set_cons_succ, i64_w, i32_w]
              rfl
            refine pure_ (i := 16) (N := some 39) (v := ?_) (a' := ?_) #[true, true, true, true, true, true, true, true, true, true, true, true, true, true, true, true, true, false] rfl rfl (any_of HT_.out (by kernel_rfl)) (fun _ _ _ h => h) (Or.inl ⟨by rfl, ?_⟩) ?_ ?_
            rotate_left
            · intro w'
              go_simp
              with_reducible rfl
            rotate_left
            · simp only [Act.put, List.setIfInBounds_toArray, List.set_cons_zero, List.set_cons_succ, i64_w, i32_w]
              rfl
            refine last_ (i := 17) (N := none) #[true, true, true, true, true, true, true, true, true, true, true, true, true, true, true, true, true, true] rfl rfl (one_of HT_.out (by kernel_rfl)) (by decide) (fun K hK => ?_)
            refine skip_ (w1 := ?_) (by rfl) rfl ?_ ?_
            rotate_left
            · go_simp
              rfl
            refine hK.out _ _ ?_
            clear hK K
            refine done_ (done_of HT_.out (by kernel_rfl)) ?_
            have n0_ : Aside0 (Kd.R (Kd.int .i64) 3 (w28.setCell ⟨go12, (a2 : Int).toNat, none⟩ (.int .i64 (wrap64 ((rd (rd_L1 t189 a1) a2) + a3)))) w.heap.size (fun _ => True) (.slice (some ⟨go8, 0, none⟩) t186.length co19) y194) := ⟨by (with_reducible repeat (first | apply Kd.R_alloc | apply Kd.R_drewN | apply Kd.R_drew)); exact Kd.R_mono (Kd.R_far (p := ⟨go12, (a2 : Int).toNat, none⟩) (Kd.R_far1 HO188.out rfl ((HL195_0.out.1 _ rfl).1)) (fun _ hk => hk.2) (.int .i64 (wrap64 ((rd (rd_L1 t189 a1) a2) + a3)))) (fun _ hk => trivial)⟩
            have n1_ : Aside0 (Kd.S (Kd.slice 3 (Kd.int .i64)) 22 (w28.setCell ⟨go12, (a2 : Int).toNat, none⟩ (.int .i64 (wrap64 ((rd (rd_L1 t189 a1) a2) + a3)))) w.heap.size (fun k_ => some k_ ≠ (.slice (some ⟨go8, 0, none⟩) t186.length co19 : Value).ownBlock) (.slice (some ad195) t189.length co23) y200) := ⟨by (with_reducible repeat (first | apply Kd.S_alloc | apply Kd.S_drewN | apply Kd.S_drew)); exact HQ29.out⟩
            have n2_ : Aside0 ((w28.setCell ⟨go12, (a2 : Int).toNat, none⟩ (.int .i64 (wrap64 ((rd (rd_L1 t189 a1) a2) + a3)))).heap[gb184]? = some (.cells #[.slice A0_0 l0_0.length c0_0, .slice A0_1 l0_1.length c0_1] 30 (0, 0))) := ⟨by (with_reducible repeat (first | refine blk_drewN ?_ _ | refine blk_drew ?_ | refine blk_alloc ?_ _)); refine blk_far ?_ (by have h_ := Kd.R_ne HL195_0.out BK184.out (by decide); intro e_; exact h_ (by rw [e_]; rfl)) _; (with_reducible repeat (first | refine blk_drewN ?_ _ | refine blk_drew ?_ | refine blk_alloc ?_ _)); exact BK184.out⟩
            have n3_ : Aside0 ((w28.setCell ⟨go12, (a2 : Int).toNat, none⟩ (.int .i64 (wrap64 ((rd (rd_L1 t189 a1) a2) + a3)))).heap[gb185]? = some (.cells #[.slice none 0 0, .slice none 0 0] 30 (0, 0))) := ⟨by (with_reducible repeat (first | refine blk_drewN ?_ _ | refine blk_drew ?_ | refine blk_alloc ?_ _)); refine blk_far ?_ (by have h_ := Kd.R_ne HL195_0.out BK185.out (by decide); intro e_; exact h_ (by rw [e_]; rfl)) _; (with_reducible repeat (first | refine blk_drewN ?_ _ | refine blk_drew ?_ | refine blk_alloc ?_ _)); exact BK185.out⟩
            have n4_ : Aside0 ((w28.setCell ⟨go12, (a2 : Int).toNat, none⟩ (.int .i64 (wrap64 ((rd (rd_L1 t189 a1) a2) + a3)))).heap[gb192]? = some (.cells #[.slice (some ⟨go8, 0, none⟩) t186.length co19, .slice (some ad195) t189.length co23] 30 (0, 0))) := ⟨by (with_reducible repeat (first | refine blk_drewN ?_ _ | refine blk_drew ?_ | refine blk_alloc ?_ _)); refine blk_far ?_ (by have h_ := Kd.R_ne HL195_0.out BK192.out (by decide); intro e_; exact h_ (by rw [e_]; rfl)) _; (with_reducible repeat (first | refine blk_drewN ?_ _ | refine blk_drew ?_ | refine blk_alloc ?_ _)); exact BK192.out⟩
            have n5_ : Aside0 (Below w.heap.size w (w28.setCell ⟨go12, (a2 : Int).toNat, none⟩ (.int .i64 (wrap64 ((rd (rd_L1 t189 a1) a2) + a3))))) := ⟨by repeat (first | (with_reducible first | exact HB.out | apply below_alloc | apply pw_below_drewN | apply below_drew1 | refine below_set ?_ GB12.out | refine below_set ?_ GE184.out | refine below_set ?_ GE185.out | refine below_set ?_ GE192.out) | exact HB.out)⟩
            (try clear HO188)
            (try clear HO191)
            (try clear BK184)
            (try clear BK185)
            (try clear BK192)
            (try clear HB)
            generalize (w28.setCell ⟨go12, (a2 : Int).toNat, none⟩ (.int .i64 (wrap64 ((rd (rd_L1 t189 a1) a2) + a3)))) = w31 at n0_ n1_ n2_ n3_ n4_ n5_ ⊢
            have HO188 := n0_
            have HO191 := n1_
            have BK184 := n2_
            have BK185 := n3_
            have BK192 := n4_
            have HB := n5_
            clear n0_ n1_ n2_ n3_ n4_ n5_
            have hcz32_0 : w31.cell? ⟨gb192, 0, none⟩ = some (.slice (some ⟨go8, 0, none⟩) t186.length co19) := (blk_cell BK192.out 0).trans rfl
            have hcz32_1 : w31.cell? ⟨gb192, 1, none⟩ = some (.slice (some ad195) t189.length co23) := (blk_cell BK192.out 1).trans rfl
            have hfz32_0 := blk_frozen BK192.out 0
            have hfz32_1 := blk_frozen BK192.out 1
            have hcz33_0 : w31.cell? ⟨gb185, 0, none⟩ = some (.slice none 0 0) := (blk_cell BK185.out 0).trans rfl
            have hcz33_1 : w31.cell? ⟨gb185, 1, none⟩ = some (.slice none 0 0) := (blk_cell BK185.out 1).trans rfl
            have hfz33_0 := blk_frozen BK185.out 0
            have hfz33_1 := blk_frozen BK185.out 1
            try go_wp2
            refine bodyPost_ret (results_cell_row rfl _ _ gb185 30 #[.slice (some ⟨go8, 0, none⟩) t186.length co19, .slice (some ad195) t189.length co23] (0, 0) _ rfl (by (with_reducible repeat (first | refine blk_drewN ?_ _ | refine blk_drew ?_ | refine blk_alloc ?_ _)); refine blk_put (cs := #[.slice (some ⟨go8, 0, none⟩) t186.length co19, .slice none 0 0]) ?_ 1 _ rfl; (with_reducible repeat (first | refine blk_drewN ?_ _ | refine blk_drew ?_ | refine blk_alloc ?_ _)); refine blk_put (cs := #[.slice none 0 0, .slice none 0 0]) ?_ 0 _ rfl; (with_reducible repeat (first | refine blk_drewN ?_ _ | refine blk_drew ?_ | refine blk_alloc ?_ _)); exact BK185.out) Try.underlying30 rfl (by kernel_rfl)) rfl ?_
            exact ⟨_, _, by first | rfl | (simp [errW_none, errW_some] <;> rfl) | (simp [*, errW_none, errW_some] <;> rfl), by (with_reducible repeat (first | apply Kd.R_alloc | apply Kd.R_drewN | apply Kd.R_drew)); exact Kd.R_mono (Kd.R_far (p := ⟨gb185, 1, none⟩) (Kd.R_far (p := ⟨gb185, 0, none⟩) (Kd.R_types HO188.out BK185.out (by decide)) (fun _ hk => hk.2) (.slice (some ⟨go8, 0, none⟩) t186.length co19)) (fun _ hk => hk.2) (.slice (some ad195) t189.length co23)) (fun _ hk => trivial), by (with_reducible repeat (first | apply Kd.S_alloc | apply Kd.S_drewN | apply Kd.S_drew)); exact Kd.S_mono (Kd.S_far (p := ⟨gb185, 1, none⟩) (Kd.S_far (p := ⟨gb185, 0, none⟩) (Kd.S_types HO191.out BK185.out (by decide)) (fun _ hk => hk.2) (.slice (some ⟨go8, 0, none⟩) t186.length co19)) (fun _ hk => hk.2) (.slice (some ad195) t189.length co23)) (fun _ hk => hk.1), by repeat (first | (with_reducible first | exact HB.out | apply below_alloc | apply pw_below_drewN | apply below_drew1 | refine below_set ?_ GE184.out | refine below_set ?_ GE185.out | refine below_set ?_ GE192.out) | exact HB.out)⟩
          · rw [if_neg c11] at H
            exact absurd H (by simp)
        · rw [if_neg c10] at H
          exact absurd H (by simp)
      · rw [if_neg c9] at H
        exact absurd H (by simp)
    · rw [if_neg c7] at H
      exact absurd H (by simp)
  · rw [if_neg c6] at H
    exact absurd H (by simp)

end Go.Proofs.Ytlgoincnopfnjaa.PLedgerActs
