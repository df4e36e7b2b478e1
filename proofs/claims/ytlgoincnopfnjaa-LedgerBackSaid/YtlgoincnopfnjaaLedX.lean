/- What was granted can be released, and then all is as it was. -/
import Derived.Test.YtlgoincnopfnjaaLedR
namespace Go.Proofs.Ytlgoincnopfnjaa.Led
open Go Go.RowKit Go.Proofs.YtlgoincnopfnjaaW.PrintWords Go.Proofs.YtlgoincnopfnjaaW.PrintMore Go.Proofs.YtlgoincnopfnjaaW.PrintLast
set_option linter.unusedSimpArgs false
set_option linter.unusedVariables false
attribute [local go_sem] max2_int min2_int max_two min_two eqA27
theorem cell_kn {a : Addr} {v : Value} {w : World} (h : w.cell? a = some v) : Kn (fun W => W.cell? a = some v) w := fun _ hb => (hb.cell (p := a) (cell_blk h)).trans h
set_option maxHeartbeats 8000000 in
set_option maxRecDepth 100000 in
theorem back_e (n m : Nat) (A : Option Addr) (c : Nat) (bd : Addr) (d : Nat) (L : LG) (tk k ai aK : Int) (S : Nat → Prop) (w : World) (h : Aside0 (LV S n m A c (some bd) d L w)) (ha0 : Aside0 (-9223372036854775808 ≤ aK ∧ aK ≤ 9223372036854775807)) (hm0 : ((m : Int) == 0) = false) (hm1 : ¬ (m : Int) = 0) (hwk : IntKind.i64.wrap tk = tk) (hrem : IntKind.i64.wrap (tk.tmod m) = k) (hrem2 : tk.tmod m = k) (L1 L2 : LG) (e1 : Int) (he : (e1 == 0) = false) (he2 : (e1 != 0) = true) (h1 : Aside0 (resS n m L k ai aK = (L1, 0, e1))) (h2 : Aside0 (someS n m L k ai aK = (L2, 0, e1))) :
    Calls Try.prog 8 #[.agg #[.slice A n c, .slice (some bd) m d], .int .u8 tk, .agg #[.int .i64 ai, .int .i64 aK]] w fun e w' => e = .returned (.bool true) ∧ Below w.heap.size w w' := by
  go_enter Try.func8, Try.ntmps8
  go_upto_region 1 with (fail)
  have kn := Aside0.mk (Kn.cons h.out.kn (tb_kn (Below.refl w.heap.size w)))
  replace kn := Aside0.mk (Kn.cons (Bx.new (w) (.slice A n c) (.slice (some bd) m d) 25).kn (kn.out.step (bal (w) (.cells #[.slice A n c, .slice (some bd) m d] 25))))
  replace kn := Aside0.mk (Kn.cons (Bx.new ((w).alloc (.cells #[.slice A n c, .slice (some bd) m d] 25)) (.int .i64 ai) (.int .i64 aK) 27).kn (kn.out.step (bal ((w).alloc (.cells #[.slice A n c, .slice (some bd) m d] 25)) (.cells #[.int .i64 ai, .int .i64 aK] 27))))
  simp only [World.size_alloc] at kn
  generalize ((w).alloc (.cells #[.slice A n c, .slice (some bd) m d] 25)).alloc (.cells #[.int .i64 ai, .int .i64 aK] 27) = W0 at kn ⊢
  generalize w.heap.size + 1 = bp at kn ⊢
  generalize hz : w.heap.size = bl at kn ⊢
  clear hz
  have yl0 := kn.out.here.2.1.k0
  have yl1 := kn.out.here.2.1.k1
  go_upto_region 3 with (first | (go_at_call 10; (with_reducible refine (fine_lv (kn.out.here.2.2.1)).mono ?_); rintro e wf ⟨rfl, hb⟩; have kf := Aside0.mk (kn.out.step hb); clear hb kn; have zl0 := kf.out.here.2.1.k0; have zl1 := kf.out.here.2.1.k1) | (go_at_call 11; (with_reducible refine (shown_is _).mono ?_); rintro e wg ⟨rfl, hb⟩; have kn := Aside0.mk (kf.out.step hb); clear hb kf))
  clear yl0 yl1 zl0 zl1
  have yl0 := kn.out.here.2.1.k0
  have yl1 := kn.out.here.2.1.k1
  go_upto_region 4 with (fail)
  clear yl0 yl1
  have yl0 := kn.out.here.2.1.k0
  have yl1 := kn.out.here.2.1.k1
  have yp0 := kn.out.here.1.k0
  have yp1 := kn.out.here.1.k1
  go_upto_region 5 with (first | (go_at_call 13; (with_reducible refine (reserve_is n m A c (some bd) d L k ai aK S _ ⟨kn.out.here.2.2.1⟩ ha0 L1 0 e1 h1.out).mono ?_); rintro e w1 ⟨S1, A1, c1, B1, d1, rfl, hl, hS, hb⟩; replace hb := Aside0.mk hb; replace hl := Aside0.mk hl))
  clear yl0 yl1 yp0 yp1
  replace kn := Aside0.mk (Kn.cons (Bx.new w1 (.slice A1 n c1) (.slice B1 m d1) 25).kn (Kn.cons (hl.out.below (bal w1 (.cells #[.slice A1 n c1, .slice B1 m d1] 25))).kn (kn.out.step (hb.out.alloc hb.out.size (.cells #[.slice A1 n c1, .slice B1 m d1] 25)))))
  clear hb hl
  generalize w1.alloc (.cells #[.slice A1 n c1, .slice B1 m d1] 25) = W1 at kn ⊢
  generalize w1.heap.size = b1 at kn ⊢
  have yl0 := kn.out.here.2.2.2.1.k0
  have yl1 := kn.out.here.2.2.2.1.k1
  have yp0 := kn.out.here.2.2.1.k0
  have yp1 := kn.out.here.2.2.1.k1
  go_upto_region 6 with (first | (go_at_call 15; (with_reducible refine (some_is n m A c (some bd) d L k ai aK S _ ⟨kn.out.here.2.2.2.2.1⟩ ha0 L2 0 e1 h2.out).mono ?_); rintro e w2 ⟨S2, A2, c2, B2, d2, rfl, hl, hS, hb⟩; replace hb := Aside0.mk hb; replace hl := Aside0.mk hl))
  clear yl0 yl1 yp0 yp1
  replace kn := Aside0.mk (Kn.cons (Bx.new w2 (.slice A2 n c2) (.slice B2 m d2) 25).kn (Kn.cons (hl.out.below (bal w2 (.cells #[.slice A2 n c2, .slice B2 m d2] 25))).kn (kn.out.step (hb.out.alloc hb.out.size (.cells #[.slice A2 n c2, .slice B2 m d2] 25)))))
  clear hb hl
  generalize w2.alloc (.cells #[.slice A2 n c2, .slice B2 m d2] 25) = W2 at kn ⊢
  generalize w2.heap.size = b2 at kn ⊢
  go_wp2
  go_ret
  exact ⟨rfl, kn.out.here.2.2.2.2.2.2.2⟩
set_option maxHeartbeats 8000000 in
set_option maxRecDepth 100000 in
theorem back_n1 (n m : Nat) (A : Option Addr) (c : Nat) (bd : Addr) (d : Nat) (L : LG) (tk k ai aK : Int) (S : Nat → Prop) (w : World) (h : Aside0 (LV S n m A c (some bd) d L w)) (ha0 : Aside0 (-9223372036854775808 ≤ aK ∧ aK ≤ 9223372036854775807)) (hm0 : ((m : Int) == 0) = false) (hm1 : ¬ (m : Int) = 0) (hwk : IntKind.i64.wrap tk = tk) (hrem : IntKind.i64.wrap (tk.tmod m) = k) (hrem2 : tk.tmod m = k) (L1 L2 : LG) (k1 k2 : Int) (ad : Addr) (cr : Nat) (y : Int) (hc1 : Aside0 (w.cell? (bd.add k.toNat) = some (.slice (some ad) n cr))) (hc2 : Aside0 (w.cell? (ad.add ai.toNat) = some (.int .i64 y))) (kb0 : 0 ≤ k) (kb1 : k < m) (ib0 : 0 ≤ ai) (ib1 : ai < n) (hy : decide (y < 0) = true) (h1 : Aside0 (resS n m L k ai aK = (L1, k1, 0))) (h2 : Aside0 (someS n m L k ai aK = (L2, k2, 0))) :
    Calls Try.prog 8 #[.agg #[.slice A n c, .slice (some bd) m d], .int .u8 tk, .agg #[.int .i64 ai, .int .i64 aK]] w fun e w' => e = .returned (.bool true) ∧ Below w.heap.size w w' := by
  go_enter Try.func8, Try.ntmps8
  go_upto_region 1 with (fail)
  have kn := Aside0.mk (Kn.cons h.out.kn (tb_kn (Below.refl w.heap.size w)))
  replace kn := Aside0.mk (Kn.cons (cell_kn hc1.out) kn.out)
  replace kn := Aside0.mk (Kn.cons (cell_kn hc2.out) kn.out)
  replace kn := Aside0.mk (Kn.cons (Bx.new (w) (.slice A n c) (.slice (some bd) m d) 25).kn (kn.out.step (bal (w) (.cells #[.slice A n c, .slice (some bd) m d] 25))))
  replace kn := Aside0.mk (Kn.cons (Bx.new ((w).alloc (.cells #[.slice A n c, .slice (some bd) m d] 25)) (.int .i64 ai) (.int .i64 aK) 27).kn (kn.out.step (bal ((w).alloc (.cells #[.slice A n c, .slice (some bd) m d] 25)) (.cells #[.int .i64 ai, .int .i64 aK] 27))))
  simp only [World.size_alloc] at kn
  generalize ((w).alloc (.cells #[.slice A n c, .slice (some bd) m d] 25)).alloc (.cells #[.int .i64 ai, .int .i64 aK] 27) = W0 at kn ⊢
  generalize w.heap.size + 1 = bp at kn ⊢
  generalize hz : w.heap.size = bl at kn ⊢
  clear hz
  have yl0 := kn.out.here.2.1.k0
  have yl1 := kn.out.here.2.1.k1
  go_upto_region 3 with (first | (go_at_call 10; (with_reducible refine (fine_lv (kn.out.here.2.2.2.2.1)).mono ?_); rintro e wf ⟨rfl, hb⟩; have kf := Aside0.mk (kn.out.step hb); clear hb kn; have zl0 := kf.out.here.2.1.k0; have zl1 := kf.out.here.2.1.k1) | (go_at_call 11; (with_reducible refine (shown_is _).mono ?_); rintro e wg ⟨rfl, hb⟩; have kn := Aside0.mk (kf.out.step hb); clear hb kf))
  clear yl0 yl1 zl0 zl1
  have yl0 := kn.out.here.2.1.k0
  have yl1 := kn.out.here.2.1.k1
  go_upto_region 4 with (fail)
  clear yl0 yl1
  have yl0 := kn.out.here.2.1.k0
  have yl1 := kn.out.here.2.1.k1
  have yp0 := kn.out.here.1.k0
  have yp1 := kn.out.here.1.k1
  go_upto_region 5 with (first | (go_at_call 13; (with_reducible refine (reserve_is n m A c (some bd) d L k ai aK S _ ⟨kn.out.here.2.2.2.2.1⟩ ha0 L1 k1 0 h1.out).mono ?_); rintro e w1 ⟨S1, A1, c1, B1, d1, rfl, hl, hS, hb⟩; replace hb := Aside0.mk hb; replace hl := Aside0.mk hl))
  clear yl0 yl1 yp0 yp1
  replace kn := Aside0.mk (Kn.cons (Bx.new w1 (.slice A1 n c1) (.slice B1 m d1) 25).kn (Kn.cons (hl.out.below (bal w1 (.cells #[.slice A1 n c1, .slice B1 m d1] 25))).kn (kn.out.step (hb.out.alloc hb.out.size (.cells #[.slice A1 n c1, .slice B1 m d1] 25)))))
  clear hb hl
  generalize w1.alloc (.cells #[.slice A1 n c1, .slice B1 m d1] 25) = W1 at kn ⊢
  generalize w1.heap.size = b1 at kn ⊢
  have yl0 := kn.out.here.2.2.2.1.k0
  have yl1 := kn.out.here.2.2.2.1.k1
  have yp0 := kn.out.here.2.2.1.k0
  have yp1 := kn.out.here.2.2.1.k1
  go_upto_region 6 with (first | (go_at_call 15; (with_reducible refine (some_is n m A c (some bd) d L k ai aK S _ ⟨kn.out.here.2.2.2.2.2.2.1⟩ ha0 L2 k2 0 h2.out).mono ?_); rintro e w2 ⟨S2, A2, c2, B2, d2, rfl, hl, hS, hb⟩; replace hb := Aside0.mk hb; replace hl := Aside0.mk hl))
  clear yl0 yl1 yp0 yp1
  replace kn := Aside0.mk (Kn.cons (Bx.new w2 (.slice A2 n c2) (.slice B2 m d2) 25).kn (Kn.cons (hl.out.below (bal w2 (.cells #[.slice A2 n c2, .slice B2 m d2] 25))).kn (kn.out.step (hb.out.alloc hb.out.size (.cells #[.slice A2 n c2, .slice B2 m d2] 25)))))
  clear hb hl
  generalize w2.alloc (.cells #[.slice A2 n c2, .slice B2 m d2] 25) = W2 at kn ⊢
  generalize w2.heap.size = b2 at kn ⊢
  go_upto_region 8 with (fail)
  have kd := Aside0.mk (kn.out.step (below_drew1 (Below.refl W2.heap.size W2)))
  clear kn
  refine start_ (n := 22) (S := fun w' => w'.cell? ⟨bl, 0, none⟩ = some (.slice A n c) ∧ w'.cell? ⟨bl, 1, none⟩ = some (.slice (some bd) m d) ∧ w'.cell? ⟨bp, 0, none⟩ = some (.int .i64 ai) ∧ w'.cell? ⟨bp, 1, none⟩ = some (.int .i64 aK) ∧ w'.cell? (bd.add k.toNat) = some (.slice (some ad) n cr) ∧ w'.cell? (ad.add ai.toNat) = some (.int .i64 y) ∧ Aside0 (Kn (fun W => Bx b2 (.slice A2 n c2) (.slice B2 m d2) W ∧ LV S2 n m A2 c2 B2 d2 L2 W ∧ Bx b1 (.slice A1 n c1) (.slice B1 m d1) W ∧ LV S1 n m A1 c1 B1 d1 L1 W ∧ Bx bp (.int .i64 ai) (.int .i64 aK) W ∧ Bx bl (.slice A n c) (.slice (some bd) m d) W ∧ W.cell? (ad.add ai.toNat) = some (.int .i64 y) ∧ W.cell? (bd.add k.toNat) = some (.slice (some ad) n cr) ∧ LV S n m A c (some bd) d L W ∧ Tb w W) w')) (ds := []) #[false, false, false, false, false, false, false, false, false, false, false, false, false, false, false, false, false, false, false, false, false, false] (by kernel_rfl) rfl rfl ⟨kd.out.here.2.2.2.2.2.1.k0, kd.out.here.2.2.2.2.2.1.k1, kd.out.here.2.2.2.2.1.k0, kd.out.here.2.2.2.2.1.k1, kd.out.here.2.2.2.2.2.2.2.1, kd.out.here.2.2.2.2.2.2.1, kd⟩ (fun hHeld => ?_)
  generalize W2.drew = V2 at kd hHeld ⊢
  refine pure_ (i := 0) (N := some 74) (v := ?_) (a' := ?_) #[true, false, false, false, false, false, false, false, false, false, false, false, false, false, false, false, false, false, false, false, false, false] rfl rfl (by kernel_rfl) (fun _ _ _ h => h) (Or.inl ⟨by rfl, ?_⟩) ?_ ?_
  rotate_left
  · intro w'
    go_simp
    with_reducible rfl
  rotate_left
  · simp only [Act.put, List.setIfInBounds_toArray, List.set_cons_zero, List.set_cons_succ, i64_w, i32_w]
    rfl
  refine pure_ (i := 2) (N := some 76) (v := ?_) (a' := ?_) #[true, false, true, false, false, false, false, false, false, false, false, false, false, false, false, false, false, false, false, false, false, false] rfl rfl (by kernel_rfl) (fun _ _ _ h => h) (Or.inl ⟨by rfl, ?_⟩) ?_ ?_
  rotate_left
  · intro w'
    go_simp
    with_reducible rfl
  rotate_left
  · simp only [Act.put, List.setIfInBounds_toArray, List.set_cons_zero, List.set_cons_succ, i64_w, i32_w]
    rfl
  refine pure_ (i := 5) (N := some 79) (v := ?_) (a' := ?_) #[true, false, true, false, false, true, false, false, false, false, false, false, false, false, false, false, false, false, false, false, false, false] rfl rfl (by kernel_rfl) (fun _ _ _ h => h) (Or.inl ⟨by rfl, ?_⟩) ?_ ?_
  rotate_left
  · intro w'
    go_simp
    with_reducible rfl
  rotate_left
  · simp only [Act.put, List.setIfInBounds_toArray, List.set_cons_zero, List.set_cons_succ, i64_w, i32_w]
    rfl
  refine take_ (i := 1) (N := some 75) (v := ?_) (a' := ?_) #[true, true, true, false, false, true, false, false, false, false, false, false, false, false, false, false, false, false, false, false, false, false] rfl rfl (by kernel_rfl) (fun _ _ _ h => h) (Or.inl ⟨by rfl, ?_⟩) hHeld ?_ ?_
  rotate_left
  · rintro w' ⟨s0, s1, s2, s3, s4, s5, s6⟩
    go_simp
    with_reducible rfl
  rotate_left
  · simp only [Act.put, List.setIfInBounds_toArray, List.set_cons_zero, List.set_cons_succ, i64_w, i32_w]
    rfl
  refine pure_ (i := 3) (N := some 77) (v := ?_) (a' := ?_) #[true, true, true, true, false, true, false, false, false, false, false, false, false, false, false, false, false, false, false, false, false, false] rfl rfl (by kernel_rfl) (fun _ _ _ h => h) (Or.inl ⟨by rfl, ?_⟩) ?_ ?_
  rotate_left
  · intro w'
    go_simp
    with_reducible rfl
  rotate_left
  · simp only [Act.put, List.setIfInBounds_toArray, List.set_cons_zero, List.set_cons_succ, i64_w, i32_w]
    rfl
  refine take_ (i := 4) (N := some 78) (v := ?_) (a' := ?_) #[true, true, true, true, true, true, false, false, false, false, false, false, false, false, false, false, false, false, false, false, false, false] rfl rfl (by kernel_rfl) (fun _ _ _ h => h) (Or.inl ⟨by rfl, ?_⟩) hHeld ?_ ?_
  rotate_left
  · rintro w' ⟨s0, s1, s2, s3, s4, s5, s6⟩
    go_simp
    with_reducible rfl
  rotate_left
  · simp only [Act.put, List.setIfInBounds_toArray, List.set_cons_zero, List.set_cons_succ, i64_w, i32_w]
    rfl
  refine take_ (i := 6) (N := some 80) (v := ?_) (a' := ?_) #[true, true, true, true, true, true, true, false, false, false, false, false, false, false, false, false, false, false, false, false, false, false] rfl rfl (by kernel_rfl) (fun _ _ _ h => h) (Or.inl ⟨by rfl, ?_⟩) hHeld ?_ ?_
  rotate_left
  · rintro w' ⟨s0, s1, s2, s3, s4, s5, s6⟩
    go_simp
    with_reducible rfl
  rotate_left
  · simp only [Act.put, List.setIfInBounds_toArray, List.set_cons_zero, List.set_cons_succ, i64_w, i32_w]
    rfl
  refine pure_ (i := 7) (N := some 81) (v := ?_) (a' := ?_) #[true, true, true, true, true, true, true, true, false, false, false, false, false, false, false, false, false, false, false, false, false, false] rfl rfl (by kernel_rfl) (fun _ _ _ h => h) (Or.inl ⟨by rfl, ?_⟩) ?_ ?_
  rotate_left
  · intro w'
    go_simp
    with_reducible rfl
  rotate_left
  · simp only [Act.put, List.setIfInBounds_toArray, List.set_cons_zero, List.set_cons_succ, i64_w, i32_w]
    rfl
  refine take_ (i := 8) (N := some 82) (v := ?_) (a' := ?_) #[true, true, true, true, true, true, true, true, true, false, false, false, false, false, false, false, false, false, false, false, false, false] rfl rfl (by kernel_rfl) (fun _ _ _ h => h) (Or.inl ⟨by rfl, ?_⟩) hHeld ?_ ?_
  rotate_left
  · rintro w' ⟨s0, s1, s2, s3, s4, s5, s6⟩
    go_simp
    with_reducible rfl
  rotate_left
  · simp only [Act.put, List.setIfInBounds_toArray, List.set_cons_zero, List.set_cons_succ, i64_w, i32_w]
    rfl
  refine pure_ (i := 9) (N := some 83) (v := ?_) (a' := ?_) #[true, true, true, true, true, true, true, true, true, true, false, false, false, false, false, false, false, false, false, false, false, false] rfl rfl (by kernel_rfl) (fun _ _ _ h => h) (Or.inl ⟨by rfl, ?_⟩) ?_ ?_
  rotate_left
  · intro w'
    go_simp
    with_reducible rfl
  rotate_left
  · simp only [Act.put, List.setIfInBounds_toArray, List.set_cons_zero, List.set_cons_succ, i64_w, i32_w]
    rfl
  refine pure_ (i := 10) (N := some 84) (v := ?_) (a' := ?_) #[true, true, true, true, true, true, true, true, true, true, true, false, false, false, false, false, false, false, false, false, false, false] rfl rfl (by kernel_rfl) (fun _ _ _ h => h) (Or.inl ⟨by rfl, ?_⟩) ?_ ?_
  rotate_left
  · intro w'
    go_simp
    with_reducible rfl
  rotate_left
  · simp only [Act.put, List.setIfInBounds_toArray, List.set_cons_zero, List.set_cons_succ, i64_w, i32_w]
    rfl
  refine pure_ (i := 11) (N := some 85) (v := undef) (a' := ?_) #[true, true, true, true, true, true, true, true, true, true, true, true, false, false, false, false, false, false, false, false, false, false] rfl rfl (by kernel_rfl) (fun _ _ _ h => h) (Or.inr ⟨by rfl, rfl⟩) ?_ ?_
  rotate_left
  · simp only [Act.put, List.setIfInBounds_toArray, List.set_cons_zero, List.set_cons_succ, i64_w, i32_w]
    rfl
  refine pure_ (i := 12) (N := some 86) (v := undef) (a' := ?_) #[true, true, true, true, true, true, true, true, true, true, true, true, true, false, false, false, false, false, false, false, false, false] rfl rfl (by kernel_rfl) (fun _ _ _ h => h) (Or.inr ⟨by rfl, rfl⟩) ?_ ?_
  rotate_left
  · simp only [Act.put, List.setIfInBounds_toArray, List.set_cons_zero, List.set_cons_succ, i64_w, i32_w]
    rfl
  refine pure_ (i := 13) (N := some 87) (v := undef) (a' := ?_) #[true, true, true, true, true, true, true, true, true, true, true, true, true, true, false, false, false, false, false, false, false, false] rfl rfl (by kernel_rfl) (fun _ _ _ h => h) (Or.inr ⟨by rfl, rfl⟩) ?_ ?_
  rotate_left
  · simp only [Act.put, List.setIfInBounds_toArray, List.set_cons_zero, List.set_cons_succ, i64_w, i32_w]
    rfl
  refine pure_ (i := 14) (N := some 88) (v := undef) (a' := ?_) #[true, true, true, true, true, true, true, true, true, true, true, true, true, true, true, false, false, false, false, false, false, false] rfl rfl (by kernel_rfl) (fun _ _ _ h => h) (Or.inr ⟨by rfl, rfl⟩) ?_ ?_
  rotate_left
  · simp only [Act.put, List.setIfInBounds_toArray, List.set_cons_zero, List.set_cons_succ, i64_w, i32_w]
    rfl
  refine pure_ (i := 15) (N := some 89) (v := undef) (a' := ?_) #[true, true, true, true, true, true, true, true, true, true, true, true, true, true, true, true, false, false, false, false, false, false] rfl rfl (by kernel_rfl) (fun _ _ _ h => h) (Or.inr ⟨by rfl, rfl⟩) ?_ ?_
  rotate_left
  · simp only [Act.put, List.setIfInBounds_toArray, List.set_cons_zero, List.set_cons_succ, i64_w, i32_w]
    rfl
  refine pure_ (i := 16) (N := some 90) (v := undef) (a' := ?_) #[true, true, true, true, true, true, true, true, true, true, true, true, true, true, true, true, true, false, false, false, false, false] rfl rfl (by kernel_rfl) (fun _ _ _ h => h) (Or.inr ⟨by rfl, rfl⟩) ?_ ?_
  rotate_left
  · simp only [Act.put, List.setIfInBounds_toArray, List.set_cons_zero, List.set_cons_succ, i64_w, i32_w]
    rfl
  refine pure_ (i := 17) (N := some 91) (v := undef) (a' := ?_) #[true, true, true, true, true, true, true, true, true, true, true, true, true, true, true, true, true, true, false, false, false, false] rfl rfl (by kernel_rfl) (fun _ _ _ h => h) (Or.inr ⟨by rfl, rfl⟩) ?_ ?_
  rotate_left
  · simp only [Act.put, List.setIfInBounds_toArray, List.set_cons_zero, List.set_cons_succ, i64_w, i32_w]
    rfl
  refine pure_ (i := 18) (N := some 92) (v := undef) (a' := ?_) #[true, true, true, true, true, true, true, true, true, true, true, true, true, true, true, true, true, true, true, false, false, false] rfl rfl (by kernel_rfl) (fun _ _ _ h => h) (Or.inr ⟨by rfl, rfl⟩) ?_ ?_
  rotate_left
  · simp only [Act.put, List.setIfInBounds_toArray, List.set_cons_zero, List.set_cons_succ, i64_w, i32_w]
    rfl
  refine pure_ (i := 19) (N := some 93) (v := undef) (a' := ?_) #[true, true, true, true, true, true, true, true, true, true, true, true, true, true, true, true, true, true, true, true, false, false] rfl rfl (by kernel_rfl) (fun _ _ _ h => h) (Or.inr ⟨by rfl, rfl⟩) ?_ ?_
  rotate_left
  · simp only [Act.put, List.setIfInBounds_toArray, List.set_cons_zero, List.set_cons_succ, i64_w, i32_w]
    rfl
  refine pure_ (i := 20) (N := some 94) (v := undef) (a' := ?_) #[true, true, true, true, true, true, true, true, true, true, true, true, true, true, true, true, true, true, true, true, true, false] rfl rfl (by kernel_rfl) (fun _ _ _ h => h) (Or.inr ⟨by rfl, rfl⟩) ?_ ?_
  rotate_left
  · simp only [Act.put, List.setIfInBounds_toArray, List.set_cons_zero, List.set_cons_succ, i64_w, i32_w]
    rfl
  refine pure_ (i := 21) (N := some 95) (v := ?_) (a' := ?_) #[true, true, true, true, true, true, true, true, true, true, true, true, true, true, true, true, true, true, true, true, true, true] rfl rfl (by kernel_rfl) (fun _ _ _ h => h) (Or.inl ⟨by rfl, ?_⟩) ?_ ?_
  rotate_left
  · intro w'
    go_simp
    with_reducible rfl
  rotate_left
  · simp only [Act.put, List.setIfInBounds_toArray, List.set_cons_zero, List.set_cons_succ, i64_w, i32_w]
    rfl
  refine done_ (by kernel_rfl) ?_
  have kn := hHeld.2.2.2.2.2.2
  clear hHeld kd
  go_wp2
  go_ret
  exact ⟨rfl, kn.out.here.2.2.2.2.2.2.2.2.2⟩
set_option maxHeartbeats 8000000 in
set_option maxRecDepth 100000 in
theorem back_n2 (n m : Nat) (A : Option Addr) (c : Nat) (bd : Addr) (d : Nat) (L : LG) (tk k ai aK : Int) (S : Nat → Prop) (w : World) (h : Aside0 (LV S n m A c (some bd) d L w)) (ha0 : Aside0 (-9223372036854775808 ≤ aK ∧ aK ≤ 9223372036854775807)) (hm0 : ((m : Int) == 0) = false) (hm1 : ¬ (m : Int) = 0) (hwk : IntKind.i64.wrap tk = tk) (hrem : IntKind.i64.wrap (tk.tmod m) = k) (hrem2 : tk.tmod m = k) (L1 L2 : LG) (k1 k2 : Int) (ad : Addr) (cr : Nat) (y : Int) (hc1 : Aside0 (w.cell? (bd.add k.toNat) = some (.slice (some ad) n cr))) (hc2 : Aside0 (w.cell? (ad.add ai.toNat) = some (.int .i64 y))) (kb0 : 0 ≤ k) (kb1 : k < m) (ib0 : 0 ≤ ai) (ib1 : ai < n) (hy : decide (y < 0) = false) (hy2 : decide (y > 1000000000000) = true) (h1 : Aside0 (resS n m L k ai aK = (L1, k1, 0))) (h2 : Aside0 (someS n m L k ai aK = (L2, k2, 0))) :
    Calls Try.prog 8 #[.agg #[.slice A n c, .slice (some bd) m d], .int .u8 tk, .agg #[.int .i64 ai, .int .i64 aK]] w fun e w' => e = .returned (.bool true) ∧ Below w.heap.size w w' := by
  go_enter Try.func8, Try.ntmps8
  go_upto_region 1 with (fail)
  have kn := Aside0.mk (Kn.cons h.out.kn (tb_kn (Below.refl w.heap.size w)))
  replace kn := Aside0.mk (Kn.cons (cell_kn hc1.out) kn.out)
  replace kn := Aside0.mk (Kn.cons (cell_kn hc2.out) kn.out)
  replace kn := Aside0.mk (Kn.cons (Bx.new (w) (.slice A n c) (.slice (some bd) m d) 25).kn (kn.out.step (bal (w) (.cells #[.slice A n c, .slice (some bd) m d] 25))))
  replace kn := Aside0.mk (Kn.cons (Bx.new ((w).alloc (.cells #[.slice A n c, .slice (some bd) m d] 25)) (.int .i64 ai) (.int .i64 aK) 27).kn (kn.out.step (bal ((w).alloc (.cells #[.slice A n c, .slice (some bd) m d] 25)) (.cells #[.int .i64 ai, .int .i64 aK] 27))))
  simp only [World.size_alloc] at kn
  generalize ((w).alloc (.cells #[.slice A n c, .slice (some bd) m d] 25)).alloc (.cells #[.int .i64 ai, .int .i64 aK] 27) = W0 at kn ⊢
  generalize w.heap.size + 1 = bp at kn ⊢
  generalize hz : w.heap.size = bl at kn ⊢
  clear hz
  have yl0 := kn.out.here.2.1.k0
  have yl1 := kn.out.here.2.1.k1
  go_upto_region 3 with (first | (go_at_call 10; (with_reducible refine (fine_lv (kn.out.here.2.2.2.2.1)).mono ?_); rintro e wf ⟨rfl, hb⟩; have kf := Aside0.mk (kn.out.step hb); clear hb kn; have zl0 := kf.out.here.2.1.k0; have zl1 := kf.out.here.2.1.k1) | (go_at_call 11; (with_reducible refine (shown_is _).mono ?_); rintro e wg ⟨rfl, hb⟩; have kn := Aside0.mk (kf.out.step hb); clear hb kf))
  clear yl0 yl1 zl0 zl1
  have yl0 := kn.out.here.2.1.k0
  have yl1 := kn.out.here.2.1.k1
  go_upto_region 4 with (fail)
  clear yl0 yl1
  have yl0 := kn.out.here.2.1.k0
  have yl1 := kn.out.here.2.1.k1
  have yp0 := kn.out.here.1.k0
  have yp1 := kn.out.here.1.k1
  go_upto_region 5 with (first | (go_at_call 13; (with_reducible refine (reserve_is n m A c (some bd) d L k ai aK S _ ⟨kn.out.here.2.2.2.2.1⟩ ha0 L1 k1 0 h1.out).mono ?_); rintro e w1 ⟨S1, A1, c1, B1, d1, rfl, hl, hS, hb⟩; replace hb := Aside0.mk hb; replace hl := Aside0.mk hl))
  clear yl0 yl1 yp0 yp1
  replace kn := Aside0.mk (Kn.cons (Bx.new w1 (.slice A1 n c1) (.slice B1 m d1) 25).kn (Kn.cons (hl.out.below (bal w1 (.cells #[.slice A1 n c1, .slice B1 m d1] 25))).kn (kn.out.step (hb.out.alloc hb.out.size (.cells #[.slice A1 n c1, .slice B1 m d1] 25)))))
  clear hb hl
  generalize w1.alloc (.cells #[.slice A1 n c1, .slice B1 m d1] 25) = W1 at kn ⊢
  generalize w1.heap.size = b1 at kn ⊢
  have yl0 := kn.out.here.2.2.2.1.k0
  have yl1 := kn.out.here.2.2.2.1.k1
  have yp0 := kn.out.here.2.2.1.k0
  have yp1 := kn.out.here.2.2.1.k1
  go_upto_region 6 with (first | (go_at_call 15; (with_reducible refine (some_is n m A c (some bd) d L k ai aK S _ ⟨kn.out.here.2.2.2.2.2.2.1⟩ ha0 L2 k2 0 h2.out).mono ?_); rintro e w2 ⟨S2, A2, c2, B2, d2, rfl, hl, hS, hb⟩; replace hb := Aside0.mk hb; replace hl := Aside0.mk hl))
  clear yl0 yl1 yp0 yp1
  replace kn := Aside0.mk (Kn.cons (Bx.new w2 (.slice A2 n c2) (.slice B2 m d2) 25).kn (Kn.cons (hl.out.below (bal w2 (.cells #[.slice A2 n c2, .slice B2 m d2] 25))).kn (kn.out.step (hb.out.alloc hb.out.size (.cells #[.slice A2 n c2, .slice B2 m d2] 25)))))
  clear hb hl
  generalize w2.alloc (.cells #[.slice A2 n c2, .slice B2 m d2] 25) = W2 at kn ⊢
  generalize w2.heap.size = b2 at kn ⊢
  go_upto_region 8 with (fail)
  have kd := Aside0.mk (kn.out.step (below_drew1 (Below.refl W2.heap.size W2)))
  clear kn
  refine start_ (n := 22) (S := fun w' => w'.cell? ⟨bl, 0, none⟩ = some (.slice A n c) ∧ w'.cell? ⟨bl, 1, none⟩ = some (.slice (some bd) m d) ∧ w'.cell? ⟨bp, 0, none⟩ = some (.int .i64 ai) ∧ w'.cell? ⟨bp, 1, none⟩ = some (.int .i64 aK) ∧ w'.cell? (bd.add k.toNat) = some (.slice (some ad) n cr) ∧ w'.cell? (ad.add ai.toNat) = some (.int .i64 y) ∧ Aside0 (Kn (fun W => Bx b2 (.slice A2 n c2) (.slice B2 m d2) W ∧ LV S2 n m A2 c2 B2 d2 L2 W ∧ Bx b1 (.slice A1 n c1) (.slice B1 m d1) W ∧ LV S1 n m A1 c1 B1 d1 L1 W ∧ Bx bp (.int .i64 ai) (.int .i64 aK) W ∧ Bx bl (.slice A n c) (.slice (some bd) m d) W ∧ W.cell? (ad.add ai.toNat) = some (.int .i64 y) ∧ W.cell? (bd.add k.toNat) = some (.slice (some ad) n cr) ∧ LV S n m A c (some bd) d L W ∧ Tb w W) w')) (ds := []) #[false, false, false, false, false, false, false, false, false, false, false, false, false, false, false, false, false, false, false, false, false, false] (by kernel_rfl) rfl rfl ⟨kd.out.here.2.2.2.2.2.1.k0, kd.out.here.2.2.2.2.2.1.k1, kd.out.here.2.2.2.2.1.k0, kd.out.here.2.2.2.2.1.k1, kd.out.here.2.2.2.2.2.2.2.1, kd.out.here.2.2.2.2.2.2.1, kd⟩ (fun hHeld => ?_)
  generalize W2.drew = V2 at kd hHeld ⊢
  refine pure_ (i := 0) (N := some 74) (v := ?_) (a' := ?_) #[true, false, false, false, false, false, false, false, false, false, false, false, false, false, false, false, false, false, false, false, false, false] rfl rfl (by kernel_rfl) (fun _ _ _ h => h) (Or.inl ⟨by rfl, ?_⟩) ?_ ?_
  rotate_left
  · intro w'
    go_simp
    with_reducible rfl
  rotate_left
  · simp only [Act.put, List.setIfInBounds_toArray, List.set_cons_zero, List.set_cons_succ, i64_w, i32_w]
    rfl
  refine pure_ (i := 2) (N := some 76) (v := ?_) (a' := ?_) #[true, false, true, false, false, false, false, false, false, false, false, false, false, false, false, false, false, false, false, false, false, false] rfl rfl (by kernel_rfl) (fun _ _ _ h => h) (Or.inl ⟨by rfl, ?_⟩) ?_ ?_
  rotate_left
  · intro w'
    go_simp
    with_reducible rfl
  rotate_left
  · simp only [Act.put, List.setIfInBounds_toArray, List.set_cons_zero, List.set_cons_succ, i64_w, i32_w]
    rfl
  refine pure_ (i := 5) (N := some 79) (v := ?_) (a' := ?_) #[true, false, true, false, false, true, false, false, false, false, false, false, false, false, false, false, false, false, false, false, false, false] rfl rfl (by kernel_rfl) (fun _ _ _ h => h) (Or.inl ⟨by rfl, ?_⟩) ?_ ?_
  rotate_left
  · intro w'
    go_simp
    with_reducible rfl
  rotate_left
  · simp only [Act.put, List.setIfInBounds_toArray, List.set_cons_zero, List.set_cons_succ, i64_w, i32_w]
    rfl
  refine take_ (i := 1) (N := some 75) (v := ?_) (a' := ?_) #[true, true, true, false, false, true, false, false, false, false, false, false, false, false, false, false, false, false, false, false, false, false] rfl rfl (by kernel_rfl) (fun _ _ _ h => h) (Or.inl ⟨by rfl, ?_⟩) hHeld ?_ ?_
  rotate_left
  · rintro w' ⟨s0, s1, s2, s3, s4, s5, s6⟩
    go_simp
    with_reducible rfl
  rotate_left
  · simp only [Act.put, List.setIfInBounds_toArray, List.set_cons_zero, List.set_cons_succ, i64_w, i32_w]
    rfl
  refine pure_ (i := 3) (N := some 77) (v := ?_) (a' := ?_) #[true, true, true, true, false, true, false, false, false, false, false, false, false, false, false, false, false, false, false, false, false, false] rfl rfl (by kernel_rfl) (fun _ _ _ h => h) (Or.inl ⟨by rfl, ?_⟩) ?_ ?_
  rotate_left
  · intro w'
    go_simp
    with_reducible rfl
  rotate_left
  · simp only [Act.put, List.setIfInBounds_toArray, List.set_cons_zero, List.set_cons_succ, i64_w, i32_w]
    rfl
  refine take_ (i := 4) (N := some 78) (v := ?_) (a' := ?_) #[true, true, true, true, true, true, false, false, false, false, false, false, false, false, false, false, false, false, false, false, false, false] rfl rfl (by kernel_rfl) (fun _ _ _ h => h) (Or.inl ⟨by rfl, ?_⟩) hHeld ?_ ?_
  rotate_left
  · rintro w' ⟨s0, s1, s2, s3, s4, s5, s6⟩
    go_simp
    with_reducible rfl
  rotate_left
  · simp only [Act.put, List.setIfInBounds_toArray, List.set_cons_zero, List.set_cons_succ, i64_w, i32_w]
    rfl
  refine take_ (i := 6) (N := some 80) (v := ?_) (a' := ?_) #[true, true, true, true, true, true, true, false, false, false, false, false, false, false, false, false, false, false, false, false, false, false] rfl rfl (by kernel_rfl) (fun _ _ _ h => h) (Or.inl ⟨by rfl, ?_⟩) hHeld ?_ ?_
  rotate_left
  · rintro w' ⟨s0, s1, s2, s3, s4, s5, s6⟩
    go_simp
    with_reducible rfl
  rotate_left
  · simp only [Act.put, List.setIfInBounds_toArray, List.set_cons_zero, List.set_cons_succ, i64_w, i32_w]
    rfl
  refine pure_ (i := 7) (N := some 81) (v := ?_) (a' := ?_) #[true, true, true, true, true, true, true, true, false, false, false, false, false, false, false, false, false, false, false, false, false, false] rfl rfl (by kernel_rfl) (fun _ _ _ h => h) (Or.inl ⟨by rfl, ?_⟩) ?_ ?_
  rotate_left
  · intro w'
    go_simp
    with_reducible rfl
  rotate_left
  · simp only [Act.put, List.setIfInBounds_toArray, List.set_cons_zero, List.set_cons_succ, i64_w, i32_w]
    rfl
  refine take_ (i := 8) (N := some 82) (v := ?_) (a' := ?_) #[true, true, true, true, true, true, true, true, true, false, false, false, false, false, false, false, false, false, false, false, false, false] rfl rfl (by kernel_rfl) (fun _ _ _ h => h) (Or.inl ⟨by rfl, ?_⟩) hHeld ?_ ?_
  rotate_left
  · rintro w' ⟨s0, s1, s2, s3, s4, s5, s6⟩
    go_simp
    with_reducible rfl
  rotate_left
  · simp only [Act.put, List.setIfInBounds_toArray, List.set_cons_zero, List.set_cons_succ, i64_w, i32_w]
    rfl
  refine pure_ (i := 9) (N := some 83) (v := ?_) (a' := ?_) #[true, true, true, true, true, true, true, true, true, true, false, false, false, false, false, false, false, false, false, false, false, false] rfl rfl (by kernel_rfl) (fun _ _ _ h => h) (Or.inl ⟨by rfl, ?_⟩) ?_ ?_
  rotate_left
  · intro w'
    go_simp
    with_reducible rfl
  rotate_left
  · simp only [Act.put, List.setIfInBounds_toArray, List.set_cons_zero, List.set_cons_succ, i64_w, i32_w]
    rfl
  refine pure_ (i := 10) (N := some 84) (v := ?_) (a' := ?_) #[true, true, true, true, true, true, true, true, true, true, true, false, false, false, false, false, false, false, false, false, false, false] rfl rfl (by kernel_rfl) (fun _ _ _ h => h) (Or.inl ⟨by rfl, ?_⟩) ?_ ?_
  rotate_left
  · intro w'
    go_simp
    with_reducible rfl
  rotate_left
  · simp only [Act.put, List.setIfInBounds_toArray, List.set_cons_zero, List.set_cons_succ, i64_w, i32_w]
    rfl
  refine pure_ (i := 11) (N := some 85) (v := ?_) (a' := ?_) #[true, true, true, true, true, true, true, true, true, true, true, true, false, false, false, false, false, false, false, false, false, false] rfl rfl (by kernel_rfl) (fun _ _ _ h => h) (Or.inl ⟨by rfl, ?_⟩) ?_ ?_
  rotate_left
  · intro w'
    go_simp
    with_reducible rfl
  rotate_left
  · simp only [Act.put, List.setIfInBounds_toArray, List.set_cons_zero, List.set_cons_succ, i64_w, i32_w]
    rfl
  refine pure_ (i := 13) (N := some 87) (v := ?_) (a' := ?_) #[true, true, true, true, true, true, true, true, true, true, true, true, false, true, false, false, false, false, false, false, false, false] rfl rfl (by kernel_rfl) (fun _ _ _ h => h) (Or.inl ⟨by rfl, ?_⟩) ?_ ?_
  rotate_left
  · intro w'
    go_simp
    with_reducible rfl
  rotate_left
  · simp only [Act.put, List.setIfInBounds_toArray, List.set_cons_zero, List.set_cons_succ, i64_w, i32_w]
    rfl
  refine pure_ (i := 16) (N := some 90) (v := ?_) (a' := ?_) #[true, true, true, true, true, true, true, true, true, true, true, true, false, true, false, false, true, false, false, false, false, false] rfl rfl (by kernel_rfl) (fun _ _ _ h => h) (Or.inl ⟨by rfl, ?_⟩) ?_ ?_
  rotate_left
  · intro w'
    go_simp
    with_reducible rfl
  rotate_left
  · simp only [Act.put, List.setIfInBounds_toArray, List.set_cons_zero, List.set_cons_succ, i64_w, i32_w]
    rfl
  refine take_ (i := 12) (N := some 86) (v := ?_) (a' := ?_) #[true, true, true, true, true, true, true, true, true, true, true, true, true, true, false, false, true, false, false, false, false, false] rfl rfl (by kernel_rfl) (fun _ _ _ h => h) (Or.inl ⟨by rfl, ?_⟩) hHeld ?_ ?_
  rotate_left
  · rintro w' ⟨s0, s1, s2, s3, s4, s5, s6⟩
    go_simp
    with_reducible rfl
  rotate_left
  · simp only [Act.put, List.setIfInBounds_toArray, List.set_cons_zero, List.set_cons_succ, i64_w, i32_w]
    rfl
  refine pure_ (i := 14) (N := some 88) (v := ?_) (a' := ?_) #[true, true, true, true, true, true, true, true, true, true, true, true, true, true, true, false, true, false, false, false, false, false] rfl rfl (by kernel_rfl) (fun _ _ _ h => h) (Or.inl ⟨by rfl, ?_⟩) ?_ ?_
  rotate_left
  · intro w'
    go_simp
    with_reducible rfl
  rotate_left
  · simp only [Act.put, List.setIfInBounds_toArray, List.set_cons_zero, List.set_cons_succ, i64_w, i32_w]
    rfl
  refine take_ (i := 15) (N := some 89) (v := ?_) (a' := ?_) #[true, true, true, true, true, true, true, true, true, true, true, true, true, true, true, true, true, false, false, false, false, false] rfl rfl (by kernel_rfl) (fun _ _ _ h => h) (Or.inl ⟨by rfl, ?_⟩) hHeld ?_ ?_
  rotate_left
  · rintro w' ⟨s0, s1, s2, s3, s4, s5, s6⟩
    go_simp
    with_reducible rfl
  rotate_left
  · simp only [Act.put, List.setIfInBounds_toArray, List.set_cons_zero, List.set_cons_succ, i64_w, i32_w]
    rfl
  refine take_ (i := 17) (N := some 91) (v := ?_) (a' := ?_) #[true, true, true, true, true, true, true, true, true, true, true, true, true, true, true, true, true, true, false, false, false, false] rfl rfl (by kernel_rfl) (fun _ _ _ h => h) (Or.inl ⟨by rfl, ?_⟩) hHeld ?_ ?_
  rotate_left
  · rintro w' ⟨s0, s1, s2, s3, s4, s5, s6⟩
    go_simp
    with_reducible rfl
  rotate_left
  · simp only [Act.put, List.setIfInBounds_toArray, List.set_cons_zero, List.set_cons_succ, i64_w, i32_w]
    rfl
  refine pure_ (i := 18) (N := some 92) (v := ?_) (a' := ?_) #[true, true, true, true, true, true, true, true, true, true, true, true, true, true, true, true, true, true, true, false, false, false] rfl rfl (by kernel_rfl) (fun _ _ _ h => h) (Or.inl ⟨by rfl, ?_⟩) ?_ ?_
  rotate_left
  · intro w'
    go_simp
    with_reducible rfl
  rotate_left
  · simp only [Act.put, List.setIfInBounds_toArray, List.set_cons_zero, List.set_cons_succ, i64_w, i32_w]
    rfl
  refine take_ (i := 19) (N := some 93) (v := ?_) (a' := ?_) #[true, true, true, true, true, true, true, true, true, true, true, true, true, true, true, true, true, true, true, true, false, false] rfl rfl (by kernel_rfl) (fun _ _ _ h => h) (Or.inl ⟨by rfl, ?_⟩) hHeld ?_ ?_
  rotate_left
  · rintro w' ⟨s0, s1, s2, s3, s4, s5, s6⟩
    go_simp
    with_reducible rfl
  rotate_left
  · simp only [Act.put, List.setIfInBounds_toArray, List.set_cons_zero, List.set_cons_succ, i64_w, i32_w]
    rfl
  refine pure_ (i := 20) (N := some 94) (v := ?_) (a' := ?_) #[true, true, true, true, true, true, true, true, true, true, true, true, true, true, true, true, true, true, true, true, true, false] rfl rfl (by kernel_rfl) (fun _ _ _ h => h) (Or.inl ⟨by rfl, ?_⟩) ?_ ?_
  rotate_left
  · intro w'
    go_simp
    with_reducible rfl
  rotate_left
  · simp only [Act.put, List.setIfInBounds_toArray, List.set_cons_zero, List.set_cons_succ, i64_w, i32_w]
    rfl
  refine pure_ (i := 21) (N := some 95) (v := ?_) (a' := ?_) #[true, true, true, true, true, true, true, true, true, true, true, true, true, true, true, true, true, true, true, true, true, true] rfl rfl (by kernel_rfl) (fun _ _ _ h => h) (Or.inl ⟨by rfl, ?_⟩) ?_ ?_
  rotate_left
  · intro w'
    go_simp
    with_reducible rfl
  rotate_left
  · simp only [Act.put, List.setIfInBounds_toArray, List.set_cons_zero, List.set_cons_succ, i64_w, i32_w]
    rfl
  refine done_ (by kernel_rfl) ?_
  have kn := hHeld.2.2.2.2.2.2
  clear hHeld kd
  go_wp2
  go_ret
  exact ⟨rfl, kn.out.here.2.2.2.2.2.2.2.2.2⟩
set_option maxHeartbeats 8000000 in
set_option maxRecDepth 100000 in
theorem back_g1 (n m : Nat) (A : Option Addr) (c : Nat) (bd : Addr) (d : Nat) (L : LG) (tk k ai aK : Int) (S : Nat → Prop) (w : World) (h : Aside0 (LV S n m A c (some bd) d L w)) (ha0 : Aside0 (-9223372036854775808 ≤ aK ∧ aK ≤ 9223372036854775807)) (hm0 : ((m : Int) == 0) = false) (hm1 : ¬ (m : Int) = 0) (hwk : IntKind.i64.wrap tk = tk) (hrem : IntKind.i64.wrap (tk.tmod m) = k) (hrem2 : tk.tmod m = k) (L1 L2 L3 : LG) (k1 k2 k3 e3 : Int) (ad : Addr) (cr : Nat) (y : Int) (hc1 : Aside0 (w.cell? (bd.add k.toNat) = some (.slice (some ad) n cr))) (hc2 : Aside0 (w.cell? (ad.add ai.toNat) = some (.int .i64 y))) (kb0 : 0 ≤ k) (kb1 : k < m) (ib0 : 0 ≤ ai) (ib1 : ai < n) (hy : decide (y < 0) = false) (hy2 : decide (y > 1000000000000) = false)  (h1 : Aside0 (resS n m L k ai aK = (L1, 0, 0))) (h2 : Aside0 (someS n m L k ai aK = (L2, 0, 0))) (h3 : Aside0 (relS n m L1 k ai aK = (L3, k3, e3))) :
    Calls Try.prog 8 #[.agg #[.slice A n c, .slice (some bd) m d], .int .u8 tk, .agg #[.int .i64 ai, .int .i64 aK]] w fun e w' => e = .returned (.bool true) ∧ Below w.heap.size w w' := by
  go_enter Try.func8, Try.ntmps8
  go_upto_region 1 with (fail)
  have kn := Aside0.mk (Kn.cons h.out.kn (tb_kn (Below.refl w.heap.size w)))
  replace kn := Aside0.mk (Kn.cons (cell_kn hc1.out) kn.out)
  replace kn := Aside0.mk (Kn.cons (cell_kn hc2.out) kn.out)
  replace kn := Aside0.mk (Kn.cons (Bx.new (w) (.slice A n c) (.slice (some bd) m d) 25).kn (kn.out.step (bal (w) (.cells #[.slice A n c, .slice (some bd) m d] 25))))
  replace kn := Aside0.mk (Kn.cons (Bx.new ((w).alloc (.cells #[.slice A n c, .slice (some bd) m d] 25)) (.int .i64 ai) (.int .i64 aK) 27).kn (kn.out.step (bal ((w).alloc (.cells #[.slice A n c, .slice (some bd) m d] 25)) (.cells #[.int .i64 ai, .int .i64 aK] 27))))
  simp only [World.size_alloc] at kn
  generalize ((w).alloc (.cells #[.slice A n c, .slice (some bd) m d] 25)).alloc (.cells #[.int .i64 ai, .int .i64 aK] 27) = W0 at kn ⊢
  generalize w.heap.size + 1 = bp at kn ⊢
  generalize hz : w.heap.size = bl at kn ⊢
  clear hz
  have yl0 := kn.out.here.2.1.k0
  have yl1 := kn.out.here.2.1.k1
  go_upto_region 3 with (first | (go_at_call 10; (with_reducible refine (fine_lv (kn.out.here.2.2.2.2.1)).mono ?_); rintro e wf ⟨rfl, hb⟩; have kf := Aside0.mk (kn.out.step hb); clear hb kn; have zl0 := kf.out.here.2.1.k0; have zl1 := kf.out.here.2.1.k1) | (go_at_call 11; (with_reducible refine (shown_is _).mono ?_); rintro e wg ⟨rfl, hb⟩; have kn := Aside0.mk (kf.out.step hb); clear hb kf))
  clear yl0 yl1 zl0 zl1
  have yl0 := kn.out.here.2.1.k0
  have yl1 := kn.out.here.2.1.k1
  go_upto_region 4 with (fail)
  clear yl0 yl1
  have yl0 := kn.out.here.2.1.k0
  have yl1 := kn.out.here.2.1.k1
  have yp0 := kn.out.here.1.k0
  have yp1 := kn.out.here.1.k1
  go_upto_region 5 with (first | (go_at_call 13; (with_reducible refine (reserve_is n m A c (some bd) d L k ai aK S _ ⟨kn.out.here.2.2.2.2.1⟩ ha0 L1 0 0 h1.out).mono ?_); rintro e w1 ⟨S1, A1, c1, B1, d1, rfl, hl, hS, hb⟩; replace hb := Aside0.mk hb; replace hl := Aside0.mk hl))
  clear yl0 yl1 yp0 yp1
  replace kn := Aside0.mk (Kn.cons (Bx.new w1 (.slice A1 n c1) (.slice B1 m d1) 25).kn (Kn.cons (hl.out.below (bal w1 (.cells #[.slice A1 n c1, .slice B1 m d1] 25))).kn (kn.out.step (hb.out.alloc hb.out.size (.cells #[.slice A1 n c1, .slice B1 m d1] 25)))))
  clear hb hl
  generalize w1.alloc (.cells #[.slice A1 n c1, .slice B1 m d1] 25) = W1 at kn ⊢
  generalize w1.heap.size = b1 at kn ⊢
  have yl0 := kn.out.here.2.2.2.1.k0
  have yl1 := kn.out.here.2.2.2.1.k1
  have yp0 := kn.out.here.2.2.1.k0
  have yp1 := kn.out.here.2.2.1.k1
  go_upto_region 6 with (first | (go_at_call 15; (with_reducible refine (some_is n m A c (some bd) d L k ai aK S _ ⟨kn.out.here.2.2.2.2.2.2.1⟩ ha0 L2 0 0 h2.out).mono ?_); rintro e w2 ⟨S2, A2, c2, B2, d2, rfl, hl, hS, hb⟩; replace hb := Aside0.mk hb; replace hl := Aside0.mk hl))
  clear yl0 yl1 yp0 yp1
  replace kn := Aside0.mk (Kn.cons (Bx.new w2 (.slice A2 n c2) (.slice B2 m d2) 25).kn (Kn.cons (hl.out.below (bal w2 (.cells #[.slice A2 n c2, .slice B2 m d2] 25))).kn (kn.out.step (hb.out.alloc hb.out.size (.cells #[.slice A2 n c2, .slice B2 m d2] 25)))))
  clear hb hl
  generalize w2.alloc (.cells #[.slice A2 n c2, .slice B2 m d2] 25) = W2 at kn ⊢
  generalize w2.heap.size = b2 at kn ⊢
  go_upto_region 8 with (fail)
  have kd := Aside0.mk (kn.out.step (below_drew1 (Below.refl W2.heap.size W2)))
  clear kn
  refine start_ (n := 22) (S := fun w' => w'.cell? ⟨bl, 0, none⟩ = some (.slice A n c) ∧ w'.cell? ⟨bl, 1, none⟩ = some (.slice (some bd) m d) ∧ w'.cell? ⟨bp, 0, none⟩ = some (.int .i64 ai) ∧ w'.cell? ⟨bp, 1, none⟩ = some (.int .i64 aK) ∧ w'.cell? (bd.add k.toNat) = some (.slice (some ad) n cr) ∧ w'.cell? (ad.add ai.toNat) = some (.int .i64 y) ∧ Aside0 (Kn (fun W => Bx b2 (.slice A2 n c2) (.slice B2 m d2) W ∧ LV S2 n m A2 c2 B2 d2 L2 W ∧ Bx b1 (.slice A1 n c1) (.slice B1 m d1) W ∧ LV S1 n m A1 c1 B1 d1 L1 W ∧ Bx bp (.int .i64 ai) (.int .i64 aK) W ∧ Bx bl (.slice A n c) (.slice (some bd) m d) W ∧ W.cell? (ad.add ai.toNat) = some (.int .i64 y) ∧ W.cell? (bd.add k.toNat) = some (.slice (some ad) n cr) ∧ LV S n m A c (some bd) d L W ∧ Tb w W) w')) (ds := []) #[false, false, false, false, false, false, false, false, false, false, false, false, false, false, false, false, false, false, false, false, false, false] (by kernel_rfl) rfl rfl ⟨kd.out.here.2.2.2.2.2.1.k0, kd.out.here.2.2.2.2.2.1.k1, kd.out.here.2.2.2.2.1.k0, kd.out.here.2.2.2.2.1.k1, kd.out.here.2.2.2.2.2.2.2.1, kd.out.here.2.2.2.2.2.2.1, kd⟩ (fun hHeld => ?_)
  generalize W2.drew = V2 at kd hHeld ⊢
  refine pure_ (i := 0) (N := some 74) (v := ?_) (a' := ?_) #[true, false, false, false, false, false, false, false, false, false, false, false, false, false, false, false, false, false, false, false, false, false] rfl rfl (by kernel_rfl) (fun _ _ _ h => h) (Or.inl ⟨by rfl, ?_⟩) ?_ ?_
  rotate_left
  · intro w'
    go_simp
    with_reducible rfl
  rotate_left
  · simp only [Act.put, List.setIfInBounds_toArray, List.set_cons_zero, List.set_cons_succ, i64_w, i32_w]
    rfl
  refine pure_ (i := 2) (N := some 76) (v := ?_) (a' := ?_) #[true, false, true, false, false, false, false, false, false, false, false, false, false, false, false, false, false, false, false, false, false, false] rfl rfl (by kernel_rfl) (fun _ _ _ h => h) (Or.inl ⟨by rfl, ?_⟩) ?_ ?_
  rotate_left
  · intro w'
    go_simp
    with_reducible rfl
  rotate_left
  · simp only [Act.put, List.setIfInBounds_toArray, List.set_cons_zero, List.set_cons_succ, i64_w, i32_w]
    rfl
  refine pure_ (i := 5) (N := some 79) (v := ?_) (a' := ?_) #[true, false, true, false, false, true, false, false, false, false, false, false, false, false, false, false, false, false, false, false, false, false] rfl rfl (by kernel_rfl) (fun _ _ _ h => h) (Or.inl ⟨by rfl, ?_⟩) ?_ ?_
  rotate_left
  · intro w'
    go_simp
    with_reducible rfl
  rotate_left
  · simp only [Act.put, List.setIfInBounds_toArray, List.set_cons_zero, List.set_cons_succ, i64_w, i32_w]
    rfl
  refine take_ (i := 1) (N := some 75) (v := ?_) (a' := ?_) #[true, true, true, false, false, true, false, false, false, false, false, false, false, false, false, false, false, false, false, false, false, false] rfl rfl (by kernel_rfl) (fun _ _ _ h => h) (Or.inl ⟨by rfl, ?_⟩) hHeld ?_ ?_
  rotate_left
  · rintro w' ⟨s0, s1, s2, s3, s4, s5, s6⟩
    go_simp
    with_reducible rfl
  rotate_left
  · simp only [Act.put, List.setIfInBounds_toArray, List.set_cons_zero, List.set_cons_succ, i64_w, i32_w]
    rfl
  refine pure_ (i := 3) (N := some 77) (v := ?_) (a' := ?_) #[true, true, true, true, false, true, false, false, false, false, false, false, false, false, false, false, false, false, false, false, false, false] rfl rfl (by kernel_rfl) (fun _ _ _ h => h) (Or.inl ⟨by rfl, ?_⟩) ?_ ?_
  rotate_left
  · intro w'
    go_simp
    with_reducible rfl
  rotate_left
  · simp only [Act.put, List.setIfInBounds_toArray, List.set_cons_zero, List.set_cons_succ, i64_w, i32_w]
    rfl
  refine take_ (i := 4) (N := some 78) (v := ?_) (a' := ?_) #[true, true, true, true, true, true, false, false, false, false, false, false, false, false, false, false, false, false, false, false, false, false] rfl rfl (by kernel_rfl) (fun _ _ _ h => h) (Or.inl ⟨by rfl, ?_⟩) hHeld ?_ ?_
  rotate_left
  · rintro w' ⟨s0, s1, s2, s3, s4, s5, s6⟩
    go_simp
    with_reducible rfl
  rotate_left
  · simp only [Act.put, List.setIfInBounds_toArray, List.set_cons_zero, List.set_cons_succ, i64_w, i32_w]
    rfl
  refine take_ (i := 6) (N := some 80) (v := ?_) (a' := ?_) #[true, true, true, true, true, true, true, false, false, false, false, false, false, false, false, false, false, false, false, false, false, false] rfl rfl (by kernel_rfl) (fun _ _ _ h => h) (Or.inl ⟨by rfl, ?_⟩) hHeld ?_ ?_
  rotate_left
  · rintro w' ⟨s0, s1, s2, s3, s4, s5, s6⟩
    go_simp
    with_reducible rfl
  rotate_left
  · simp only [Act.put, List.setIfInBounds_toArray, List.set_cons_zero, List.set_cons_succ, i64_w, i32_w]
    rfl
  refine pure_ (i := 7) (N := some 81) (v := ?_) (a' := ?_) #[true, true, true, true, true, true, true, true, false, false, false, false, false, false, false, false, false, false, false, false, false, false] rfl rfl (by kernel_rfl) (fun _ _ _ h => h) (Or.inl ⟨by rfl, ?_⟩) ?_ ?_
  rotate_left
  · intro w'
    go_simp
    with_reducible rfl
  rotate_left
  · simp only [Act.put, List.setIfInBounds_toArray, List.set_cons_zero, List.set_cons_succ, i64_w, i32_w]
    rfl
  refine take_ (i := 8) (N := some 82) (v := ?_) (a' := ?_) #[true, true, true, true, true, true, true, true, true, false, false, false, false, false, false, false, false, false, false, false, false, false] rfl rfl (by kernel_rfl) (fun _ _ _ h => h) (Or.inl ⟨by rfl, ?_⟩) hHeld ?_ ?_
  rotate_left
  · rintro w' ⟨s0, s1, s2, s3, s4, s5, s6⟩
    go_simp
    with_reducible rfl
  rotate_left
  · simp only [Act.put, List.setIfInBounds_toArray, List.set_cons_zero, List.set_cons_succ, i64_w, i32_w]
    rfl
  refine pure_ (i := 9) (N := some 83) (v := ?_) (a' := ?_) #[true, true, true, true, true, true, true, true, true, true, false, false, false, false, false, false, false, false, false, false, false, false] rfl rfl (by kernel_rfl) (fun _ _ _ h => h) (Or.inl ⟨by rfl, ?_⟩) ?_ ?_
  rotate_left
  · intro w'
    go_simp
    with_reducible rfl
  rotate_left
  · simp only [Act.put, List.setIfInBounds_toArray, List.set_cons_zero, List.set_cons_succ, i64_w, i32_w]
    rfl
  refine pure_ (i := 10) (N := some 84) (v := ?_) (a' := ?_) #[true, true, true, true, true, true, true, true, true, true, true, false, false, false, false, false, false, false, false, false, false, false] rfl rfl (by kernel_rfl) (fun _ _ _ h => h) (Or.inl ⟨by rfl, ?_⟩) ?_ ?_
  rotate_left
  · intro w'
    go_simp
    with_reducible rfl
  rotate_left
  · simp only [Act.put, List.setIfInBounds_toArray, List.set_cons_zero, List.set_cons_succ, i64_w, i32_w]
    rfl
  refine pure_ (i := 11) (N := some 85) (v := ?_) (a' := ?_) #[true, true, true, true, true, true, true, true, true, true, true, true, false, false, false, false, false, false, false, false, false, false] rfl rfl (by kernel_rfl) (fun _ _ _ h => h) (Or.inl ⟨by rfl, ?_⟩) ?_ ?_
  rotate_left
  · intro w'
    go_simp
    with_reducible rfl
  rotate_left
  · simp only [Act.put, List.setIfInBounds_toArray, List.set_cons_zero, List.set_cons_succ, i64_w, i32_w]
    rfl
  refine pure_ (i := 13) (N := some 87) (v := ?_) (a' := ?_) #[true, true, true, true, true, true, true, true, true, true, true, true, false, true, false, false, false, false, false, false, false, false] rfl rfl (by kernel_rfl) (fun _ _ _ h => h) (Or.inl ⟨by rfl, ?_⟩) ?_ ?_
  rotate_left
  · intro w'
    go_simp
    with_reducible rfl
  rotate_left
  · simp only [Act.put, List.setIfInBounds_toArray, List.set_cons_zero, List.set_cons_succ, i64_w, i32_w]
    rfl
  refine pure_ (i := 16) (N := some 90) (v := ?_) (a' := ?_) #[true, true, true, true, true, true, true, true, true, true, true, true, false, true, false, false, true, false, false, false, false, false] rfl rfl (by kernel_rfl) (fun _ _ _ h => h) (Or.inl ⟨by rfl, ?_⟩) ?_ ?_
  rotate_left
  · intro w'
    go_simp
    with_reducible rfl
  rotate_left
  · simp only [Act.put, List.setIfInBounds_toArray, List.set_cons_zero, List.set_cons_succ, i64_w, i32_w]
    rfl
  refine take_ (i := 12) (N := some 86) (v := ?_) (a' := ?_) #[true, true, true, true, true, true, true, true, true, true, true, true, true, true, false, false, true, false, false, false, false, false] rfl rfl (by kernel_rfl) (fun _ _ _ h => h) (Or.inl ⟨by rfl, ?_⟩) hHeld ?_ ?_
  rotate_left
  · rintro w' ⟨s0, s1, s2, s3, s4, s5, s6⟩
    go_simp
    with_reducible rfl
  rotate_left
  · simp only [Act.put, List.setIfInBounds_toArray, List.set_cons_zero, List.set_cons_succ, i64_w, i32_w]
    rfl
  refine pure_ (i := 14) (N := some 88) (v := ?_) (a' := ?_) #[true, true, true, true, true, true, true, true, true, true, true, true, true, true, true, false, true, false, false, false, false, false] rfl rfl (by kernel_rfl) (fun _ _ _ h => h) (Or.inl ⟨by rfl, ?_⟩) ?_ ?_
  rotate_left
  · intro w'
    go_simp
    with_reducible rfl
  rotate_left
  · simp only [Act.put, List.setIfInBounds_toArray, List.set_cons_zero, List.set_cons_succ, i64_w, i32_w]
    rfl
  refine take_ (i := 15) (N := some 89) (v := ?_) (a' := ?_) #[true, true, true, true, true, true, true, true, true, true, true, true, true, true, true, true, true, false, false, false, false, false] rfl rfl (by kernel_rfl) (fun _ _ _ h => h) (Or.inl ⟨by rfl, ?_⟩) hHeld ?_ ?_
  rotate_left
  · rintro w' ⟨s0, s1, s2, s3, s4, s5, s6⟩
    go_simp
    with_reducible rfl
  rotate_left
  · simp only [Act.put, List.setIfInBounds_toArray, List.set_cons_zero, List.set_cons_succ, i64_w, i32_w]
    rfl
  refine take_ (i := 17) (N := some 91) (v := ?_) (a' := ?_) #[true, true, true, true, true, true, true, true, true, true, true, true, true, true, true, true, true, true, false, false, false, false] rfl rfl (by kernel_rfl) (fun _ _ _ h => h) (Or.inl ⟨by rfl, ?_⟩) hHeld ?_ ?_
  rotate_left
  · rintro w' ⟨s0, s1, s2, s3, s4, s5, s6⟩
    go_simp
    with_reducible rfl
  rotate_left
  · simp only [Act.put, List.setIfInBounds_toArray, List.set_cons_zero, List.set_cons_succ, i64_w, i32_w]
    rfl
  refine pure_ (i := 18) (N := some 92) (v := ?_) (a' := ?_) #[true, true, true, true, true, true, true, true, true, true, true, true, true, true, true, true, true, true, true, false, false, false] rfl rfl (by kernel_rfl) (fun _ _ _ h => h) (Or.inl ⟨by rfl, ?_⟩) ?_ ?_
  rotate_left
  · intro w'
    go_simp
    with_reducible rfl
  rotate_left
  · simp only [Act.put, List.setIfInBounds_toArray, List.set_cons_zero, List.set_cons_succ, i64_w, i32_w]
    rfl
  refine take_ (i := 19) (N := some 93) (v := ?_) (a' := ?_) #[true, true, true, true, true, true, true, true, true, true, true, true, true, true, true, true, true, true, true, true, false, false] rfl rfl (by kernel_rfl) (fun _ _ _ h => h) (Or.inl ⟨by rfl, ?_⟩) hHeld ?_ ?_
  rotate_left
  · rintro w' ⟨s0, s1, s2, s3, s4, s5, s6⟩
    go_simp
    with_reducible rfl
  rotate_left
  · simp only [Act.put, List.setIfInBounds_toArray, List.set_cons_zero, List.set_cons_succ, i64_w, i32_w]
    rfl
  refine pure_ (i := 20) (N := some 94) (v := ?_) (a' := ?_) #[true, true, true, true, true, true, true, true, true, true, true, true, true, true, true, true, true, true, true, true, true, false] rfl rfl (by kernel_rfl) (fun _ _ _ h => h) (Or.inl ⟨by rfl, ?_⟩) ?_ ?_
  rotate_left
  · intro w'
    go_simp
    with_reducible rfl
  rotate_left
  · simp only [Act.put, List.setIfInBounds_toArray, List.set_cons_zero, List.set_cons_succ, i64_w, i32_w]
    rfl
  refine pure_ (i := 21) (N := some 95) (v := ?_) (a' := ?_) #[true, true, true, true, true, true, true, true, true, true, true, true, true, true, true, true, true, true, true, true, true, true] rfl rfl (by kernel_rfl) (fun _ _ _ h => h) (Or.inl ⟨by rfl, ?_⟩) ?_ ?_
  rotate_left
  · intro w'
    go_simp
    with_reducible rfl
  rotate_left
  · simp only [Act.put, List.setIfInBounds_toArray, List.set_cons_zero, List.set_cons_succ, i64_w, i32_w]
    rfl
  refine done_ (by kernel_rfl) ?_
  have kn := hHeld.2.2.2.2.2.2
  clear hHeld kd
  have y10 := kn.out.here.2.2.1.k0
  have y11 := kn.out.here.2.2.1.k1
  have yp0 := kn.out.here.2.2.2.2.1.k0
  have yp1 := kn.out.here.2.2.2.2.1.k1
  go_upto_region 11 with (first | (go_at_call 17; (with_reducible refine (release_is n m A1 c1 B1 d1 L1 k ai aK S1 _ ⟨kn.out.here.2.2.2.1⟩ ha0 L3 k3 e3 h3.out).mono ?_); rintro e w3 ⟨S3, A3, c3, B3, d3, rfl, hl, hS, hb⟩; replace hb := Aside0.mk hb; replace hl := Aside0.mk hl))
  clear y10 y11 yp0 yp1
  replace kn := Aside0.mk (Kn.cons (Bx.new w3 (.slice A3 n c3) (.slice B3 m d3) 25).kn (Kn.cons (hl.out.below (bal w3 (.cells #[.slice A3 n c3, .slice B3 m d3] 25))).kn (kn.out.step (hb.out.alloc hb.out.size (.cells #[.slice A3 n c3, .slice B3 m d3] 25)))))
  clear hb hl
  generalize w3.alloc (.cells #[.slice A3 n c3, .slice B3 m d3] 25) = W3 at kn ⊢
  generalize w3.heap.size = b3 at kn ⊢
  have kd := Aside0.mk (kn.out.step (below_drew1 (Below.refl W3.heap.size W3)))
  clear kn
  refine start_ (n := 26) (S := fun w' => w'.cell? ⟨bp, 0, none⟩ = some (.int .i64 ai) ∧ w'.cell? ⟨bp, 1, none⟩ = some (.int .i64 aK) ∧ Aside0 (Kn (fun W => Bx b3 (.slice A3 n c3) (.slice B3 m d3) W ∧ LV S3 n m A3 c3 B3 d3 L3 W ∧ Bx b2 (.slice A2 n c2) (.slice B2 m d2) W ∧ LV S2 n m A2 c2 B2 d2 L2 W ∧ Bx b1 (.slice A1 n c1) (.slice B1 m d1) W ∧ LV S1 n m A1 c1 B1 d1 L1 W ∧ Bx bp (.int .i64 ai) (.int .i64 aK) W ∧ Bx bl (.slice A n c) (.slice (some bd) m d) W ∧ W.cell? (ad.add ai.toNat) = some (.int .i64 y) ∧ W.cell? (bd.add k.toNat) = some (.slice (some ad) n cr) ∧ LV S n m A c (some bd) d L W ∧ Tb w W) w')) (ds := []) #[false, false, false, false, false, false, false, false, false, false, false, false, false, false, false, false, false, false, false, false, false, false, false, false, false, false] (by kernel_rfl) rfl rfl ⟨kd.out.here.2.2.2.2.2.2.1.k0, kd.out.here.2.2.2.2.2.2.1.k1, kd⟩ (fun hHeld => ?_)
  generalize W3.drew = V3 at kd hHeld ⊢
  refine pure_ (i := 0) (N := some 104) (v := ?_) (a' := ?_) #[true, false, false, false, false, false, false, false, false, false, false, false, false, false, false, false, false, false, false, false, false, false, false, false, false, false] rfl rfl (by kernel_rfl) (fun _ _ _ h => h) (Or.inl ⟨by rfl, ?_⟩) ?_ ?_
  rotate_left
  · intro w'
    go_simp
    with_reducible rfl
  rotate_left
  · simp only [Act.put, List.setIfInBounds_toArray, List.set_cons_zero, List.set_cons_succ, i64_w, i32_w]
    rfl
  refine pure_ (i := 1) (N := some 105) (v := ?_) (a' := ?_) #[true, true, false, false, false, false, false, false, false, false, false, false, false, false, false, false, false, false, false, false, false, false, false, false, false, false] rfl rfl (by kernel_rfl) (fun _ _ _ h => h) (Or.inl ⟨by rfl, ?_⟩) ?_ ?_
  rotate_left
  · intro w'
    go_simp
    with_reducible rfl
  rotate_left
  · simp only [Act.put, List.setIfInBounds_toArray, List.set_cons_zero, List.set_cons_succ, i64_w, i32_w]
    rfl
  refine pure_ (i := 2) (N := some 106) (v := ?_) (a' := ?_) #[true, true, true, false, false, false, false, false, false, false, false, false, false, false, false, false, false, false, false, false, false, false, false, false, false, false] rfl rfl (by kernel_rfl) (fun _ _ _ h => h) (Or.inl ⟨by rfl, ?_⟩) ?_ ?_
  rotate_left
  · intro w'
    go_simp
    with_reducible rfl
  rotate_left
  · simp only [Act.put, List.setIfInBounds_toArray, List.set_cons_zero, List.set_cons_succ, i64_w, i32_w]
    rfl
  refine pure_ (i := 3) (N := some 107) (v := undef) (a' := ?_) #[true, true, true, true, false, false, false, false, false, false, false, false, false, false, false, false, false, false, false, false, false, false, false, false, false, false] rfl rfl (by kernel_rfl) (fun _ _ _ h => h) (Or.inr ⟨by rfl, rfl⟩) ?_ ?_
  rotate_left
  · simp only [Act.put, List.setIfInBounds_toArray, List.set_cons_zero, List.set_cons_succ, i64_w, i32_w]
    rfl
  refine pure_ (i := 4) (N := some 108) (v := undef) (a' := ?_) #[true, true, true, true, true, false, false, false, false, false, false, false, false, false, false, false, false, false, false, false, false, false, false, false, false, false] rfl rfl (by kernel_rfl) (fun _ _ _ h => h) (Or.inr ⟨by rfl, rfl⟩) ?_ ?_
  rotate_left
  · simp only [Act.put, List.setIfInBounds_toArray, List.set_cons_zero, List.set_cons_succ, i64_w, i32_w]
    rfl
  refine pure_ (i := 5) (N := some 109) (v := undef) (a' := ?_) #[true, true, true, true, true, true, false, false, false, false, false, false, false, false, false, false, false, false, false, false, false, false, false, false, false, false] rfl rfl (by kernel_rfl) (fun _ _ _ h => h) (Or.inr ⟨by rfl, rfl⟩) ?_ ?_
  rotate_left
  · simp only [Act.put, List.setIfInBounds_toArray, List.set_cons_zero, List.set_cons_succ, i64_w, i32_w]
    rfl
  refine pure_ (i := 6) (N := some 110) (v := undef) (a' := ?_) #[true, true, true, true, true, true, true, false, false, false, false, false, false, false, false, false, false, false, false, false, false, false, false, false, false, false] rfl rfl (by kernel_rfl) (fun _ _ _ h => h) (Or.inr ⟨by rfl, rfl⟩) ?_ ?_
  rotate_left
  · simp only [Act.put, List.setIfInBounds_toArray, List.set_cons_zero, List.set_cons_succ, i64_w, i32_w]
    rfl
  refine pure_ (i := 7) (N := some 111) (v := undef) (a' := ?_) #[true, true, true, true, true, true, true, true, false, false, false, false, false, false, false, false, false, false, false, false, false, false, false, false, false, false] rfl rfl (by kernel_rfl) (fun _ _ _ h => h) (Or.inr ⟨by rfl, rfl⟩) ?_ ?_
  rotate_left
  · simp only [Act.put, List.setIfInBounds_toArray, List.set_cons_zero, List.set_cons_succ, i64_w, i32_w]
    rfl
  refine pure_ (i := 8) (N := some 112) (v := undef) (a' := ?_) #[true, true, true, true, true, true, true, true, true, false, false, false, false, false, false, false, false, false, false, false, false, false, false, false, false, false] rfl rfl (by kernel_rfl) (fun _ _ _ h => h) (Or.inr ⟨by rfl, rfl⟩) ?_ ?_
  rotate_left
  · simp only [Act.put, List.setIfInBounds_toArray, List.set_cons_zero, List.set_cons_succ, i64_w, i32_w]
    rfl
  refine pure_ (i := 9) (N := some 113) (v := undef) (a' := ?_) #[true, true, true, true, true, true, true, true, true, true, false, false, false, false, false, false, false, false, false, false, false, false, false, false, false, false] rfl rfl (by kernel_rfl) (fun _ _ _ h => h) (Or.inr ⟨by rfl, rfl⟩) ?_ ?_
  rotate_left
  · simp only [Act.put, List.setIfInBounds_toArray, List.set_cons_zero, List.set_cons_succ, i64_w, i32_w]
    rfl
  refine pure_ (i := 10) (N := some 114) (v := undef) (a' := ?_) #[true, true, true, true, true, true, true, true, true, true, true, false, false, false, false, false, false, false, false, false, false, false, false, false, false, false] rfl rfl (by kernel_rfl) (fun _ _ _ h => h) (Or.inr ⟨by rfl, rfl⟩) ?_ ?_
  rotate_left
  · simp only [Act.put, List.setIfInBounds_toArray, List.set_cons_zero, List.set_cons_succ, i64_w, i32_w]
    rfl
  refine pure_ (i := 11) (N := some 115) (v := undef) (a' := ?_) #[true, true, true, true, true, true, true, true, true, true, true, true, false, false, false, false, false, false, false, false, false, false, false, false, false, false] rfl rfl (by kernel_rfl) (fun _ _ _ h => h) (Or.inr ⟨by rfl, rfl⟩) ?_ ?_
  rotate_left
  · simp only [Act.put, List.setIfInBounds_toArray, List.set_cons_zero, List.set_cons_succ, i64_w, i32_w]
    rfl
  refine pure_ (i := 12) (N := some 116) (v := undef) (a' := ?_) #[true, true, true, true, true, true, true, true, true, true, true, true, true, false, false, false, false, false, false, false, false, false, false, false, false, false] rfl rfl (by kernel_rfl) (fun _ _ _ h => h) (Or.inr ⟨by rfl, rfl⟩) ?_ ?_
  rotate_left
  · simp only [Act.put, List.setIfInBounds_toArray, List.set_cons_zero, List.set_cons_succ, i64_w, i32_w]
    rfl
  refine pure_ (i := 13) (N := some 117) (v := undef) (a' := ?_) #[true, true, true, true, true, true, true, true, true, true, true, true, true, true, false, false, false, false, false, false, false, false, false, false, false, false] rfl rfl (by kernel_rfl) (fun _ _ _ h => h) (Or.inr ⟨by rfl, rfl⟩) ?_ ?_
  rotate_left
  · simp only [Act.put, List.setIfInBounds_toArray, List.set_cons_zero, List.set_cons_succ, i64_w, i32_w]
    rfl
  refine pure_ (i := 14) (N := some 118) (v := undef) (a' := ?_) #[true, true, true, true, true, true, true, true, true, true, true, true, true, true, true, false, false, false, false, false, false, false, false, false, false, false] rfl rfl (by kernel_rfl) (fun _ _ _ h => h) (Or.inr ⟨by rfl, rfl⟩) ?_ ?_
  rotate_left
  · simp only [Act.put, List.setIfInBounds_toArray, List.set_cons_zero, List.set_cons_succ, i64_w, i32_w]
    rfl
  refine pure_ (i := 15) (N := some 119) (v := undef) (a' := ?_) #[true, true, true, true, true, true, true, true, true, true, true, true, true, true, true, true, false, false, false, false, false, false, false, false, false, false] rfl rfl (by kernel_rfl) (fun _ _ _ h => h) (Or.inr ⟨by rfl, rfl⟩) ?_ ?_
  rotate_left
  · simp only [Act.put, List.setIfInBounds_toArray, List.set_cons_zero, List.set_cons_succ, i64_w, i32_w]
    rfl
  refine pure_ (i := 16) (N := some 120) (v := undef) (a' := ?_) #[true, true, true, true, true, true, true, true, true, true, true, true, true, true, true, true, true, false, false, false, false, false, false, false, false, false] rfl rfl (by kernel_rfl) (fun _ _ _ h => h) (Or.inr ⟨by rfl, rfl⟩) ?_ ?_
  rotate_left
  · simp only [Act.put, List.setIfInBounds_toArray, List.set_cons_zero, List.set_cons_succ, i64_w, i32_w]
    rfl
  refine pure_ (i := 17) (N := some 121) (v := undef) (a' := ?_) #[true, true, true, true, true, true, true, true, true, true, true, true, true, true, true, true, true, true, false, false, false, false, false, false, false, false] rfl rfl (by kernel_rfl) (fun _ _ _ h => h) (Or.inr ⟨by rfl, rfl⟩) ?_ ?_
  rotate_left
  · simp only [Act.put, List.setIfInBounds_toArray, List.set_cons_zero, List.set_cons_succ, i64_w, i32_w]
    rfl
  refine pure_ (i := 18) (N := some 122) (v := undef) (a' := ?_) #[true, true, true, true, true, true, true, true, true, true, true, true, true, true, true, true, true, true, true, false, false, false, false, false, false, false] rfl rfl (by kernel_rfl) (fun _ _ _ h => h) (Or.inr ⟨by rfl, rfl⟩) ?_ ?_
  rotate_left
  · simp only [Act.put, List.setIfInBounds_toArray, List.set_cons_zero, List.set_cons_succ, i64_w, i32_w]
    rfl
  refine pure_ (i := 19) (N := some 123) (v := undef) (a' := ?_) #[true, true, true, true, true, true, true, true, true, true, true, true, true, true, true, true, true, true, true, true, false, false, false, false, false, false] rfl rfl (by kernel_rfl) (fun _ _ _ h => h) (Or.inr ⟨by rfl, rfl⟩) ?_ ?_
  rotate_left
  · simp only [Act.put, List.setIfInBounds_toArray, List.set_cons_zero, List.set_cons_succ, i64_w, i32_w]
    rfl
  refine pure_ (i := 20) (N := some 124) (v := undef) (a' := ?_) #[true, true, true, true, true, true, true, true, true, true, true, true, true, true, true, true, true, true, true, true, true, false, false, false, false, false] rfl rfl (by kernel_rfl) (fun _ _ _ h => h) (Or.inr ⟨by rfl, rfl⟩) ?_ ?_
  rotate_left
  · simp only [Act.put, List.setIfInBounds_toArray, List.set_cons_zero, List.set_cons_succ, i64_w, i32_w]
    rfl
  refine pure_ (i := 21) (N := some 125) (v := undef) (a' := ?_) #[true, true, true, true, true, true, true, true, true, true, true, true, true, true, true, true, true, true, true, true, true, true, false, false, false, false] rfl rfl (by kernel_rfl) (fun _ _ _ h => h) (Or.inr ⟨by rfl, rfl⟩) ?_ ?_
  rotate_left
  · simp only [Act.put, List.setIfInBounds_toArray, List.set_cons_zero, List.set_cons_succ, i64_w, i32_w]
    rfl
  refine pure_ (i := 22) (N := some 126) (v := undef) (a' := ?_) #[true, true, true, true, true, true, true, true, true, true, true, true, true, true, true, true, true, true, true, true, true, true, true, false, false, false] rfl rfl (by kernel_rfl) (fun _ _ _ h => h) (Or.inr ⟨by rfl, rfl⟩) ?_ ?_
  rotate_left
  · simp only [Act.put, List.setIfInBounds_toArray, List.set_cons_zero, List.set_cons_succ, i64_w, i32_w]
    rfl
  refine pure_ (i := 23) (N := some 127) (v := undef) (a' := ?_) #[true, true, true, true, true, true, true, true, true, true, true, true, true, true, true, true, true, true, true, true, true, true, true, true, false, false] rfl rfl (by kernel_rfl) (fun _ _ _ h => h) (Or.inr ⟨by rfl, rfl⟩) ?_ ?_
  rotate_left
  · simp only [Act.put, List.setIfInBounds_toArray, List.set_cons_zero, List.set_cons_succ, i64_w, i32_w]
    rfl
  refine pure_ (i := 24) (N := some 128) (v := undef) (a' := ?_) #[true, true, true, true, true, true, true, true, true, true, true, true, true, true, true, true, true, true, true, true, true, true, true, true, true, false] rfl rfl (by kernel_rfl) (fun _ _ _ h => h) (Or.inr ⟨by rfl, rfl⟩) ?_ ?_
  rotate_left
  · simp only [Act.put, List.setIfInBounds_toArray, List.set_cons_zero, List.set_cons_succ, i64_w, i32_w]
    rfl
  refine pure_ (i := 25) (N := some 129) (v := ?_) (a' := ?_) #[true, true, true, true, true, true, true, true, true, true, true, true, true, true, true, true, true, true, true, true, true, true, true, true, true, true] rfl rfl (by kernel_rfl) (fun _ _ _ h => h) (Or.inl ⟨by rfl, ?_⟩) ?_ ?_
  rotate_left
  · intro w'
    go_simp
    with_reducible rfl
  rotate_left
  · simp only [Act.put, List.setIfInBounds_toArray, List.set_cons_zero, List.set_cons_succ, i64_w, i32_w]
    rfl
  refine done_ (by kernel_rfl) ?_
  have kn := hHeld.2.2
  clear hHeld kd
  go_wp2
  go_ret
  exact ⟨rfl, kn.out.here.2.2.2.2.2.2.2.2.2.2.2⟩
set_option maxHeartbeats 8000000 in
set_option maxRecDepth 100000 in
theorem back_g2 (n m : Nat) (A : Option Addr) (c : Nat) (bd : Addr) (d : Nat) (L : LG) (tk k ai aK : Int) (S : Nat → Prop) (w : World) (h : Aside0 (LV S n m A c (some bd) d L w)) (ha0 : Aside0 (-9223372036854775808 ≤ aK ∧ aK ≤ 9223372036854775807)) (hm0 : ((m : Int) == 0) = false) (hm1 : ¬ (m : Int) = 0) (hwk : IntKind.i64.wrap tk = tk) (hrem : IntKind.i64.wrap (tk.tmod m) = k) (hrem2 : tk.tmod m = k) (L1 L2 L3 : LG) (k1 k2 k3 e3 : Int) (ad : Addr) (cr : Nat) (y : Int) (hc1 : Aside0 (w.cell? (bd.add k.toNat) = some (.slice (some ad) n cr))) (hc2 : Aside0 (w.cell? (ad.add ai.toNat) = some (.int .i64 y))) (kb0 : 0 ≤ k) (kb1 : k < m) (ib0 : 0 ≤ ai) (ib1 : ai < n) (hy : decide (y < 0) = false) (hy2 : decide (y > 1000000000000) = false) (hk2 : Aside0 (-9223372036854775808 ≤ k2 ∧ k2 ≤ 9223372036854775807)) (hj : (k2 == 0) = false) (hle : decide (k2 ≤ aK) = true) (h4 : Aside0 (relS n m L2 k ai k2 = (L, k2, 0))) (h1 : Aside0 (resS n m L k ai aK = (L1, 0, 0))) (h2 : Aside0 (someS n m L k ai aK = (L2, k2, 0))) (h3 : Aside0 (relS n m L1 k ai aK = (L3, k3, e3))) :
    Calls Try.prog 8 #[.agg #[.slice A n c, .slice (some bd) m d], .int .u8 tk, .agg #[.int .i64 ai, .int .i64 aK]] w fun e w' => e = .returned (.bool true) ∧ Below w.heap.size w w' := by
  go_enter Try.func8, Try.ntmps8
  go_upto_region 1 with (fail)
  have kn := Aside0.mk (Kn.cons h.out.kn (tb_kn (Below.refl w.heap.size w)))
  replace kn := Aside0.mk (Kn.cons (cell_kn hc1.out) kn.out)
  replace kn := Aside0.mk (Kn.cons (cell_kn hc2.out) kn.out)
  replace kn := Aside0.mk (Kn.cons (Bx.new (w) (.slice A n c) (.slice (some bd) m d) 25).kn (kn.out.step (bal (w) (.cells #[.slice A n c, .slice (some bd) m d] 25))))
  replace kn := Aside0.mk (Kn.cons (Bx.new ((w).alloc (.cells #[.slice A n c, .slice (some bd) m d] 25)) (.int .i64 ai) (.int .i64 aK) 27).kn (kn.out.step (bal ((w).alloc (.cells #[.slice A n c, .slice (some bd) m d] 25)) (.cells #[.int .i64 ai, .int .i64 aK] 27))))
  simp only [World.size_alloc] at kn
  generalize ((w).alloc (.cells #[.slice A n c, .slice (some bd) m d] 25)).alloc (.cells #[.int .i64 ai, .int .i64 aK] 27) = W0 at kn ⊢
  generalize w.heap.size + 1 = bp at kn ⊢
  generalize hz : w.heap.size = bl at kn ⊢
  clear hz
  have yl0 := kn.out.here.2.1.k0
  have yl1 := kn.out.here.2.1.k1
  go_upto_region 3 with (first | (go_at_call 10; (with_reducible refine (fine_lv (kn.out.here.2.2.2.2.1)).mono ?_); rintro e wf ⟨rfl, hb⟩; have kf := Aside0.mk (kn.out.step hb); clear hb kn; have zl0 := kf.out.here.2.1.k0; have zl1 := kf.out.here.2.1.k1) | (go_at_call 11; (with_reducible refine (shown_is _).mono ?_); rintro e wg ⟨rfl, hb⟩; have kn := Aside0.mk (kf.out.step hb); clear hb kf))
  clear yl0 yl1 zl0 zl1
  have yl0 := kn.out.here.2.1.k0
  have yl1 := kn.out.here.2.1.k1
  go_upto_region 4 with (fail)
  clear yl0 yl1
  have yl0 := kn.out.here.2.1.k0
  have yl1 := kn.out.here.2.1.k1
  have yp0 := kn.out.here.1.k0
  have yp1 := kn.out.here.1.k1
  go_upto_region 5 with (first | (go_at_call 13; (with_reducible refine (reserve_is n m A c (some bd) d L k ai aK S _ ⟨kn.out.here.2.2.2.2.1⟩ ha0 L1 0 0 h1.out).mono ?_); rintro e w1 ⟨S1, A1, c1, B1, d1, rfl, hl, hS, hb⟩; replace hb := Aside0.mk hb; replace hl := Aside0.mk hl))
  clear yl0 yl1 yp0 yp1
  replace kn := Aside0.mk (Kn.cons (Bx.new w1 (.slice A1 n c1) (.slice B1 m d1) 25).kn (Kn.cons (hl.out.below (bal w1 (.cells #[.slice A1 n c1, .slice B1 m d1] 25))).kn (kn.out.step (hb.out.alloc hb.out.size (.cells #[.slice A1 n c1, .slice B1 m d1] 25)))))
  clear hb hl
  generalize w1.alloc (.cells #[.slice A1 n c1, .slice B1 m d1] 25) = W1 at kn ⊢
  generalize w1.heap.size = b1 at kn ⊢
  have yl0 := kn.out.here.2.2.2.1.k0
  have yl1 := kn.out.here.2.2.2.1.k1
  have yp0 := kn.out.here.2.2.1.k0
  have yp1 := kn.out.here.2.2.1.k1
  go_upto_region 6 with (first | (go_at_call 15; (with_reducible refine (some_is n m A c (some bd) d L k ai aK S _ ⟨kn.out.here.2.2.2.2.2.2.1⟩ ha0 L2 k2 0 h2.out).mono ?_); rintro e w2 ⟨S2, A2, c2, B2, d2, rfl, hl, hS, hb⟩; replace hb := Aside0.mk hb; replace hl := Aside0.mk hl))
  clear yl0 yl1 yp0 yp1
  replace kn := Aside0.mk (Kn.cons (Bx.new w2 (.slice A2 n c2) (.slice B2 m d2) 25).kn (Kn.cons (hl.out.below (bal w2 (.cells #[.slice A2 n c2, .slice B2 m d2] 25))).kn (kn.out.step (hb.out.alloc hb.out.size (.cells #[.slice A2 n c2, .slice B2 m d2] 25)))))
  clear hb hl
  generalize w2.alloc (.cells #[.slice A2 n c2, .slice B2 m d2] 25) = W2 at kn ⊢
  generalize w2.heap.size = b2 at kn ⊢
  go_upto_region 8 with (fail)
  have kd := Aside0.mk (kn.out.step (below_drew1 (Below.refl W2.heap.size W2)))
  clear kn
  refine start_ (n := 22) (S := fun w' => w'.cell? ⟨bl, 0, none⟩ = some (.slice A n c) ∧ w'.cell? ⟨bl, 1, none⟩ = some (.slice (some bd) m d) ∧ w'.cell? ⟨bp, 0, none⟩ = some (.int .i64 ai) ∧ w'.cell? ⟨bp, 1, none⟩ = some (.int .i64 aK) ∧ w'.cell? (bd.add k.toNat) = some (.slice (some ad) n cr) ∧ w'.cell? (ad.add ai.toNat) = some (.int .i64 y) ∧ Aside0 (Kn (fun W => Bx b2 (.slice A2 n c2) (.slice B2 m d2) W ∧ LV S2 n m A2 c2 B2 d2 L2 W ∧ Bx b1 (.slice A1 n c1) (.slice B1 m d1) W ∧ LV S1 n m A1 c1 B1 d1 L1 W ∧ Bx bp (.int .i64 ai) (.int .i64 aK) W ∧ Bx bl (.slice A n c) (.slice (some bd) m d) W ∧ W.cell? (ad.add ai.toNat) = some (.int .i64 y) ∧ W.cell? (bd.add k.toNat) = some (.slice (some ad) n cr) ∧ LV S n m A c (some bd) d L W ∧ Tb w W) w')) (ds := []) #[false, false, false, false, false, false, false, false, false, false, false, false, false, false, false, false, false, false, false, false, false, false] (by kernel_rfl) rfl rfl ⟨kd.out.here.2.2.2.2.2.1.k0, kd.out.here.2.2.2.2.2.1.k1, kd.out.here.2.2.2.2.1.k0, kd.out.here.2.2.2.2.1.k1, kd.out.here.2.2.2.2.2.2.2.1, kd.out.here.2.2.2.2.2.2.1, kd⟩ (fun hHeld => ?_)
  generalize W2.drew = V2 at kd hHeld ⊢
  refine pure_ (i := 0) (N := some 74) (v := ?_) (a' := ?_) #[true, false, false, false, false, false, false, false, false, false, false, false, false, false, false, false, false, false, false, false, false, false] rfl rfl (by kernel_rfl) (fun _ _ _ h => h) (Or.inl ⟨by rfl, ?_⟩) ?_ ?_
  rotate_left
  · intro w'
    go_simp
    with_reducible rfl
  rotate_left
  · simp only [Act.put, List.setIfInBounds_toArray, List.set_cons_zero, List.set_cons_succ, i64_w, i32_w]
    rfl
  refine pure_ (i := 2) (N := some 76) (v := ?_) (a' := ?_) #[true, false, true, false, false, false, false, false, false, false, false, false, false, false, false, false, false, false, false, false, false, false] rfl rfl (by kernel_rfl) (fun _ _ _ h => h) (Or.inl ⟨by rfl, ?_⟩) ?_ ?_
  rotate_left
  · intro w'
    go_simp
    with_reducible rfl
  rotate_left
  · simp only [Act.put, List.setIfInBounds_toArray, List.set_cons_zero, List.set_cons_succ, i64_w, i32_w]
    rfl
  refine pure_ (i := 5) (N := some 79) (v := ?_) (a' := ?_) #[true, false, true, false, false, true, false, false, false, false, false, false, false, false, false, false, false, false, false, false, false, false] rfl rfl (by kernel_rfl) (fun _ _ _ h => h) (Or.inl ⟨by rfl, ?_⟩) ?_ ?_
  rotate_left
  · intro w'
    go_simp
    with_reducible rfl
  rotate_left
  · simp only [Act.put, List.setIfInBounds_toArray, List.set_cons_zero, List.set_cons_succ, i64_w, i32_w]
    rfl
  refine take_ (i := 1) (N := some 75) (v := ?_) (a' := ?_) #[true, true, true, false, false, true, false, false, false, false, false, false, false, false, false, false, false, false, false, false, false, false] rfl rfl (by kernel_rfl) (fun _ _ _ h => h) (Or.inl ⟨by rfl, ?_⟩) hHeld ?_ ?_
  rotate_left
  · rintro w' ⟨s0, s1, s2, s3, s4, s5, s6⟩
    go_simp
    with_reducible rfl
  rotate_left
  · simp only [Act.put, List.setIfInBounds_toArray, List.set_cons_zero, List.set_cons_succ, i64_w, i32_w]
    rfl
  refine pure_ (i := 3) (N := some 77) (v := ?_) (a' := ?_) #[true, true, true, true, false, true, false, false, false, false, false, false, false, false, false, false, false, false, false, false, false, false] rfl rfl (by kernel_rfl) (fun _ _ _ h => h) (Or.inl ⟨by rfl, ?_⟩) ?_ ?_
  rotate_left
  · intro w'
    go_simp
    with_reducible rfl
  rotate_left
  · simp only [Act.put, List.setIfInBounds_toArray, List.set_cons_zero, List.set_cons_succ, i64_w, i32_w]
    rfl
  refine take_ (i := 4) (N := some 78) (v := ?_) (a' := ?_) #[true, true, true, true, true, true, false, false, false, false, false, false, false, false, false, false, false, false, false, false, false, false] rfl rfl (by kernel_rfl) (fun _ _ _ h => h) (Or.inl ⟨by rfl, ?_⟩) hHeld ?_ ?_
  rotate_left
  · rintro w' ⟨s0, s1, s2, s3, s4, s5, s6⟩
    go_simp
    with_reducible rfl
  rotate_left
  · simp only [Act.put, List.setIfInBounds_toArray, List.set_cons_zero, List.set_cons_succ, i64_w, i32_w]
    rfl
  refine take_ (i := 6) (N := some 80) (v := ?_) (a' := ?_) #[true, true, true, true, true, true, true, false, false, false, false, false, false, false, false, false, false, false, false, false, false, false] rfl rfl (by kernel_rfl) (fun _ _ _ h => h) (Or.inl ⟨by rfl, ?_⟩) hHeld ?_ ?_
  rotate_left
  · rintro w' ⟨s0, s1, s2, s3, s4, s5, s6⟩
    go_simp
    with_reducible rfl
  rotate_left
  · simp only [Act.put, List.setIfInBounds_toArray, List.set_cons_zero, List.set_cons_succ, i64_w, i32_w]
    rfl
  refine pure_ (i := 7) (N := some 81) (v := ?_) (a' := ?_) #[true, true, true, true, true, true, true, true, false, false, false, false, false, false, false, false, false, false, false, false, false, false] rfl rfl (by kernel_rfl) (fun _ _ _ h => h) (Or.inl ⟨by rfl, ?_⟩) ?_ ?_
  rotate_left
  · intro w'
    go_simp
    with_reducible rfl
  rotate_left
  · simp only [Act.put, List.setIfInBounds_toArray, List.set_cons_zero, List.set_cons_succ, i64_w, i32_w]
    rfl
  refine take_ (i := 8) (N := some 82) (v := ?_) (a' := ?_) #[true, true, true, true, true, true, true, true, true, false, false, false, false, false, false, false, false, false, false, false, false, false] rfl rfl (by kernel_rfl) (fun _ _ _ h => h) (Or.inl ⟨by rfl, ?_⟩) hHeld ?_ ?_
  rotate_left
  · rintro w' ⟨s0, s1, s2, s3, s4, s5, s6⟩
    go_simp
    with_reducible rfl
  rotate_left
  · simp only [Act.put, List.setIfInBounds_toArray, List.set_cons_zero, List.set_cons_succ, i64_w, i32_w]
    rfl
  refine pure_ (i := 9) (N := some 83) (v := ?_) (a' := ?_) #[true, true, true, true, true, true, true, true, true, true, false, false, false, false, false, false, false, false, false, false, false, false] rfl rfl (by kernel_rfl) (fun _ _ _ h => h) (Or.inl ⟨by rfl, ?_⟩) ?_ ?_
  rotate_left
  · intro w'
    go_simp
    with_reducible rfl
  rotate_left
  · simp only [Act.put, List.setIfInBounds_toArray, List.set_cons_zero, List.set_cons_succ, i64_w, i32_w]
    rfl
  refine pure_ (i := 10) (N := some 84) (v := ?_) (a' := ?_) #[true, true, true, true, true, true, true, true, true, true, true, false, false, false, false, false, false, false, false, false, false, false] rfl rfl (by kernel_rfl) (fun _ _ _ h => h) (Or.inl ⟨by rfl, ?_⟩) ?_ ?_
  rotate_left
  · intro w'
    go_simp
    with_reducible rfl
  rotate_left
  · simp only [Act.put, List.setIfInBounds_toArray, List.set_cons_zero, List.set_cons_succ, i64_w, i32_w]
    rfl
  refine pure_ (i := 11) (N := some 85) (v := ?_) (a' := ?_) #[true, true, true, true, true, true, true, true, true, true, true, true, false, false, false, false, false, false, false, false, false, false] rfl rfl (by kernel_rfl) (fun _ _ _ h => h) (Or.inl ⟨by rfl, ?_⟩) ?_ ?_
  rotate_left
  · intro w'
    go_simp
    with_reducible rfl
  rotate_left
  · simp only [Act.put, List.setIfInBounds_toArray, List.set_cons_zero, List.set_cons_succ, i64_w, i32_w]
    rfl
  refine pure_ (i := 13) (N := some 87) (v := ?_) (a' := ?_) #[true, true, true, true, true, true, true, true, true, true, true, true, false, true, false, false, false, false, false, false, false, false] rfl rfl (by kernel_rfl) (fun _ _ _ h => h) (Or.inl ⟨by rfl, ?_⟩) ?_ ?_
  rotate_left
  · intro w'
    go_simp
    with_reducible rfl
  rotate_left
  · simp only [Act.put, List.setIfInBounds_toArray, List.set_cons_zero, List.set_cons_succ, i64_w, i32_w]
    rfl
  refine pure_ (i := 16) (N := some 90) (v := ?_) (a' := ?_) #[true, true, true, true, true, true, true, true, true, true, true, true, false, true, false, false, true, false, false, false, false, false] rfl rfl (by kernel_rfl) (fun _ _ _ h => h) (Or.inl ⟨by rfl, ?_⟩) ?_ ?_
  rotate_left
  · intro w'
    go_simp
    with_reducible rfl
  rotate_left
  · simp only [Act.put, List.setIfInBounds_toArray, List.set_cons_zero, List.set_cons_succ, i64_w, i32_w]
    rfl
  refine take_ (i := 12) (N := some 86) (v := ?_) (a' := ?_) #[true, true, true, true, true, true, true, true, true, true, true, true, true, true, false, false, true, false, false, false, false, false] rfl rfl (by kernel_rfl) (fun _ _ _ h => h) (Or.inl ⟨by rfl, ?_⟩) hHeld ?_ ?_
  rotate_left
  · rintro w' ⟨s0, s1, s2, s3, s4, s5, s6⟩
    go_simp
    with_reducible rfl
  rotate_left
  · simp only [Act.put, List.setIfInBounds_toArray, List.set_cons_zero, List.set_cons_succ, i64_w, i32_w]
    rfl
  refine pure_ (i := 14) (N := some 88) (v := ?_) (a' := ?_) #[true, true, true, true, true, true, true, true, true, true, true, true, true, true, true, false, true, false, false, false, false, false] rfl rfl (by kernel_rfl) (fun _ _ _ h => h) (Or.inl ⟨by rfl, ?_⟩) ?_ ?_
  rotate_left
  · intro w'
    go_simp
    with_reducible rfl
  rotate_left
  · simp only [Act.put, List.setIfInBounds_toArray, List.set_cons_zero, List.set_cons_succ, i64_w, i32_w]
    rfl
  refine take_ (i := 15) (N := some 89) (v := ?_) (a' := ?_) #[true, true, true, true, true, true, true, true, true, true, true, true, true, true, true, true, true, false, false, false, false, false] rfl rfl (by kernel_rfl) (fun _ _ _ h => h) (Or.inl ⟨by rfl, ?_⟩) hHeld ?_ ?_
  rotate_left
  · rintro w' ⟨s0, s1, s2, s3, s4, s5, s6⟩
    go_simp
    with_reducible rfl
  rotate_left
  · simp only [Act.put, List.setIfInBounds_toArray, List.set_cons_zero, List.set_cons_succ, i64_w, i32_w]
    rfl
  refine take_ (i := 17) (N := some 91) (v := ?_) (a' := ?_) #[true, true, true, true, true, true, true, true, true, true, true, true, true, true, true, true, true, true, false, false, false, false] rfl rfl (by kernel_rfl) (fun _ _ _ h => h) (Or.inl ⟨by rfl, ?_⟩) hHeld ?_ ?_
  rotate_left
  · rintro w' ⟨s0, s1, s2, s3, s4, s5, s6⟩
    go_simp
    with_reducible rfl
  rotate_left
  · simp only [Act.put, List.setIfInBounds_toArray, List.set_cons_zero, List.set_cons_succ, i64_w, i32_w]
    rfl
  refine pure_ (i := 18) (N := some 92) (v := ?_) (a' := ?_) #[true, true, true, true, true, true, true, true, true, true, true, true, true, true, true, true, true, true, true, false, false, false] rfl rfl (by kernel_rfl) (fun _ _ _ h => h) (Or.inl ⟨by rfl, ?_⟩) ?_ ?_
  rotate_left
  · intro w'
    go_simp
    with_reducible rfl
  rotate_left
  · simp only [Act.put, List.setIfInBounds_toArray, List.set_cons_zero, List.set_cons_succ, i64_w, i32_w]
    rfl
  refine take_ (i := 19) (N := some 93) (v := ?_) (a' := ?_) #[true, true, true, true, true, true, true, true, true, true, true, true, true, true, true, true, true, true, true, true, false, false] rfl rfl (by kernel_rfl) (fun _ _ _ h => h) (Or.inl ⟨by rfl, ?_⟩) hHeld ?_ ?_
  rotate_left
  · rintro w' ⟨s0, s1, s2, s3, s4, s5, s6⟩
    go_simp
    with_reducible rfl
  rotate_left
  · simp only [Act.put, List.setIfInBounds_toArray, List.set_cons_zero, List.set_cons_succ, i64_w, i32_w]
    rfl
  refine pure_ (i := 20) (N := some 94) (v := ?_) (a' := ?_) #[true, true, true, true, true, true, true, true, true, true, true, true, true, true, true, true, true, true, true, true, true, false] rfl rfl (by kernel_rfl) (fun _ _ _ h => h) (Or.inl ⟨by rfl, ?_⟩) ?_ ?_
  rotate_left
  · intro w'
    go_simp
    with_reducible rfl
  rotate_left
  · simp only [Act.put, List.setIfInBounds_toArray, List.set_cons_zero, List.set_cons_succ, i64_w, i32_w]
    rfl
  refine pure_ (i := 21) (N := some 95) (v := ?_) (a' := ?_) #[true, true, true, true, true, true, true, true, true, true, true, true, true, true, true, true, true, true, true, true, true, true] rfl rfl (by kernel_rfl) (fun _ _ _ h => h) (Or.inl ⟨by rfl, ?_⟩) ?_ ?_
  rotate_left
  · intro w'
    go_simp
    with_reducible rfl
  rotate_left
  · simp only [Act.put, List.setIfInBounds_toArray, List.set_cons_zero, List.set_cons_succ, i64_w, i32_w]
    rfl
  refine done_ (by kernel_rfl) ?_
  have kn := hHeld.2.2.2.2.2.2
  clear hHeld kd
  have y10 := kn.out.here.2.2.1.k0
  have y11 := kn.out.here.2.2.1.k1
  have yp0 := kn.out.here.2.2.2.2.1.k0
  have yp1 := kn.out.here.2.2.2.2.1.k1
  go_upto_region 11 with (first | (go_at_call 17; (with_reducible refine (release_is n m A1 c1 B1 d1 L1 k ai aK S1 _ ⟨kn.out.here.2.2.2.1⟩ ha0 L3 k3 e3 h3.out).mono ?_); rintro e w3 ⟨S3, A3, c3, B3, d3, rfl, hl, hS, hb⟩; replace hb := Aside0.mk hb; replace hl := Aside0.mk hl))
  clear y10 y11 yp0 yp1
  replace kn := Aside0.mk (Kn.cons (Bx.new w3 (.slice A3 n c3) (.slice B3 m d3) 25).kn (Kn.cons (hl.out.below (bal w3 (.cells #[.slice A3 n c3, .slice B3 m d3] 25))).kn (kn.out.step (hb.out.alloc hb.out.size (.cells #[.slice A3 n c3, .slice B3 m d3] 25)))))
  clear hb hl
  generalize w3.alloc (.cells #[.slice A3 n c3, .slice B3 m d3] 25) = W3 at kn ⊢
  generalize w3.heap.size = b3 at kn ⊢
  have kd := Aside0.mk (kn.out.step (below_drew1 (Below.refl W3.heap.size W3)))
  clear kn
  refine start_ (n := 26) (S := fun w' => w'.cell? ⟨bp, 0, none⟩ = some (.int .i64 ai) ∧ w'.cell? ⟨bp, 1, none⟩ = some (.int .i64 aK) ∧ Aside0 (Kn (fun W => Bx b3 (.slice A3 n c3) (.slice B3 m d3) W ∧ LV S3 n m A3 c3 B3 d3 L3 W ∧ Bx b2 (.slice A2 n c2) (.slice B2 m d2) W ∧ LV S2 n m A2 c2 B2 d2 L2 W ∧ Bx b1 (.slice A1 n c1) (.slice B1 m d1) W ∧ LV S1 n m A1 c1 B1 d1 L1 W ∧ Bx bp (.int .i64 ai) (.int .i64 aK) W ∧ Bx bl (.slice A n c) (.slice (some bd) m d) W ∧ W.cell? (ad.add ai.toNat) = some (.int .i64 y) ∧ W.cell? (bd.add k.toNat) = some (.slice (some ad) n cr) ∧ LV S n m A c (some bd) d L W ∧ Tb w W) w')) (ds := []) #[false, false, false, false, false, false, false, false, false, false, false, false, false, false, false, false, false, false, false, false, false, false, false, false, false, false] (by kernel_rfl) rfl rfl ⟨kd.out.here.2.2.2.2.2.2.1.k0, kd.out.here.2.2.2.2.2.2.1.k1, kd⟩ (fun hHeld => ?_)
  generalize W3.drew = V3 at kd hHeld ⊢
  refine pure_ (i := 0) (N := some 104) (v := ?_) (a' := ?_) #[true, false, false, false, false, false, false, false, false, false, false, false, false, false, false, false, false, false, false, false, false, false, false, false, false, false] rfl rfl (by kernel_rfl) (fun _ _ _ h => h) (Or.inl ⟨by rfl, ?_⟩) ?_ ?_
  rotate_left
  · intro w'
    go_simp
    with_reducible rfl
  rotate_left
  · simp only [Act.put, List.setIfInBounds_toArray, List.set_cons_zero, List.set_cons_succ, i64_w, i32_w]
    rfl
  refine pure_ (i := 1) (N := some 105) (v := ?_) (a' := ?_) #[true, true, false, false, false, false, false, false, false, false, false, false, false, false, false, false, false, false, false, false, false, false, false, false, false, false] rfl rfl (by kernel_rfl) (fun _ _ _ h => h) (Or.inl ⟨by rfl, ?_⟩) ?_ ?_
  rotate_left
  · intro w'
    go_simp
    with_reducible rfl
  rotate_left
  · simp only [Act.put, List.setIfInBounds_toArray, List.set_cons_zero, List.set_cons_succ, i64_w, i32_w]
    rfl
  refine pure_ (i := 2) (N := some 106) (v := ?_) (a' := ?_) #[true, true, true, false, false, false, false, false, false, false, false, false, false, false, false, false, false, false, false, false, false, false, false, false, false, false] rfl rfl (by kernel_rfl) (fun _ _ _ h => h) (Or.inl ⟨by rfl, ?_⟩) ?_ ?_
  rotate_left
  · intro w'
    go_simp
    with_reducible rfl
  rotate_left
  · simp only [Act.put, List.setIfInBounds_toArray, List.set_cons_zero, List.set_cons_succ, i64_w, i32_w]
    rfl
  refine pure_ (i := 3) (N := some 107) (v := undef) (a' := ?_) #[true, true, true, true, false, false, false, false, false, false, false, false, false, false, false, false, false, false, false, false, false, false, false, false, false, false] rfl rfl (by kernel_rfl) (fun _ _ _ h => h) (Or.inr ⟨by rfl, rfl⟩) ?_ ?_
  rotate_left
  · simp only [Act.put, List.setIfInBounds_toArray, List.set_cons_zero, List.set_cons_succ, i64_w, i32_w]
    rfl
  refine pure_ (i := 4) (N := some 108) (v := undef) (a' := ?_) #[true, true, true, true, true, false, false, false, false, false, false, false, false, false, false, false, false, false, false, false, false, false, false, false, false, false] rfl rfl (by kernel_rfl) (fun _ _ _ h => h) (Or.inr ⟨by rfl, rfl⟩) ?_ ?_
  rotate_left
  · simp only [Act.put, List.setIfInBounds_toArray, List.set_cons_zero, List.set_cons_succ, i64_w, i32_w]
    rfl
  refine pure_ (i := 5) (N := some 109) (v := undef) (a' := ?_) #[true, true, true, true, true, true, false, false, false, false, false, false, false, false, false, false, false, false, false, false, false, false, false, false, false, false] rfl rfl (by kernel_rfl) (fun _ _ _ h => h) (Or.inr ⟨by rfl, rfl⟩) ?_ ?_
  rotate_left
  · simp only [Act.put, List.setIfInBounds_toArray, List.set_cons_zero, List.set_cons_succ, i64_w, i32_w]
    rfl
  refine pure_ (i := 6) (N := some 110) (v := undef) (a' := ?_) #[true, true, true, true, true, true, true, false, false, false, false, false, false, false, false, false, false, false, false, false, false, false, false, false, false, false] rfl rfl (by kernel_rfl) (fun _ _ _ h => h) (Or.inr ⟨by rfl, rfl⟩) ?_ ?_
  rotate_left
  · simp only [Act.put, List.setIfInBounds_toArray, List.set_cons_zero, List.set_cons_succ, i64_w, i32_w]
    rfl
  refine pure_ (i := 7) (N := some 111) (v := undef) (a' := ?_) #[true, true, true, true, true, true, true, true, false, false, false, false, false, false, false, false, false, false, false, false, false, false, false, false, false, false] rfl rfl (by kernel_rfl) (fun _ _ _ h => h) (Or.inr ⟨by rfl, rfl⟩) ?_ ?_
  rotate_left
  · simp only [Act.put, List.setIfInBounds_toArray, List.set_cons_zero, List.set_cons_succ, i64_w, i32_w]
    rfl
  refine pure_ (i := 8) (N := some 112) (v := undef) (a' := ?_) #[true, true, true, true, true, true, true, true, true, false, false, false, false, false, false, false, false, false, false, false, false, false, false, false, false, false] rfl rfl (by kernel_rfl) (fun _ _ _ h => h) (Or.inr ⟨by rfl, rfl⟩) ?_ ?_
  rotate_left
  · simp only [Act.put, List.setIfInBounds_toArray, List.set_cons_zero, List.set_cons_succ, i64_w, i32_w]
    rfl
  refine pure_ (i := 9) (N := some 113) (v := undef) (a' := ?_) #[true, true, true, true, true, true, true, true, true, true, false, false, false, false, false, false, false, false, false, false, false, false, false, false, false, false] rfl rfl (by kernel_rfl) (fun _ _ _ h => h) (Or.inr ⟨by rfl, rfl⟩) ?_ ?_
  rotate_left
  · simp only [Act.put, List.setIfInBounds_toArray, List.set_cons_zero, List.set_cons_succ, i64_w, i32_w]
    rfl
  refine pure_ (i := 10) (N := some 114) (v := undef) (a' := ?_) #[true, true, true, true, true, true, true, true, true, true, true, false, false, false, false, false, false, false, false, false, false, false, false, false, false, false] rfl rfl (by kernel_rfl) (fun _ _ _ h => h) (Or.inr ⟨by rfl, rfl⟩) ?_ ?_
  rotate_left
  · simp only [Act.put, List.setIfInBounds_toArray, List.set_cons_zero, List.set_cons_succ, i64_w, i32_w]
    rfl
  refine pure_ (i := 11) (N := some 115) (v := undef) (a' := ?_) #[true, true, true, true, true, true, true, true, true, true, true, true, false, false, false, false, false, false, false, false, false, false, false, false, false, false] rfl rfl (by kernel_rfl) (fun _ _ _ h => h) (Or.inr ⟨by rfl, rfl⟩) ?_ ?_
  rotate_left
  · simp only [Act.put, List.setIfInBounds_toArray, List.set_cons_zero, List.set_cons_succ, i64_w, i32_w]
    rfl
  refine pure_ (i := 12) (N := some 116) (v := undef) (a' := ?_) #[true, true, true, true, true, true, true, true, true, true, true, true, true, false, false, false, false, false, false, false, false, false, false, false, false, false] rfl rfl (by kernel_rfl) (fun _ _ _ h => h) (Or.inr ⟨by rfl, rfl⟩) ?_ ?_
  rotate_left
  · simp only [Act.put, List.setIfInBounds_toArray, List.set_cons_zero, List.set_cons_succ, i64_w, i32_w]
    rfl
  refine pure_ (i := 13) (N := some 117) (v := undef) (a' := ?_) #[true, true, true, true, true, true, true, true, true, true, true, true, true, true, false, false, false, false, false, false, false, false, false, false, false, false] rfl rfl (by kernel_rfl) (fun _ _ _ h => h) (Or.inr ⟨by rfl, rfl⟩) ?_ ?_
  rotate_left
  · simp only [Act.put, List.setIfInBounds_toArray, List.set_cons_zero, List.set_cons_succ, i64_w, i32_w]
    rfl
  refine pure_ (i := 14) (N := some 118) (v := undef) (a' := ?_) #[true, true, true, true, true, true, true, true, true, true, true, true, true, true, true, false, false, false, false, false, false, false, false, false, false, false] rfl rfl (by kernel_rfl) (fun _ _ _ h => h) (Or.inr ⟨by rfl, rfl⟩) ?_ ?_
  rotate_left
  · simp only [Act.put, List.setIfInBounds_toArray, List.set_cons_zero, List.set_cons_succ, i64_w, i32_w]
    rfl
  refine pure_ (i := 15) (N := some 119) (v := undef) (a' := ?_) #[true, true, true, true, true, true, true, true, true, true, true, true, true, true, true, true, false, false, false, false, false, false, false, false, false, false] rfl rfl (by kernel_rfl) (fun _ _ _ h => h) (Or.inr ⟨by rfl, rfl⟩) ?_ ?_
  rotate_left
  · simp only [Act.put, List.setIfInBounds_toArray, List.set_cons_zero, List.set_cons_succ, i64_w, i32_w]
    rfl
  refine pure_ (i := 16) (N := some 120) (v := undef) (a' := ?_) #[true, true, true, true, true, true, true, true, true, true, true, true, true, true, true, true, true, false, false, false, false, false, false, false, false, false] rfl rfl (by kernel_rfl) (fun _ _ _ h => h) (Or.inr ⟨by rfl, rfl⟩) ?_ ?_
  rotate_left
  · simp only [Act.put, List.setIfInBounds_toArray, List.set_cons_zero, List.set_cons_succ, i64_w, i32_w]
    rfl
  refine pure_ (i := 17) (N := some 121) (v := undef) (a' := ?_) #[true, true, true, true, true, true, true, true, true, true, true, true, true, true, true, true, true, true, false, false, false, false, false, false, false, false] rfl rfl (by kernel_rfl) (fun _ _ _ h => h) (Or.inr ⟨by rfl, rfl⟩) ?_ ?_
  rotate_left
  · simp only [Act.put, List.setIfInBounds_toArray, List.set_cons_zero, List.set_cons_succ, i64_w, i32_w]
    rfl
  refine pure_ (i := 18) (N := some 122) (v := undef) (a' := ?_) #[true, true, true, true, true, true, true, true, true, true, true, true, true, true, true, true, true, true, true, false, false, false, false, false, false, false] rfl rfl (by kernel_rfl) (fun _ _ _ h => h) (Or.inr ⟨by rfl, rfl⟩) ?_ ?_
  rotate_left
  · simp only [Act.put, List.setIfInBounds_toArray, List.set_cons_zero, List.set_cons_succ, i64_w, i32_w]
    rfl
  refine pure_ (i := 19) (N := some 123) (v := undef) (a' := ?_) #[true, true, true, true, true, true, true, true, true, true, true, true, true, true, true, true, true, true, true, true, false, false, false, false, false, false] rfl rfl (by kernel_rfl) (fun _ _ _ h => h) (Or.inr ⟨by rfl, rfl⟩) ?_ ?_
  rotate_left
  · simp only [Act.put, List.setIfInBounds_toArray, List.set_cons_zero, List.set_cons_succ, i64_w, i32_w]
    rfl
  refine pure_ (i := 20) (N := some 124) (v := undef) (a' := ?_) #[true, true, true, true, true, true, true, true, true, true, true, true, true, true, true, true, true, true, true, true, true, false, false, false, false, false] rfl rfl (by kernel_rfl) (fun _ _ _ h => h) (Or.inr ⟨by rfl, rfl⟩) ?_ ?_
  rotate_left
  · simp only [Act.put, List.setIfInBounds_toArray, List.set_cons_zero, List.set_cons_succ, i64_w, i32_w]
    rfl
  refine pure_ (i := 21) (N := some 125) (v := undef) (a' := ?_) #[true, true, true, true, true, true, true, true, true, true, true, true, true, true, true, true, true, true, true, true, true, true, false, false, false, false] rfl rfl (by kernel_rfl) (fun _ _ _ h => h) (Or.inr ⟨by rfl, rfl⟩) ?_ ?_
  rotate_left
  · simp only [Act.put, List.setIfInBounds_toArray, List.set_cons_zero, List.set_cons_succ, i64_w, i32_w]
    rfl
  refine pure_ (i := 22) (N := some 126) (v := undef) (a' := ?_) #[true, true, true, true, true, true, true, true, true, true, true, true, true, true, true, true, true, true, true, true, true, true, true, false, false, false] rfl rfl (by kernel_rfl) (fun _ _ _ h => h) (Or.inr ⟨by rfl, rfl⟩) ?_ ?_
  rotate_left
  · simp only [Act.put, List.setIfInBounds_toArray, List.set_cons_zero, List.set_cons_succ, i64_w, i32_w]
    rfl
  refine pure_ (i := 23) (N := some 127) (v := undef) (a' := ?_) #[true, true, true, true, true, true, true, true, true, true, true, true, true, true, true, true, true, true, true, true, true, true, true, true, false, false] rfl rfl (by kernel_rfl) (fun _ _ _ h => h) (Or.inr ⟨by rfl, rfl⟩) ?_ ?_
  rotate_left
  · simp only [Act.put, List.setIfInBounds_toArray, List.set_cons_zero, List.set_cons_succ, i64_w, i32_w]
    rfl
  refine pure_ (i := 24) (N := some 128) (v := undef) (a' := ?_) #[true, true, true, true, true, true, true, true, true, true, true, true, true, true, true, true, true, true, true, true, true, true, true, true, true, false] rfl rfl (by kernel_rfl) (fun _ _ _ h => h) (Or.inr ⟨by rfl, rfl⟩) ?_ ?_
  rotate_left
  · simp only [Act.put, List.setIfInBounds_toArray, List.set_cons_zero, List.set_cons_succ, i64_w, i32_w]
    rfl
  refine pure_ (i := 25) (N := some 129) (v := ?_) (a' := ?_) #[true, true, true, true, true, true, true, true, true, true, true, true, true, true, true, true, true, true, true, true, true, true, true, true, true, true] rfl rfl (by kernel_rfl) (fun _ _ _ h => h) (Or.inl ⟨by rfl, ?_⟩) ?_ ?_
  rotate_left
  · intro w'
    go_simp
    with_reducible rfl
  rotate_left
  · simp only [Act.put, List.setIfInBounds_toArray, List.set_cons_zero, List.set_cons_succ, i64_w, i32_w]
    rfl
  refine done_ (by kernel_rfl) ?_
  have kn := hHeld.2.2
  clear hHeld kd
  have y20 := kn.out.here.2.2.1.k0
  have y21 := kn.out.here.2.2.1.k1
  have yp0 := kn.out.here.2.2.2.2.2.2.1.k0
  have yp1 := kn.out.here.2.2.2.2.2.2.1.k1
  go_upto_region 16 with (first | (go_at_call 17; (with_reducible refine (release_is n m A2 c2 B2 d2 L2 k ai k2 S2 _ ⟨kn.out.here.2.2.2.1⟩ hk2 L k2 0 h4.out).mono ?_); rintro e w4 ⟨S4, A4, c4, B4, d4, rfl, hl, hS, hb⟩; replace hb := Aside0.mk hb; replace hl := Aside0.mk hl))
  clear y20 y21 yp0 yp1
  replace kn := Aside0.mk (Kn.cons (Bx.new w4 (.slice A4 n c4) (.slice B4 m d4) 25).kn (Kn.cons (hl.out.below (bal w4 (.cells #[.slice A4 n c4, .slice B4 m d4] 25))).kn (kn.out.step (hb.out.alloc hb.out.size (.cells #[.slice A4 n c4, .slice B4 m d4] 25)))))
  clear hb hl
  generalize w4.alloc (.cells #[.slice A4 n c4, .slice B4 m d4] 25) = W4 at kn ⊢
  generalize w4.heap.size = b4 at kn ⊢
  have kd := Aside0.mk (kn.out.step (below_drew1 (Below.refl W4.heap.size W4)))
  clear kn
  refine start_ (n := 30) (S := fun w' => w'.cell? ⟨b4, 0, none⟩ = some (.slice A4 n c4) ∧ w'.cell? ⟨b4, 1, none⟩ = some (.slice B4 m d4) ∧ w'.cell? ⟨bl, 0, none⟩ = some (.slice A n c) ∧ w'.cell? ⟨bl, 1, none⟩ = some (.slice (some bd) m d) ∧ w'.cell? ⟨bp, 0, none⟩ = some (.int .i64 ai) ∧ w'.cell? ⟨bp, 1, none⟩ = some (.int .i64 aK) ∧ Aside0 (Kn (fun W => Bx b4 (.slice A4 n c4) (.slice B4 m d4) W ∧ LV S4 n m A4 c4 B4 d4 L W ∧ Bx b3 (.slice A3 n c3) (.slice B3 m d3) W ∧ LV S3 n m A3 c3 B3 d3 L3 W ∧ Bx b2 (.slice A2 n c2) (.slice B2 m d2) W ∧ LV S2 n m A2 c2 B2 d2 L2 W ∧ Bx b1 (.slice A1 n c1) (.slice B1 m d1) W ∧ LV S1 n m A1 c1 B1 d1 L1 W ∧ Bx bp (.int .i64 ai) (.int .i64 aK) W ∧ Bx bl (.slice A n c) (.slice (some bd) m d) W ∧ W.cell? (ad.add ai.toNat) = some (.int .i64 y) ∧ W.cell? (bd.add k.toNat) = some (.slice (some ad) n cr) ∧ LV S n m A c (some bd) d L W ∧ Tb w W) w')) (ds := []) #[false, false, false, false, false, false, false, false, false, false, false, false, false, false, false, false, false, false, false, false, false, false, false, false, false, false, false, false, false, false] (by kernel_rfl) rfl rfl ⟨kd.out.here.1.k0, kd.out.here.1.k1, kd.out.here.2.2.2.2.2.2.2.2.2.1.k0, kd.out.here.2.2.2.2.2.2.2.2.2.1.k1, kd.out.here.2.2.2.2.2.2.2.2.1.k0, kd.out.here.2.2.2.2.2.2.2.2.1.k1, kd⟩ (fun hHeld => ?_)
  generalize W4.drew = V4 at kd hHeld ⊢
  refine pure_ (i := 0) (N := some 145) (v := ?_) (a' := ?_) #[true, false, false, false, false, false, false, false, false, false, false, false, false, false, false, false, false, false, false, false, false, false, false, false, false, false, false, false, false, false] rfl rfl (by kernel_rfl) (fun _ _ _ h => h) (Or.inl ⟨by rfl, ?_⟩) ?_ ?_
  rotate_left
  · intro w'
    go_simp
    with_reducible rfl
  rotate_left
  · simp only [Act.put, List.setIfInBounds_toArray, List.set_cons_zero, List.set_cons_succ, i64_w, i32_w]
    rfl
  refine pure_ (i := 1) (N := some 146) (v := ?_) (a' := ?_) #[true, true, false, false, false, false, false, false, false, false, false, false, false, false, false, false, false, false, false, false, false, false, false, false, false, false, false, false, false, false] rfl rfl (by kernel_rfl) (fun _ _ _ h => h) (Or.inl ⟨by rfl, ?_⟩) ?_ ?_
  rotate_left
  · intro w'
    go_simp
    with_reducible rfl
  rotate_left
  · simp only [Act.put, List.setIfInBounds_toArray, List.set_cons_zero, List.set_cons_succ, i64_w, i32_w]
    rfl
  refine pure_ (i := 2) (N := some 147) (v := ?_) (a' := ?_) #[true, true, true, false, false, false, false, false, false, false, false, false, false, false, false, false, false, false, false, false, false, false, false, false, false, false, false, false, false, false] rfl rfl (by kernel_rfl) (fun _ _ _ h => h) (Or.inl ⟨by rfl, ?_⟩) ?_ ?_
  rotate_left
  · intro w'
    go_simp
    with_reducible rfl
  rotate_left
  · simp only [Act.put, List.setIfInBounds_toArray, List.set_cons_zero, List.set_cons_succ, i64_w, i32_w]
    rfl
  refine pure_ (i := 3) (N := some 148) (v := ?_) (a' := ?_) #[true, true, true, true, false, false, false, false, false, false, false, false, false, false, false, false, false, false, false, false, false, false, false, false, false, false, false, false, false, false] rfl rfl (by kernel_rfl) (fun _ _ _ h => h) (Or.inl ⟨by rfl, ?_⟩) ?_ ?_
  rotate_left
  · intro w'
    go_simp
    with_reducible rfl
  rotate_left
  · simp only [Act.put, List.setIfInBounds_toArray, List.set_cons_zero, List.set_cons_succ, i64_w, i32_w]
    rfl
  refine pure_ (i := 4) (N := some 149) (v := ?_) (a' := ?_) #[true, true, true, true, true, false, false, false, false, false, false, false, false, false, false, false, false, false, false, false, false, false, false, false, false, false, false, false, false, false] rfl rfl (by kernel_rfl) (fun _ _ _ h => h) (Or.inl ⟨by rfl, ?_⟩) ?_ ?_
  rotate_left
  · intro w'
    go_simp
    with_reducible rfl
  rotate_left
  · simp only [Act.put, List.setIfInBounds_toArray, List.set_cons_zero, List.set_cons_succ, i64_w, i32_w]
    rfl
  refine pure_ (i := 5) (N := some 150) (v := ?_) (a' := ?_) #[true, true, true, true, true, true, false, false, false, false, false, false, false, false, false, false, false, false, false, false, false, false, false, false, false, false, false, false, false, false] rfl rfl (by kernel_rfl) (fun _ _ _ h => h) (Or.inl ⟨by rfl, ?_⟩) ?_ ?_
  rotate_left
  · intro w'
    go_simp
    with_reducible rfl
  rotate_left
  · simp only [Act.put, List.setIfInBounds_toArray, List.set_cons_zero, List.set_cons_succ, i64_w, i32_w]
    rfl
  refine pure_ (i := 6) (N := some 151) (v := ?_) (a' := ?_) #[true, true, true, true, true, true, true, false, false, false, false, false, false, false, false, false, false, false, false, false, false, false, false, false, false, false, false, false, false, false] rfl rfl (by kernel_rfl) (fun _ _ _ h => h) (Or.inl ⟨by rfl, ?_⟩) ?_ ?_
  rotate_left
  · intro w'
    go_simp
    with_reducible rfl
  rotate_left
  · simp only [Act.put, List.setIfInBounds_toArray, List.set_cons_zero, List.set_cons_succ, i64_w, i32_w]
    rfl
  refine pure_ (i := 7) (N := some 152) (v := ?_) (a' := ?_) #[true, true, true, true, true, true, true, true, false, false, false, false, false, false, false, false, false, false, false, false, false, false, false, false, false, false, false, false, false, false] rfl rfl (by kernel_rfl) (fun _ _ _ h => h) (Or.inl ⟨by rfl, ?_⟩) ?_ ?_
  rotate_left
  · intro w'
    go_simp
    with_reducible rfl
  rotate_left
  · simp only [Act.put, List.setIfInBounds_toArray, List.set_cons_zero, List.set_cons_succ, i64_w, i32_w]
    rfl
  refine pure_ (i := 8) (N := some 153) (v := ?_) (a' := ?_) #[true, true, true, true, true, true, true, true, true, false, false, false, false, false, false, false, false, false, false, false, false, false, false, false, false, false, false, false, false, false] rfl rfl (by kernel_rfl) (fun _ _ _ h => h) (Or.inl ⟨by rfl, ?_⟩) ?_ ?_
  rotate_left
  · intro w'
    go_simp
    with_reducible rfl
  rotate_left
  · simp only [Act.put, List.setIfInBounds_toArray, List.set_cons_zero, List.set_cons_succ, i64_w, i32_w]
    rfl
  refine pure_ (i := 9) (N := some 154) (v := ?_) (a' := ?_) #[true, true, true, true, true, true, true, true, true, true, false, false, false, false, false, false, false, false, false, false, false, false, false, false, false, false, false, false, false, false] rfl rfl (by kernel_rfl) (fun _ _ _ h => h) (Or.inl ⟨by rfl, ?_⟩) ?_ ?_
  rotate_left
  · intro w'
    go_simp
    with_reducible rfl
  rotate_left
  · simp only [Act.put, List.setIfInBounds_toArray, List.set_cons_zero, List.set_cons_succ, i64_w, i32_w]
    rfl
  refine take_ (i := 10) (N := some 155) (v := ?_) (a' := ?_) #[true, true, true, true, true, true, true, true, true, true, true, false, false, false, false, false, false, false, false, false, false, false, false, false, false, false, false, false, false, false] rfl rfl (by kernel_rfl) (fun _ _ _ h => h) (Or.inl ⟨by rfl, ?_⟩) hHeld ?_ ?_
  rotate_left
  · rintro w' ⟨s0, s1, s2, s3, s4, s5, s6⟩
    go_simp
    with_reducible rfl
  rotate_left
  · simp only [Act.put, List.setIfInBounds_toArray, List.set_cons_zero, List.set_cons_succ, i64_w, i32_w]
    rfl
  refine pure_ (i := 11) (N := some 156) (v := ?_) (a' := ?_) #[true, true, true, true, true, true, true, true, true, true, true, true, false, false, false, false, false, false, false, false, false, false, false, false, false, false, false, false, false, false] rfl rfl (by kernel_rfl) (fun _ _ _ h => h) (Or.inl ⟨by rfl, ?_⟩) ?_ ?_
  rotate_left
  · intro w'
    go_simp
    with_reducible rfl
  rotate_left
  · simp only [Act.put, List.setIfInBounds_toArray, List.set_cons_zero, List.set_cons_succ, i64_w, i32_w]
    rfl
  refine pure_ (i := 12) (N := some 157) (v := ?_) (a' := ?_) #[true, true, true, true, true, true, true, true, true, true, true, true, true, false, false, false, false, false, false, false, false, false, false, false, false, false, false, false, false, false] rfl rfl (by kernel_rfl) (fun _ _ _ h => h) (Or.inl ⟨by rfl, ?_⟩) ?_ ?_
  rotate_left
  · intro w'
    go_simp
    with_reducible rfl
  rotate_left
  · simp only [Act.put, List.setIfInBounds_toArray, List.set_cons_zero, List.set_cons_succ, i64_w, i32_w]
    rfl
  refine pure_ (i := 13) (N := some 158) (v := ?_) (a' := ?_) #[true, true, true, true, true, true, true, true, true, true, true, true, true, true, false, false, false, false, false, false, false, false, false, false, false, false, false, false, false, false] rfl rfl (by kernel_rfl) (fun _ _ _ h => h) (Or.inl ⟨by rfl, ?_⟩) ?_ ?_
  rotate_left
  · intro w'
    go_simp
    with_reducible rfl
  rotate_left
  · simp only [Act.put, List.setIfInBounds_toArray, List.set_cons_zero, List.set_cons_succ, i64_w, i32_w]
    rfl
  refine pure_ (i := 14) (N := some 159) (v := ?_) (a' := ?_) #[true, true, true, true, true, true, true, true, true, true, true, true, true, true, true, false, false, false, false, false, false, false, false, false, false, false, false, false, false, false] rfl rfl (by kernel_rfl) (fun _ _ _ h => h) (Or.inl ⟨by rfl, ?_⟩) ?_ ?_
  rotate_left
  · intro w'
    go_simp
    with_reducible rfl
  rotate_left
  · simp only [Act.put, List.setIfInBounds_toArray, List.set_cons_zero, List.set_cons_succ, i64_w, i32_w]
    rfl
  refine pure_ (i := 15) (N := some 160) (v := ?_) (a' := ?_) #[true, true, true, true, true, true, true, true, true, true, true, true, true, true, true, true, false, false, false, false, false, false, false, false, false, false, false, false, false, false] rfl rfl (by kernel_rfl) (fun _ _ _ h => h) (Or.inl ⟨by rfl, ?_⟩) ?_ ?_
  rotate_left
  · intro w'
    go_simp
    with_reducible rfl
  rotate_left
  · simp only [Act.put, List.setIfInBounds_toArray, List.set_cons_zero, List.set_cons_succ, i64_w, i32_w]
    rfl
  refine pure_ (i := 16) (N := some 161) (v := ?_) (a' := ?_) #[true, true, true, true, true, true, true, true, true, true, true, true, true, true, true, true, true, false, false, false, false, false, false, false, false, false, false, false, false, false] rfl rfl (by kernel_rfl) (fun _ _ _ h => h) (Or.inl ⟨by rfl, ?_⟩) ?_ ?_
  rotate_left
  · intro w'
    go_simp
    with_reducible rfl
  rotate_left
  · simp only [Act.put, List.setIfInBounds_toArray, List.set_cons_zero, List.set_cons_succ, i64_w, i32_w]
    rfl
  refine pure_ (i := 17) (N := some 162) (v := undef) (a' := ?_) #[true, true, true, true, true, true, true, true, true, true, true, true, true, true, true, true, true, true, false, false, false, false, false, false, false, false, false, false, false, false] rfl rfl (by kernel_rfl) (fun _ _ _ h => h) (Or.inr ⟨by rfl, rfl⟩) ?_ ?_
  rotate_left
  · simp only [Act.put, List.setIfInBounds_toArray, List.set_cons_zero, List.set_cons_succ, i64_w, i32_w]
    rfl
  refine pure_ (i := 18) (N := some 163) (v := undef) (a' := ?_) #[true, true, true, true, true, true, true, true, true, true, true, true, true, true, true, true, true, true, true, false, false, false, false, false, false, false, false, false, false, false] rfl rfl (by kernel_rfl) (fun _ _ _ h => h) (Or.inr ⟨by rfl, rfl⟩) ?_ ?_
  rotate_left
  · simp only [Act.put, List.setIfInBounds_toArray, List.set_cons_zero, List.set_cons_succ, i64_w, i32_w]
    rfl
  refine pure_ (i := 19) (N := some 164) (v := undef) (a' := ?_) #[true, true, true, true, true, true, true, true, true, true, true, true, true, true, true, true, true, true, true, true, false, false, false, false, false, false, false, false, false, false] rfl rfl (by kernel_rfl) (fun _ _ _ h => h) (Or.inr ⟨by rfl, rfl⟩) ?_ ?_
  rotate_left
  · simp only [Act.put, List.setIfInBounds_toArray, List.set_cons_zero, List.set_cons_succ, i64_w, i32_w]
    rfl
  refine pure_ (i := 20) (N := some 165) (v := ?_) (a' := ?_) #[true, true, true, true, true, true, true, true, true, true, true, true, true, true, true, true, true, true, true, true, true, false, false, false, false, false, false, false, false, false] rfl rfl (by kernel_rfl) (fun _ _ _ h => h) (Or.inl ⟨by rfl, ?_⟩) ?_ ?_
  rotate_left
  · intro w'
    go_simp
    with_reducible rfl
  rotate_left
  · simp only [Act.put, List.setIfInBounds_toArray, List.set_cons_zero, List.set_cons_succ, i64_w, i32_w]
    rfl
  refine pure_ (i := 21) (N := some 166) (v := ?_) (a' := ?_) #[true, true, true, true, true, true, true, true, true, true, true, true, true, true, true, true, true, true, true, true, true, true, false, false, false, false, false, false, false, false] rfl rfl (by kernel_rfl) (fun _ _ _ h => h) (Or.inl ⟨by rfl, ?_⟩) ?_ ?_
  rotate_left
  · intro w'
    go_simp
    with_reducible rfl
  rotate_left
  · simp only [Act.put, List.setIfInBounds_toArray, List.set_cons_zero, List.set_cons_succ, i64_w, i32_w]
    rfl
  refine pure_ (i := 22) (N := some 167) (v := ?_) (a' := ?_) #[true, true, true, true, true, true, true, true, true, true, true, true, true, true, true, true, true, true, true, true, true, true, true, false, false, false, false, false, false, false] rfl rfl (by kernel_rfl) (fun _ _ _ h => h) (Or.inl ⟨by rfl, ?_⟩) ?_ ?_
  rotate_left
  · intro w'
    go_simp
    with_reducible rfl
  rotate_left
  · simp only [Act.put, List.setIfInBounds_toArray, List.set_cons_zero, List.set_cons_succ, i64_w, i32_w]
    rfl
  refine take_ (i := 23) (N := some 168) (v := ?_) (a' := ?_) #[true, true, true, true, true, true, true, true, true, true, true, true, true, true, true, true, true, true, true, true, true, true, true, true, false, false, false, false, false, false] rfl rfl (by kernel_rfl) (fun _ _ _ h => h) (Or.inl ⟨by rfl, ?_⟩) hHeld ?_ ?_
  rotate_left
  · rintro w' ⟨s0, s1, s2, s3, s4, s5, s6⟩
    go_simp
    with_reducible rfl
  rotate_left
  · simp only [Act.put, List.setIfInBounds_toArray, List.set_cons_zero, List.set_cons_succ, i64_w, i32_w]
    rfl
  refine take_ (i := 25) (N := some 170) (v := ?_) (a' := ?_) #[true, true, true, true, true, true, true, true, true, true, true, true, true, true, true, true, true, true, true, true, true, true, true, true, false, true, false, false, false, false] rfl rfl (by kernel_rfl) (fun _ _ _ h => h) (Or.inl ⟨by rfl, ?_⟩) hHeld ?_ ?_
  rotate_left
  · rintro w' ⟨s0, s1, s2, s3, s4, s5, s6⟩
    go_simp
    with_reducible rfl
  rotate_left
  · simp only [Act.put, List.setIfInBounds_toArray, List.set_cons_zero, List.set_cons_succ, i64_w, i32_w]
    rfl
  refine one_ (i := 24) (N := some 169) #[true, true, true, true, true, true, true, true, true, true, true, true, true, true, true, true, true, true, true, true, true, true, true, true, true, true, false, false, false, false] rfl rfl (by kernel_rfl) (by decide) (fun K hK => ?_)
  refine goes_ Try.func12 (by kernel_rfl) rfl #[.agg #[.slice A4 n c4, .slice B4 m d4]] (by rfl) rfl rfl (by simp only [List.map_toArray, List.map_cons, List.map_nil]; rfl) ?_
  with_reducible refine (its_is A4 n c4 B4 m d4 _).mono ?_
  rintro e x24 ⟨rfl, hb⟩
  refine ⟨_, rfl, ?_⟩
  have kz := Aside0.mk (hHeld.2.2.2.2.2.2.out.step hb)
  clear hHeld hb
  refine hK.out _ _ ⟨kz.out.here.1.k0, kz.out.here.1.k1, kz.out.here.2.2.2.2.2.2.2.2.2.1.k0, kz.out.here.2.2.2.2.2.2.2.2.2.1.k1, kz.out.here.2.2.2.2.2.2.2.2.1.k0, kz.out.here.2.2.2.2.2.2.2.2.1.k1, kz⟩ (fun hHeld => ?_)
  clear hK K
  refine norm_ (a' := ?_) ?_ ?_
  rotate_left
  · show Act.put _ (some 169) _ = _
    simp only [Act.put, List.setIfInBounds_toArray, List.set_cons_zero, List.set_cons_succ, i64_w, i32_w]
    rfl
  refine one_ (i := 26) (N := some 171) #[true, true, true, true, true, true, true, true, true, true, true, true, true, true, true, true, true, true, true, true, true, true, true, true, true, true, true, false, false, false] rfl rfl (by kernel_rfl) (by decide) (fun K hK => ?_)
  refine goes_ Try.func12 (by kernel_rfl) rfl #[.agg #[.slice A n c, .slice (some bd) m d]] (by rfl) rfl rfl (by simp only [List.map_toArray, List.map_cons, List.map_nil]; rfl) ?_
  with_reducible refine (its_is A n c (some bd) m d _).mono ?_
  rintro e x26 ⟨rfl, hb⟩
  refine ⟨_, rfl, ?_⟩
  have kz := Aside0.mk (hHeld.2.2.2.2.2.2.out.step hb)
  clear hHeld hb
  refine hK.out _ _ ⟨kz.out.here.1.k0, kz.out.here.1.k1, kz.out.here.2.2.2.2.2.2.2.2.2.1.k0, kz.out.here.2.2.2.2.2.2.2.2.2.1.k1, kz.out.here.2.2.2.2.2.2.2.2.1.k0, kz.out.here.2.2.2.2.2.2.2.2.1.k1, kz⟩ (fun hHeld => ?_)
  clear hK K
  refine norm_ (a' := ?_) ?_ ?_
  rotate_left
  · show Act.put _ (some 171) _ = _
    simp only [Act.put, List.setIfInBounds_toArray, List.set_cons_zero, List.set_cons_succ, i64_w, i32_w]
    rfl
  refine one_ (i := 27) (N := some 172) #[true, true, true, true, true, true, true, true, true, true, true, true, true, true, true, true, true, true, true, true, true, true, true, true, true, true, true, true, false, false] rfl rfl (by kernel_rfl) (by decide) (fun K hK => ?_)
  refine goes_ Try.func19 (by kernel_rfl) rfl #[.agg #[.slice A4 n c4, .slice B4 m d4], .agg #[.slice A n c, .slice (some bd) m d]] (by rfl) rfl rfl (by simp only [List.map_toArray, List.map_cons, List.map_nil]; rfl) ?_
  with_reducible refine (same_is n m A4 c4 B4 d4 A c (some bd) d L S4 S _ (hHeld.2.2.2.2.2.2).out.here.2.1 (hHeld.2.2.2.2.2.2).out.here.2.2.2.2.2.2.2.2.2.2.2.2.1).mono ?_
  rintro e x27 ⟨rfl, hb⟩
  refine ⟨_, rfl, ?_⟩
  have kz := Aside0.mk (hHeld.2.2.2.2.2.2.out.step hb)
  clear hHeld hb
  refine hK.out _ _ ⟨kz.out.here.1.k0, kz.out.here.1.k1, kz.out.here.2.2.2.2.2.2.2.2.2.1.k0, kz.out.here.2.2.2.2.2.2.2.2.2.1.k1, kz.out.here.2.2.2.2.2.2.2.2.1.k0, kz.out.here.2.2.2.2.2.2.2.2.1.k1, kz⟩ (fun hHeld => ?_)
  clear hK K
  refine norm_ (a' := ?_) ?_ ?_
  rotate_left
  · show Act.put _ (some 172) _ = _
    simp only [Act.put, List.setIfInBounds_toArray, List.set_cons_zero, List.set_cons_succ, i64_w, i32_w]
    rfl
  refine pure_ (i := 28) (N := some 173) (v := ?_) (a' := ?_) #[true, true, true, true, true, true, true, true, true, true, true, true, true, true, true, true, true, true, true, true, true, true, true, true, true, true, true, true, true, false] rfl rfl (by kernel_rfl) (fun _ _ _ h => h) (Or.inl ⟨by rfl, ?_⟩) ?_ ?_
  rotate_left
  · intro w'
    go_simp
    with_reducible rfl
  rotate_left
  · simp only [Act.put, List.setIfInBounds_toArray, List.set_cons_zero, List.set_cons_succ, i64_w, i32_w]
    rfl
  refine pure_ (i := 29) (N := some 6) (v := ?_) (a' := ?_) #[true, true, true, true, true, true, true, true, true, true, true, true, true, true, true, true, true, true, true, true, true, true, true, true, true, true, true, true, true, true] rfl rfl (by kernel_rfl) (fun _ _ _ h => h) (Or.inl ⟨by rfl, ?_⟩) ?_ ?_
  rotate_left
  · intro w'
    go_simp
    with_reducible rfl
  rotate_left
  · simp only [Act.put, List.setIfInBounds_toArray, List.set_cons_zero, List.set_cons_succ, i64_w, i32_w]
    rfl
  refine done_ (by kernel_rfl) ?_
  have kn := hHeld.2.2.2.2.2.2
  clear hHeld kd kz
  go_wp2
  go_ret
  exact ⟨rfl, kn.out.here.2.2.2.2.2.2.2.2.2.2.2.2.2⟩
set_option maxHeartbeats 8000000 in
set_option maxRecDepth 100000 in
theorem back_g3 (n m : Nat) (A : Option Addr) (c : Nat) (bd : Addr) (d : Nat) (L : LG) (tk k ai aK : Int) (S : Nat → Prop) (w : World) (h : Aside0 (LV S n m A c (some bd) d L w)) (ha0 : Aside0 (-9223372036854775808 ≤ aK ∧ aK ≤ 9223372036854775807)) (hm0 : ((m : Int) == 0) = false) (hm1 : ¬ (m : Int) = 0) (hwk : IntKind.i64.wrap tk = tk) (hrem : IntKind.i64.wrap (tk.tmod m) = k) (hrem2 : tk.tmod m = k) (L1 L2 L3 : LG) (k1 k2 k3 e3 : Int) (ad : Addr) (cr : Nat) (y : Int) (hc1 : Aside0 (w.cell? (bd.add k.toNat) = some (.slice (some ad) n cr))) (hc2 : Aside0 (w.cell? (ad.add ai.toNat) = some (.int .i64 y))) (kb0 : 0 ≤ k) (kb1 : k < m) (ib0 : 0 ≤ ai) (ib1 : ai < n) (hy : decide (y < 0) = false) (hy2 : decide (y > 1000000000000) = false) (hkp : aK > 0) (hk : decide (aK > 0) = true) (hk2 : Aside0 (-9223372036854775808 ≤ aK ∧ aK ≤ 9223372036854775807)) (hj : (aK == 0) = false) (hle : decide (aK ≤ aK) = true) (h4 : Aside0 (relS n m L2 k ai aK = (L, aK, 0))) (h1 : Aside0 (resS n m L k ai aK = (L1, aK, 0))) (h2 : Aside0 (someS n m L k ai aK = (L2, aK, 0))) (h3 : Aside0 (relS n m L1 k ai aK = (L, aK, 0))) :
    Calls Try.prog 8 #[.agg #[.slice A n c, .slice (some bd) m d], .int .u8 tk, .agg #[.int .i64 ai, .int .i64 aK]] w fun e w' => e = .returned (.bool true) ∧ Below w.heap.size w w' := by
  go_enter Try.func8, Try.ntmps8
  go_upto_region 1 with (fail)
  have kn := Aside0.mk (Kn.cons h.out.kn (tb_kn (Below.refl w.heap.size w)))
  replace kn := Aside0.mk (Kn.cons (cell_kn hc1.out) kn.out)
  replace kn := Aside0.mk (Kn.cons (cell_kn hc2.out) kn.out)
  replace kn := Aside0.mk (Kn.cons (Bx.new (w) (.slice A n c) (.slice (some bd) m d) 25).kn (kn.out.step (bal (w) (.cells #[.slice A n c, .slice (some bd) m d] 25))))
  replace kn := Aside0.mk (Kn.cons (Bx.new ((w).alloc (.cells #[.slice A n c, .slice (some bd) m d] 25)) (.int .i64 ai) (.int .i64 aK) 27).kn (kn.out.step (bal ((w).alloc (.cells #[.slice A n c, .slice (some bd) m d] 25)) (.cells #[.int .i64 ai, .int .i64 aK] 27))))
  simp only [World.size_alloc] at kn
  generalize ((w).alloc (.cells #[.slice A n c, .slice (some bd) m d] 25)).alloc (.cells #[.int .i64 ai, .int .i64 aK] 27) = W0 at kn ⊢
  generalize w.heap.size + 1 = bp at kn ⊢
  generalize hz : w.heap.size = bl at kn ⊢
  clear hz
  have yl0 := kn.out.here.2.1.k0
  have yl1 := kn.out.here.2.1.k1
  go_upto_region 3 with (first | (go_at_call 10; (with_reducible refine (fine_lv (kn.out.here.2.2.2.2.1)).mono ?_); rintro e wf ⟨rfl, hb⟩; have kf := Aside0.mk (kn.out.step hb); clear hb kn; have zl0 := kf.out.here.2.1.k0; have zl1 := kf.out.here.2.1.k1) | (go_at_call 11; (with_reducible refine (shown_is _).mono ?_); rintro e wg ⟨rfl, hb⟩; have kn := Aside0.mk (kf.out.step hb); clear hb kf))
  clear yl0 yl1 zl0 zl1
  have yl0 := kn.out.here.2.1.k0
  have yl1 := kn.out.here.2.1.k1
  go_upto_region 4 with (fail)
  clear yl0 yl1
  have yl0 := kn.out.here.2.1.k0
  have yl1 := kn.out.here.2.1.k1
  have yp0 := kn.out.here.1.k0
  have yp1 := kn.out.here.1.k1
  go_upto_region 5 with (first | (go_at_call 13; (with_reducible refine (reserve_is n m A c (some bd) d L k ai aK S _ ⟨kn.out.here.2.2.2.2.1⟩ ha0 L1 aK 0 h1.out).mono ?_); rintro e w1 ⟨S1, A1, c1, B1, d1, rfl, hl, hS, hb⟩; replace hb := Aside0.mk hb; replace hl := Aside0.mk hl))
  clear yl0 yl1 yp0 yp1
  replace kn := Aside0.mk (Kn.cons (Bx.new w1 (.slice A1 n c1) (.slice B1 m d1) 25).kn (Kn.cons (hl.out.below (bal w1 (.cells #[.slice A1 n c1, .slice B1 m d1] 25))).kn (kn.out.step (hb.out.alloc hb.out.size (.cells #[.slice A1 n c1, .slice B1 m d1] 25)))))
  clear hb hl
  generalize w1.alloc (.cells #[.slice A1 n c1, .slice B1 m d1] 25) = W1 at kn ⊢
  generalize w1.heap.size = b1 at kn ⊢
  have yl0 := kn.out.here.2.2.2.1.k0
  have yl1 := kn.out.here.2.2.2.1.k1
  have yp0 := kn.out.here.2.2.1.k0
  have yp1 := kn.out.here.2.2.1.k1
  go_upto_region 6 with (first | (go_at_call 15; (with_reducible refine (some_is n m A c (some bd) d L k ai aK S _ ⟨kn.out.here.2.2.2.2.2.2.1⟩ ha0 L2 aK 0 h2.out).mono ?_); rintro e w2 ⟨S2, A2, c2, B2, d2, rfl, hl, hS, hb⟩; replace hb := Aside0.mk hb; replace hl := Aside0.mk hl))
  clear yl0 yl1 yp0 yp1
  replace kn := Aside0.mk (Kn.cons (Bx.new w2 (.slice A2 n c2) (.slice B2 m d2) 25).kn (Kn.cons (hl.out.below (bal w2 (.cells #[.slice A2 n c2, .slice B2 m d2] 25))).kn (kn.out.step (hb.out.alloc hb.out.size (.cells #[.slice A2 n c2, .slice B2 m d2] 25)))))
  clear hb hl
  generalize w2.alloc (.cells #[.slice A2 n c2, .slice B2 m d2] 25) = W2 at kn ⊢
  generalize w2.heap.size = b2 at kn ⊢
  go_upto_region 8 with (fail)
  have kd := Aside0.mk (kn.out.step (below_drew1 (Below.refl W2.heap.size W2)))
  clear kn
  refine start_ (n := 22) (S := fun w' => w'.cell? ⟨bl, 0, none⟩ = some (.slice A n c) ∧ w'.cell? ⟨bl, 1, none⟩ = some (.slice (some bd) m d) ∧ w'.cell? ⟨bp, 0, none⟩ = some (.int .i64 ai) ∧ w'.cell? ⟨bp, 1, none⟩ = some (.int .i64 aK) ∧ w'.cell? (bd.add k.toNat) = some (.slice (some ad) n cr) ∧ w'.cell? (ad.add ai.toNat) = some (.int .i64 y) ∧ Aside0 (Kn (fun W => Bx b2 (.slice A2 n c2) (.slice B2 m d2) W ∧ LV S2 n m A2 c2 B2 d2 L2 W ∧ Bx b1 (.slice A1 n c1) (.slice B1 m d1) W ∧ LV S1 n m A1 c1 B1 d1 L1 W ∧ Bx bp (.int .i64 ai) (.int .i64 aK) W ∧ Bx bl (.slice A n c) (.slice (some bd) m d) W ∧ W.cell? (ad.add ai.toNat) = some (.int .i64 y) ∧ W.cell? (bd.add k.toNat) = some (.slice (some ad) n cr) ∧ LV S n m A c (some bd) d L W ∧ Tb w W) w')) (ds := []) #[false, false, false, false, false, false, false, false, false, false, false, false, false, false, false, false, false, false, false, false, false, false] (by kernel_rfl) rfl rfl ⟨kd.out.here.2.2.2.2.2.1.k0, kd.out.here.2.2.2.2.2.1.k1, kd.out.here.2.2.2.2.1.k0, kd.out.here.2.2.2.2.1.k1, kd.out.here.2.2.2.2.2.2.2.1, kd.out.here.2.2.2.2.2.2.1, kd⟩ (fun hHeld => ?_)
  generalize W2.drew = V2 at kd hHeld ⊢
  refine pure_ (i := 0) (N := some 74) (v := ?_) (a' := ?_) #[true, false, false, false, false, false, false, false, false, false, false, false, false, false, false, false, false, false, false, false, false, false] rfl rfl (by kernel_rfl) (fun _ _ _ h => h) (Or.inl ⟨by rfl, ?_⟩) ?_ ?_
  rotate_left
  · intro w'
    go_simp
    with_reducible rfl
  rotate_left
  · simp only [Act.put, List.setIfInBounds_toArray, List.set_cons_zero, List.set_cons_succ, i64_w, i32_w]
    rfl
  refine pure_ (i := 2) (N := some 76) (v := ?_) (a' := ?_) #[true, false, true, false, false, false, false, false, false, false, false, false, false, false, false, false, false, false, false, false, false, false] rfl rfl (by kernel_rfl) (fun _ _ _ h => h) (Or.inl ⟨by rfl, ?_⟩) ?_ ?_
  rotate_left
  · intro w'
    go_simp
    with_reducible rfl
  rotate_left
  · simp only [Act.put, List.setIfInBounds_toArray, List.set_cons_zero, List.set_cons_succ, i64_w, i32_w]
    rfl
  refine pure_ (i := 5) (N := some 79) (v := ?_) (a' := ?_) #[true, false, true, false, false, true, false, false, false, false, false, false, false, false, false, false, false, false, false, false, false, false] rfl rfl (by kernel_rfl) (fun _ _ _ h => h) (Or.inl ⟨by rfl, ?_⟩) ?_ ?_
  rotate_left
  · intro w'
    go_simp
    with_reducible rfl
  rotate_left
  · simp only [Act.put, List.setIfInBounds_toArray, List.set_cons_zero, List.set_cons_succ, i64_w, i32_w]
    rfl
  refine take_ (i := 1) (N := some 75) (v := ?_) (a' := ?_) #[true, true, true, false, false, true, false, false, false, false, false, false, false, false, false, false, false, false, false, false, false, false] rfl rfl (by kernel_rfl) (fun _ _ _ h => h) (Or.inl ⟨by rfl, ?_⟩) hHeld ?_ ?_
  rotate_left
  · rintro w' ⟨s0, s1, s2, s3, s4, s5, s6⟩
    go_simp
    with_reducible rfl
  rotate_left
  · simp only [Act.put, List.setIfInBounds_toArray, List.set_cons_zero, List.set_cons_succ, i64_w, i32_w]
    rfl
  refine pure_ (i := 3) (N := some 77) (v := ?_) (a' := ?_) #[true, true, true, true, false, true, false, false, false, false, false, false, false, false, false, false, false, false, false, false, false, false] rfl rfl (by kernel_rfl) (fun _ _ _ h => h) (Or.inl ⟨by rfl, ?_⟩) ?_ ?_
  rotate_left
  · intro w'
    go_simp
    with_reducible rfl
  rotate_left
  · simp only [Act.put, List.setIfInBounds_toArray, List.set_cons_zero, List.set_cons_succ, i64_w, i32_w]
    rfl
  refine take_ (i := 4) (N := some 78) (v := ?_) (a' := ?_) #[true, true, true, true, true, true, false, false, false, false, false, false, false, false, false, false, false, false, false, false, false, false] rfl rfl (by kernel_rfl) (fun _ _ _ h => h) (Or.inl ⟨by rfl, ?_⟩) hHeld ?_ ?_
  rotate_left
  · rintro w' ⟨s0, s1, s2, s3, s4, s5, s6⟩
    go_simp
    with_reducible rfl
  rotate_left
  · simp only [Act.put, List.setIfInBounds_toArray, List.set_cons_zero, List.set_cons_succ, i64_w, i32_w]
    rfl
  refine take_ (i := 6) (N := some 80) (v := ?_) (a' := ?_) #[true, true, true, true, true, true, true, false, false, false, false, false, false, false, false, false, false, false, false, false, false, false] rfl rfl (by kernel_rfl) (fun _ _ _ h => h) (Or.inl ⟨by rfl, ?_⟩) hHeld ?_ ?_
  rotate_left
  · rintro w' ⟨s0, s1, s2, s3, s4, s5, s6⟩
    go_simp
    with_reducible rfl
  rotate_left
  · simp only [Act.put, List.setIfInBounds_toArray, List.set_cons_zero, List.set_cons_succ, i64_w, i32_w]
    rfl
  refine pure_ (i := 7) (N := some 81) (v := ?_) (a' := ?_) #[true, true, true, true, true, true, true, true, false, false, false, false, false, false, false, false, false, false, false, false, false, false] rfl rfl (by kernel_rfl) (fun _ _ _ h => h) (Or.inl ⟨by rfl, ?_⟩) ?_ ?_
  rotate_left
  · intro w'
    go_simp
    with_reducible rfl
  rotate_left
  · simp only [Act.put, List.setIfInBounds_toArray, List.set_cons_zero, List.set_cons_succ, i64_w, i32_w]
    rfl
  refine take_ (i := 8) (N := some 82) (v := ?_) (a' := ?_) #[true, true, true, true, true, true, true, true, true, false, false, false, false, false, false, false, false, false, false, false, false, false] rfl rfl (by kernel_rfl) (fun _ _ _ h => h) (Or.inl ⟨by rfl, ?_⟩) hHeld ?_ ?_
  rotate_left
  · rintro w' ⟨s0, s1, s2, s3, s4, s5, s6⟩
    go_simp
    with_reducible rfl
  rotate_left
  · simp only [Act.put, List.setIfInBounds_toArray, List.set_cons_zero, List.set_cons_succ, i64_w, i32_w]
    rfl
  refine pure_ (i := 9) (N := some 83) (v := ?_) (a' := ?_) #[true, true, true, true, true, true, true, true, true, true, false, false, false, false, false, false, false, false, false, false, false, false] rfl rfl (by kernel_rfl) (fun _ _ _ h => h) (Or.inl ⟨by rfl, ?_⟩) ?_ ?_
  rotate_left
  · intro w'
    go_simp
    with_reducible rfl
  rotate_left
  · simp only [Act.put, List.setIfInBounds_toArray, List.set_cons_zero, List.set_cons_succ, i64_w, i32_w]
    rfl
  refine pure_ (i := 10) (N := some 84) (v := ?_) (a' := ?_) #[true, true, true, true, true, true, true, true, true, true, true, false, false, false, false, false, false, false, false, false, false, false] rfl rfl (by kernel_rfl) (fun _ _ _ h => h) (Or.inl ⟨by rfl, ?_⟩) ?_ ?_
  rotate_left
  · intro w'
    go_simp
    with_reducible rfl
  rotate_left
  · simp only [Act.put, List.setIfInBounds_toArray, List.set_cons_zero, List.set_cons_succ, i64_w, i32_w]
    rfl
  refine pure_ (i := 11) (N := some 85) (v := ?_) (a' := ?_) #[true, true, true, true, true, true, true, true, true, true, true, true, false, false, false, false, false, false, false, false, false, false] rfl rfl (by kernel_rfl) (fun _ _ _ h => h) (Or.inl ⟨by rfl, ?_⟩) ?_ ?_
  rotate_left
  · intro w'
    go_simp
    with_reducible rfl
  rotate_left
  · simp only [Act.put, List.setIfInBounds_toArray, List.set_cons_zero, List.set_cons_succ, i64_w, i32_w]
    rfl
  refine pure_ (i := 13) (N := some 87) (v := ?_) (a' := ?_) #[true, true, true, true, true, true, true, true, true, true, true, true, false, true, false, false, false, false, false, false, false, false] rfl rfl (by kernel_rfl) (fun _ _ _ h => h) (Or.inl ⟨by rfl, ?_⟩) ?_ ?_
  rotate_left
  · intro w'
    go_simp
    with_reducible rfl
  rotate_left
  · simp only [Act.put, List.setIfInBounds_toArray, List.set_cons_zero, List.set_cons_succ, i64_w, i32_w]
    rfl
  refine pure_ (i := 16) (N := some 90) (v := ?_) (a' := ?_) #[true, true, true, true, true, true, true, true, true, true, true, true, false, true, false, false, true, false, false, false, false, false] rfl rfl (by kernel_rfl) (fun _ _ _ h => h) (Or.inl ⟨by rfl, ?_⟩) ?_ ?_
  rotate_left
  · intro w'
    go_simp
    with_reducible rfl
  rotate_left
  · simp only [Act.put, List.setIfInBounds_toArray, List.set_cons_zero, List.set_cons_succ, i64_w, i32_w]
    rfl
  refine take_ (i := 12) (N := some 86) (v := ?_) (a' := ?_) #[true, true, true, true, true, true, true, true, true, true, true, true, true, true, false, false, true, false, false, false, false, false] rfl rfl (by kernel_rfl) (fun _ _ _ h => h) (Or.inl ⟨by rfl, ?_⟩) hHeld ?_ ?_
  rotate_left
  · rintro w' ⟨s0, s1, s2, s3, s4, s5, s6⟩
    go_simp
    with_reducible rfl
  rotate_left
  · simp only [Act.put, List.setIfInBounds_toArray, List.set_cons_zero, List.set_cons_succ, i64_w, i32_w]
    rfl
  refine pure_ (i := 14) (N := some 88) (v := ?_) (a' := ?_) #[true, true, true, true, true, true, true, true, true, true, true, true, true, true, true, false, true, false, false, false, false, false] rfl rfl (by kernel_rfl) (fun _ _ _ h => h) (Or.inl ⟨by rfl, ?_⟩) ?_ ?_
  rotate_left
  · intro w'
    go_simp
    with_reducible rfl
  rotate_left
  · simp only [Act.put, List.setIfInBounds_toArray, List.set_cons_zero, List.set_cons_succ, i64_w, i32_w]
    rfl
  refine take_ (i := 15) (N := some 89) (v := ?_) (a' := ?_) #[true, true, true, true, true, true, true, true, true, true, true, true, true, true, true, true, true, false, false, false, false, false] rfl rfl (by kernel_rfl) (fun _ _ _ h => h) (Or.inl ⟨by rfl, ?_⟩) hHeld ?_ ?_
  rotate_left
  · rintro w' ⟨s0, s1, s2, s3, s4, s5, s6⟩
    go_simp
    with_reducible rfl
  rotate_left
  · simp only [Act.put, List.setIfInBounds_toArray, List.set_cons_zero, List.set_cons_succ, i64_w, i32_w]
    rfl
  refine take_ (i := 17) (N := some 91) (v := ?_) (a' := ?_) #[true, true, true, true, true, true, true, true, true, true, true, true, true, true, true, true, true, true, false, false, false, false] rfl rfl (by kernel_rfl) (fun _ _ _ h => h) (Or.inl ⟨by rfl, ?_⟩) hHeld ?_ ?_
  rotate_left
  · rintro w' ⟨s0, s1, s2, s3, s4, s5, s6⟩
    go_simp
    with_reducible rfl
  rotate_left
  · simp only [Act.put, List.setIfInBounds_toArray, List.set_cons_zero, List.set_cons_succ, i64_w, i32_w]
    rfl
  refine pure_ (i := 18) (N := some 92) (v := ?_) (a' := ?_) #[true, true, true, true, true, true, true, true, true, true, true, true, true, true, true, true, true, true, true, false, false, false] rfl rfl (by kernel_rfl) (fun _ _ _ h => h) (Or.inl ⟨by rfl, ?_⟩) ?_ ?_
  rotate_left
  · intro w'
    go_simp
    with_reducible rfl
  rotate_left
  · simp only [Act.put, List.setIfInBounds_toArray, List.set_cons_zero, List.set_cons_succ, i64_w, i32_w]
    rfl
  refine take_ (i := 19) (N := some 93) (v := ?_) (a' := ?_) #[true, true, true, true, true, true, true, true, true, true, true, true, true, true, true, true, true, true, true, true, false, false] rfl rfl (by kernel_rfl) (fun _ _ _ h => h) (Or.inl ⟨by rfl, ?_⟩) hHeld ?_ ?_
  rotate_left
  · rintro w' ⟨s0, s1, s2, s3, s4, s5, s6⟩
    go_simp
    with_reducible rfl
  rotate_left
  · simp only [Act.put, List.setIfInBounds_toArray, List.set_cons_zero, List.set_cons_succ, i64_w, i32_w]
    rfl
  refine pure_ (i := 20) (N := some 94) (v := ?_) (a' := ?_) #[true, true, true, true, true, true, true, true, true, true, true, true, true, true, true, true, true, true, true, true, true, false] rfl rfl (by kernel_rfl) (fun _ _ _ h => h) (Or.inl ⟨by rfl, ?_⟩) ?_ ?_
  rotate_left
  · intro w'
    go_simp
    with_reducible rfl
  rotate_left
  · simp only [Act.put, List.setIfInBounds_toArray, List.set_cons_zero, List.set_cons_succ, i64_w, i32_w]
    rfl
  refine pure_ (i := 21) (N := some 95) (v := ?_) (a' := ?_) #[true, true, true, true, true, true, true, true, true, true, true, true, true, true, true, true, true, true, true, true, true, true] rfl rfl (by kernel_rfl) (fun _ _ _ h => h) (Or.inl ⟨by rfl, ?_⟩) ?_ ?_
  rotate_left
  · intro w'
    go_simp
    with_reducible rfl
  rotate_left
  · simp only [Act.put, List.setIfInBounds_toArray, List.set_cons_zero, List.set_cons_succ, i64_w, i32_w]
    rfl
  refine done_ (by kernel_rfl) ?_
  have kn := hHeld.2.2.2.2.2.2
  clear hHeld kd
  have y10 := kn.out.here.2.2.1.k0
  have y11 := kn.out.here.2.2.1.k1
  have yp0 := kn.out.here.2.2.2.2.1.k0
  have yp1 := kn.out.here.2.2.2.2.1.k1
  go_upto_region 11 with (first | (go_at_call 17; (with_reducible refine (release_is n m A1 c1 B1 d1 L1 k ai aK S1 _ ⟨kn.out.here.2.2.2.1⟩ ha0 L aK 0 h3.out).mono ?_); rintro e w3 ⟨S3, A3, c3, B3, d3, rfl, hl, hS, hb⟩; replace hb := Aside0.mk hb; replace hl := Aside0.mk hl))
  clear y10 y11 yp0 yp1
  replace kn := Aside0.mk (Kn.cons (Bx.new w3 (.slice A3 n c3) (.slice B3 m d3) 25).kn (Kn.cons (hl.out.below (bal w3 (.cells #[.slice A3 n c3, .slice B3 m d3] 25))).kn (kn.out.step (hb.out.alloc hb.out.size (.cells #[.slice A3 n c3, .slice B3 m d3] 25)))))
  clear hb hl
  generalize w3.alloc (.cells #[.slice A3 n c3, .slice B3 m d3] 25) = W3 at kn ⊢
  generalize w3.heap.size = b3 at kn ⊢
  have kd := Aside0.mk (kn.out.step (below_drew1 (Below.refl W3.heap.size W3)))
  clear kn
  refine start_ (n := 26) (S := fun w' => w'.cell? ⟨b3, 0, none⟩ = some (.slice A3 n c3) ∧ w'.cell? ⟨b3, 1, none⟩ = some (.slice B3 m d3) ∧ w'.cell? ⟨bl, 0, none⟩ = some (.slice A n c) ∧ w'.cell? ⟨bl, 1, none⟩ = some (.slice (some bd) m d) ∧ w'.cell? ⟨bp, 0, none⟩ = some (.int .i64 ai) ∧ w'.cell? ⟨bp, 1, none⟩ = some (.int .i64 aK) ∧ Aside0 (Kn (fun W => Bx b3 (.slice A3 n c3) (.slice B3 m d3) W ∧ LV S3 n m A3 c3 B3 d3 L W ∧ Bx b2 (.slice A2 n c2) (.slice B2 m d2) W ∧ LV S2 n m A2 c2 B2 d2 L2 W ∧ Bx b1 (.slice A1 n c1) (.slice B1 m d1) W ∧ LV S1 n m A1 c1 B1 d1 L1 W ∧ Bx bp (.int .i64 ai) (.int .i64 aK) W ∧ Bx bl (.slice A n c) (.slice (some bd) m d) W ∧ W.cell? (ad.add ai.toNat) = some (.int .i64 y) ∧ W.cell? (bd.add k.toNat) = some (.slice (some ad) n cr) ∧ LV S n m A c (some bd) d L W ∧ Tb w W) w')) (ds := []) #[false, false, false, false, false, false, false, false, false, false, false, false, false, false, false, false, false, false, false, false, false, false, false, false, false, false] (by kernel_rfl) rfl rfl ⟨kd.out.here.1.k0, kd.out.here.1.k1, kd.out.here.2.2.2.2.2.2.2.1.k0, kd.out.here.2.2.2.2.2.2.2.1.k1, kd.out.here.2.2.2.2.2.2.1.k0, kd.out.here.2.2.2.2.2.2.1.k1, kd⟩ (fun hHeld => ?_)
  generalize W3.drew = V3 at kd hHeld ⊢
  refine pure_ (i := 0) (N := some 104) (v := ?_) (a' := ?_) #[true, false, false, false, false, false, false, false, false, false, false, false, false, false, false, false, false, false, false, false, false, false, false, false, false, false] rfl rfl (by kernel_rfl) (fun _ _ _ h => h) (Or.inl ⟨by rfl, ?_⟩) ?_ ?_
  rotate_left
  · intro w'
    go_simp
    with_reducible rfl
  rotate_left
  · simp only [Act.put, List.setIfInBounds_toArray, List.set_cons_zero, List.set_cons_succ, i64_w, i32_w]
    rfl
  refine pure_ (i := 1) (N := some 105) (v := ?_) (a' := ?_) #[true, true, false, false, false, false, false, false, false, false, false, false, false, false, false, false, false, false, false, false, false, false, false, false, false, false] rfl rfl (by kernel_rfl) (fun _ _ _ h => h) (Or.inl ⟨by rfl, ?_⟩) ?_ ?_
  rotate_left
  · intro w'
    go_simp
    with_reducible rfl
  rotate_left
  · simp only [Act.put, List.setIfInBounds_toArray, List.set_cons_zero, List.set_cons_succ, i64_w, i32_w]
    rfl
  refine pure_ (i := 2) (N := some 106) (v := ?_) (a' := ?_) #[true, true, true, false, false, false, false, false, false, false, false, false, false, false, false, false, false, false, false, false, false, false, false, false, false, false] rfl rfl (by kernel_rfl) (fun _ _ _ h => h) (Or.inl ⟨by rfl, ?_⟩) ?_ ?_
  rotate_left
  · intro w'
    go_simp
    with_reducible rfl
  rotate_left
  · simp only [Act.put, List.setIfInBounds_toArray, List.set_cons_zero, List.set_cons_succ, i64_w, i32_w]
    rfl
  refine pure_ (i := 3) (N := some 107) (v := ?_) (a' := ?_) #[true, true, true, true, false, false, false, false, false, false, false, false, false, false, false, false, false, false, false, false, false, false, false, false, false, false] rfl rfl (by kernel_rfl) (fun _ _ _ h => h) (Or.inl ⟨by rfl, ?_⟩) ?_ ?_
  rotate_left
  · intro w'
    go_simp
    with_reducible rfl
  rotate_left
  · simp only [Act.put, List.setIfInBounds_toArray, List.set_cons_zero, List.set_cons_succ, i64_w, i32_w]
    rfl
  refine pure_ (i := 4) (N := some 108) (v := ?_) (a' := ?_) #[true, true, true, true, true, false, false, false, false, false, false, false, false, false, false, false, false, false, false, false, false, false, false, false, false, false] rfl rfl (by kernel_rfl) (fun _ _ _ h => h) (Or.inl ⟨by rfl, ?_⟩) ?_ ?_
  rotate_left
  · intro w'
    go_simp
    with_reducible rfl
  rotate_left
  · simp only [Act.put, List.setIfInBounds_toArray, List.set_cons_zero, List.set_cons_succ, i64_w, i32_w]
    rfl
  refine pure_ (i := 5) (N := some 109) (v := ?_) (a' := ?_) #[true, true, true, true, true, true, false, false, false, false, false, false, false, false, false, false, false, false, false, false, false, false, false, false, false, false] rfl rfl (by kernel_rfl) (fun _ _ _ h => h) (Or.inl ⟨by rfl, ?_⟩) ?_ ?_
  rotate_left
  · intro w'
    go_simp
    with_reducible rfl
  rotate_left
  · simp only [Act.put, List.setIfInBounds_toArray, List.set_cons_zero, List.set_cons_succ, i64_w, i32_w]
    rfl
  refine pure_ (i := 6) (N := some 110) (v := ?_) (a' := ?_) #[true, true, true, true, true, true, true, false, false, false, false, false, false, false, false, false, false, false, false, false, false, false, false, false, false, false] rfl rfl (by kernel_rfl) (fun _ _ _ h => h) (Or.inl ⟨by rfl, ?_⟩) ?_ ?_
  rotate_left
  · intro w'
    go_simp
    with_reducible rfl
  rotate_left
  · simp only [Act.put, List.setIfInBounds_toArray, List.set_cons_zero, List.set_cons_succ, i64_w, i32_w]
    rfl
  refine pure_ (i := 7) (N := some 111) (v := ?_) (a' := ?_) #[true, true, true, true, true, true, true, true, false, false, false, false, false, false, false, false, false, false, false, false, false, false, false, false, false, false] rfl rfl (by kernel_rfl) (fun _ _ _ h => h) (Or.inl ⟨by rfl, ?_⟩) ?_ ?_
  rotate_left
  · intro w'
    go_simp
    with_reducible rfl
  rotate_left
  · simp only [Act.put, List.setIfInBounds_toArray, List.set_cons_zero, List.set_cons_succ, i64_w, i32_w]
    rfl
  refine take_ (i := 8) (N := some 112) (v := ?_) (a' := ?_) #[true, true, true, true, true, true, true, true, true, false, false, false, false, false, false, false, false, false, false, false, false, false, false, false, false, false] rfl rfl (by kernel_rfl) (fun _ _ _ h => h) (Or.inl ⟨by rfl, ?_⟩) hHeld ?_ ?_
  rotate_left
  · rintro w' ⟨s0, s1, s2, s3, s4, s5, s6⟩
    go_simp
    with_reducible rfl
  rotate_left
  · simp only [Act.put, List.setIfInBounds_toArray, List.set_cons_zero, List.set_cons_succ, i64_w, i32_w]
    rfl
  refine pure_ (i := 9) (N := some 113) (v := ?_) (a' := ?_) #[true, true, true, true, true, true, true, true, true, true, false, false, false, false, false, false, false, false, false, false, false, false, false, false, false, false] rfl rfl (by kernel_rfl) (fun _ _ _ h => h) (Or.inl ⟨by rfl, ?_⟩) ?_ ?_
  rotate_left
  · intro w'
    go_simp
    with_reducible rfl
  rotate_left
  · simp only [Act.put, List.setIfInBounds_toArray, List.set_cons_zero, List.set_cons_succ, i64_w, i32_w]
    rfl
  refine pure_ (i := 10) (N := some 114) (v := ?_) (a' := ?_) #[true, true, true, true, true, true, true, true, true, true, true, false, false, false, false, false, false, false, false, false, false, false, false, false, false, false] rfl rfl (by kernel_rfl) (fun _ _ _ h => h) (Or.inl ⟨by rfl, ?_⟩) ?_ ?_
  rotate_left
  · intro w'
    go_simp
    with_reducible rfl
  rotate_left
  · simp only [Act.put, List.setIfInBounds_toArray, List.set_cons_zero, List.set_cons_succ, i64_w, i32_w]
    rfl
  refine pure_ (i := 11) (N := some 115) (v := ?_) (a' := ?_) #[true, true, true, true, true, true, true, true, true, true, true, true, false, false, false, false, false, false, false, false, false, false, false, false, false, false] rfl rfl (by kernel_rfl) (fun _ _ _ h => h) (Or.inl ⟨by rfl, ?_⟩) ?_ ?_
  rotate_left
  · intro w'
    go_simp
    with_reducible rfl
  rotate_left
  · simp only [Act.put, List.setIfInBounds_toArray, List.set_cons_zero, List.set_cons_succ, i64_w, i32_w]
    rfl
  refine pure_ (i := 12) (N := some 116) (v := ?_) (a' := ?_) #[true, true, true, true, true, true, true, true, true, true, true, true, true, false, false, false, false, false, false, false, false, false, false, false, false, false] rfl rfl (by kernel_rfl) (fun _ _ _ h => h) (Or.inl ⟨by rfl, ?_⟩) ?_ ?_
  rotate_left
  · intro w'
    go_simp
    with_reducible rfl
  rotate_left
  · simp only [Act.put, List.setIfInBounds_toArray, List.set_cons_zero, List.set_cons_succ, i64_w, i32_w]
    rfl
  refine pure_ (i := 13) (N := some 117) (v := ?_) (a' := ?_) #[true, true, true, true, true, true, true, true, true, true, true, true, true, true, false, false, false, false, false, false, false, false, false, false, false, false] rfl rfl (by kernel_rfl) (fun _ _ _ h => h) (Or.inl ⟨by rfl, ?_⟩) ?_ ?_
  rotate_left
  · intro w'
    go_simp
    with_reducible rfl
  rotate_left
  · simp only [Act.put, List.setIfInBounds_toArray, List.set_cons_zero, List.set_cons_succ, i64_w, i32_w]
    rfl
  refine take_ (i := 14) (N := some 118) (v := ?_) (a' := ?_) #[true, true, true, true, true, true, true, true, true, true, true, true, true, true, true, false, false, false, false, false, false, false, false, false, false, false] rfl rfl (by kernel_rfl) (fun _ _ _ h => h) (Or.inl ⟨by rfl, ?_⟩) hHeld ?_ ?_
  rotate_left
  · rintro w' ⟨s0, s1, s2, s3, s4, s5, s6⟩
    go_simp
    with_reducible rfl
  rotate_left
  · simp only [Act.put, List.setIfInBounds_toArray, List.set_cons_zero, List.set_cons_succ, i64_w, i32_w]
    rfl
  refine pure_ (i := 15) (N := some 119) (v := ?_) (a' := ?_) #[true, true, true, true, true, true, true, true, true, true, true, true, true, true, true, true, false, false, false, false, false, false, false, false, false, false] rfl rfl (by kernel_rfl) (fun _ _ _ h => h) (Or.inl ⟨by rfl, ?_⟩) ?_ ?_
  rotate_left
  · intro w'
    go_simp
    with_reducible rfl
  rotate_left
  · simp only [Act.put, List.setIfInBounds_toArray, List.set_cons_zero, List.set_cons_succ, i64_w, i32_w]
    rfl
  refine pure_ (i := 16) (N := some 120) (v := ?_) (a' := ?_) #[true, true, true, true, true, true, true, true, true, true, true, true, true, true, true, true, true, false, false, false, false, false, false, false, false, false] rfl rfl (by kernel_rfl) (fun _ _ _ h => h) (Or.inl ⟨by rfl, ?_⟩) ?_ ?_
  rotate_left
  · intro w'
    go_simp
    with_reducible rfl
  rotate_left
  · simp only [Act.put, List.setIfInBounds_toArray, List.set_cons_zero, List.set_cons_succ, i64_w, i32_w]
    rfl
  refine pure_ (i := 17) (N := some 121) (v := ?_) (a' := ?_) #[true, true, true, true, true, true, true, true, true, true, true, true, true, true, true, true, true, true, false, false, false, false, false, false, false, false] rfl rfl (by kernel_rfl) (fun _ _ _ h => h) (Or.inl ⟨by rfl, ?_⟩) ?_ ?_
  rotate_left
  · intro w'
    go_simp
    with_reducible rfl
  rotate_left
  · simp only [Act.put, List.setIfInBounds_toArray, List.set_cons_zero, List.set_cons_succ, i64_w, i32_w]
    rfl
  refine take_ (i := 18) (N := some 122) (v := ?_) (a' := ?_) #[true, true, true, true, true, true, true, true, true, true, true, true, true, true, true, true, true, true, true, false, false, false, false, false, false, false] rfl rfl (by kernel_rfl) (fun _ _ _ h => h) (Or.inl ⟨by rfl, ?_⟩) hHeld ?_ ?_
  rotate_left
  · rintro w' ⟨s0, s1, s2, s3, s4, s5, s6⟩
    go_simp
    with_reducible rfl
  rotate_left
  · simp only [Act.put, List.setIfInBounds_toArray, List.set_cons_zero, List.set_cons_succ, i64_w, i32_w]
    rfl
  refine take_ (i := 20) (N := some 124) (v := ?_) (a' := ?_) #[true, true, true, true, true, true, true, true, true, true, true, true, true, true, true, true, true, true, true, false, true, false, false, false, false, false] rfl rfl (by kernel_rfl) (fun _ _ _ h => h) (Or.inl ⟨by rfl, ?_⟩) hHeld ?_ ?_
  rotate_left
  · rintro w' ⟨s0, s1, s2, s3, s4, s5, s6⟩
    go_simp
    with_reducible rfl
  rotate_left
  · simp only [Act.put, List.setIfInBounds_toArray, List.set_cons_zero, List.set_cons_succ, i64_w, i32_w]
    rfl
  refine one_ (i := 19) (N := some 123) #[true, true, true, true, true, true, true, true, true, true, true, true, true, true, true, true, true, true, true, true, true, false, false, false, false, false] rfl rfl (by kernel_rfl) (by decide) (fun K hK => ?_)
  refine goes_ Try.func12 (by kernel_rfl) rfl #[.agg #[.slice A3 n c3, .slice B3 m d3]] (by rfl) rfl rfl (by simp only [List.map_toArray, List.map_cons, List.map_nil]; rfl) ?_
  with_reducible refine (its_is A3 n c3 B3 m d3 _).mono ?_
  rintro e x19 ⟨rfl, hb⟩
  refine ⟨_, rfl, ?_⟩
  have kz := Aside0.mk (hHeld.2.2.2.2.2.2.out.step hb)
  clear hHeld hb
  refine hK.out _ _ ⟨kz.out.here.1.k0, kz.out.here.1.k1, kz.out.here.2.2.2.2.2.2.2.1.k0, kz.out.here.2.2.2.2.2.2.2.1.k1, kz.out.here.2.2.2.2.2.2.1.k0, kz.out.here.2.2.2.2.2.2.1.k1, kz⟩ (fun hHeld => ?_)
  clear hK K
  refine norm_ (a' := ?_) ?_ ?_
  rotate_left
  · show Act.put _ (some 123) _ = _
    simp only [Act.put, List.setIfInBounds_toArray, List.set_cons_zero, List.set_cons_succ, i64_w, i32_w]
    rfl
  refine one_ (i := 21) (N := some 125) #[true, true, true, true, true, true, true, true, true, true, true, true, true, true, true, true, true, true, true, true, true, true, false, false, false, false] rfl rfl (by kernel_rfl) (by decide) (fun K hK => ?_)
  refine goes_ Try.func12 (by kernel_rfl) rfl #[.agg #[.slice A n c, .slice (some bd) m d]] (by rfl) rfl rfl (by simp only [List.map_toArray, List.map_cons, List.map_nil]; rfl) ?_
  with_reducible refine (its_is A n c (some bd) m d _).mono ?_
  rintro e x21 ⟨rfl, hb⟩
  refine ⟨_, rfl, ?_⟩
  have kz := Aside0.mk (hHeld.2.2.2.2.2.2.out.step hb)
  clear hHeld hb
  refine hK.out _ _ ⟨kz.out.here.1.k0, kz.out.here.1.k1, kz.out.here.2.2.2.2.2.2.2.1.k0, kz.out.here.2.2.2.2.2.2.2.1.k1, kz.out.here.2.2.2.2.2.2.1.k0, kz.out.here.2.2.2.2.2.2.1.k1, kz⟩ (fun hHeld => ?_)
  clear hK K
  refine norm_ (a' := ?_) ?_ ?_
  rotate_left
  · show Act.put _ (some 125) _ = _
    simp only [Act.put, List.setIfInBounds_toArray, List.set_cons_zero, List.set_cons_succ, i64_w, i32_w]
    rfl
  refine one_ (i := 22) (N := some 126) #[true, true, true, true, true, true, true, true, true, true, true, true, true, true, true, true, true, true, true, true, true, true, true, false, false, false] rfl rfl (by kernel_rfl) (by decide) (fun K hK => ?_)
  refine goes_ Try.func19 (by kernel_rfl) rfl #[.agg #[.slice A3 n c3, .slice B3 m d3], .agg #[.slice A n c, .slice (some bd) m d]] (by rfl) rfl rfl (by simp only [List.map_toArray, List.map_cons, List.map_nil]; rfl) ?_
  with_reducible refine (same_is n m A3 c3 B3 d3 A c (some bd) d L S3 S _ (hHeld.2.2.2.2.2.2).out.here.2.1 (hHeld.2.2.2.2.2.2).out.here.2.2.2.2.2.2.2.2.2.2.1).mono ?_
  rintro e x22 ⟨rfl, hb⟩
  refine ⟨_, rfl, ?_⟩
  have kz := Aside0.mk (hHeld.2.2.2.2.2.2.out.step hb)
  clear hHeld hb
  refine hK.out _ _ ⟨kz.out.here.1.k0, kz.out.here.1.k1, kz.out.here.2.2.2.2.2.2.2.1.k0, kz.out.here.2.2.2.2.2.2.2.1.k1, kz.out.here.2.2.2.2.2.2.1.k0, kz.out.here.2.2.2.2.2.2.1.k1, kz⟩ (fun hHeld => ?_)
  clear hK K
  refine norm_ (a' := ?_) ?_ ?_
  rotate_left
  · show Act.put _ (some 126) _ = _
    simp only [Act.put, List.setIfInBounds_toArray, List.set_cons_zero, List.set_cons_succ, i64_w, i32_w]
    rfl
  refine pure_ (i := 23) (N := some 127) (v := ?_) (a' := ?_) #[true, true, true, true, true, true, true, true, true, true, true, true, true, true, true, true, true, true, true, true, true, true, true, true, false, false] rfl rfl (by kernel_rfl) (fun _ _ _ h => h) (Or.inl ⟨by rfl, ?_⟩) ?_ ?_
  rotate_left
  · intro w'
    go_simp
    with_reducible rfl
  rotate_left
  · simp only [Act.put, List.setIfInBounds_toArray, List.set_cons_zero, List.set_cons_succ, i64_w, i32_w]
    rfl
  refine pure_ (i := 24) (N := some 128) (v := ?_) (a' := ?_) #[true, true, true, true, true, true, true, true, true, true, true, true, true, true, true, true, true, true, true, true, true, true, true, true, true, false] rfl rfl (by kernel_rfl) (fun _ _ _ h => h) (Or.inl ⟨by rfl, ?_⟩) ?_ ?_
  rotate_left
  · intro w'
    go_simp
    with_reducible rfl
  rotate_left
  · simp only [Act.put, List.setIfInBounds_toArray, List.set_cons_zero, List.set_cons_succ, i64_w, i32_w]
    rfl
  refine pure_ (i := 25) (N := some 129) (v := ?_) (a' := ?_) #[true, true, true, true, true, true, true, true, true, true, true, true, true, true, true, true, true, true, true, true, true, true, true, true, true, true] rfl rfl (by kernel_rfl) (fun _ _ _ h => h) (Or.inl ⟨by rfl, ?_⟩) ?_ ?_
  rotate_left
  · intro w'
    go_simp
    with_reducible rfl
  rotate_left
  · simp only [Act.put, List.setIfInBounds_toArray, List.set_cons_zero, List.set_cons_succ, i64_w, i32_w]
    rfl
  refine done_ (by kernel_rfl) ?_
  have kn := hHeld.2.2.2.2.2.2
  clear hHeld kd kz
  have y20 := kn.out.here.2.2.1.k0
  have y21 := kn.out.here.2.2.1.k1
  have yp0 := kn.out.here.2.2.2.2.2.2.1.k0
  have yp1 := kn.out.here.2.2.2.2.2.2.1.k1
  go_upto_region 16 with (first | (go_at_call 17; (with_reducible refine (release_is n m A2 c2 B2 d2 L2 k ai aK S2 _ ⟨kn.out.here.2.2.2.1⟩ hk2 L aK 0 h4.out).mono ?_); rintro e w4 ⟨S4, A4, c4, B4, d4, rfl, hl, hS, hb⟩; replace hb := Aside0.mk hb; replace hl := Aside0.mk hl))
  clear y20 y21 yp0 yp1
  replace kn := Aside0.mk (Kn.cons (Bx.new w4 (.slice A4 n c4) (.slice B4 m d4) 25).kn (Kn.cons (hl.out.below (bal w4 (.cells #[.slice A4 n c4, .slice B4 m d4] 25))).kn (kn.out.step (hb.out.alloc hb.out.size (.cells #[.slice A4 n c4, .slice B4 m d4] 25)))))
  clear hb hl
  generalize w4.alloc (.cells #[.slice A4 n c4, .slice B4 m d4] 25) = W4 at kn ⊢
  generalize w4.heap.size = b4 at kn ⊢
  have kd := Aside0.mk (kn.out.step (below_drew1 (Below.refl W4.heap.size W4)))
  clear kn
  refine start_ (n := 30) (S := fun w' => w'.cell? ⟨b4, 0, none⟩ = some (.slice A4 n c4) ∧ w'.cell? ⟨b4, 1, none⟩ = some (.slice B4 m d4) ∧ w'.cell? ⟨bl, 0, none⟩ = some (.slice A n c) ∧ w'.cell? ⟨bl, 1, none⟩ = some (.slice (some bd) m d) ∧ w'.cell? ⟨bp, 0, none⟩ = some (.int .i64 ai) ∧ w'.cell? ⟨bp, 1, none⟩ = some (.int .i64 aK) ∧ Aside0 (Kn (fun W => Bx b4 (.slice A4 n c4) (.slice B4 m d4) W ∧ LV S4 n m A4 c4 B4 d4 L W ∧ Bx b3 (.slice A3 n c3) (.slice B3 m d3) W ∧ LV S3 n m A3 c3 B3 d3 L W ∧ Bx b2 (.slice A2 n c2) (.slice B2 m d2) W ∧ LV S2 n m A2 c2 B2 d2 L2 W ∧ Bx b1 (.slice A1 n c1) (.slice B1 m d1) W ∧ LV S1 n m A1 c1 B1 d1 L1 W ∧ Bx bp (.int .i64 ai) (.int .i64 aK) W ∧ Bx bl (.slice A n c) (.slice (some bd) m d) W ∧ W.cell? (ad.add ai.toNat) = some (.int .i64 y) ∧ W.cell? (bd.add k.toNat) = some (.slice (some ad) n cr) ∧ LV S n m A c (some bd) d L W ∧ Tb w W) w')) (ds := []) #[false, false, false, false, false, false, false, false, false, false, false, false, false, false, false, false, false, false, false, false, false, false, false, false, false, false, false, false, false, false] (by kernel_rfl) rfl rfl ⟨kd.out.here.1.k0, kd.out.here.1.k1, kd.out.here.2.2.2.2.2.2.2.2.2.1.k0, kd.out.here.2.2.2.2.2.2.2.2.2.1.k1, kd.out.here.2.2.2.2.2.2.2.2.1.k0, kd.out.here.2.2.2.2.2.2.2.2.1.k1, kd⟩ (fun hHeld => ?_)
  generalize W4.drew = V4 at kd hHeld ⊢
  refine pure_ (i := 0) (N := some 145) (v := ?_) (a' := ?_) #[true, false, false, false, false, false, false, false, false, false, false, false, false, false, false, false, false, false, false, false, false, false, false, false, false, false, false, false, false, false] rfl rfl (by kernel_rfl) (fun _ _ _ h => h) (Or.inl ⟨by rfl, ?_⟩) ?_ ?_
  rotate_left
  · intro w'
    go_simp
    with_reducible rfl
  rotate_left
  · simp only [Act.put, List.setIfInBounds_toArray, List.set_cons_zero, List.set_cons_succ, i64_w, i32_w]
    rfl
  refine pure_ (i := 1) (N := some 146) (v := ?_) (a' := ?_) #[true, true, false, false, false, false, false, false, false, false, false, false, false, false, false, false, false, false, false, false, false, false, false, false, false, false, false, false, false, false] rfl rfl (by kernel_rfl) (fun _ _ _ h => h) (Or.inl ⟨by rfl, ?_⟩) ?_ ?_
  rotate_left
  · intro w'
    go_simp
    with_reducible rfl
  rotate_left
  · simp only [Act.put, List.setIfInBounds_toArray, List.set_cons_zero, List.set_cons_succ, i64_w, i32_w]
    rfl
  refine pure_ (i := 2) (N := some 147) (v := ?_) (a' := ?_) #[true, true, true, false, false, false, false, false, false, false, false, false, false, false, false, false, false, false, false, false, false, false, false, false, false, false, false, false, false, false] rfl rfl (by kernel_rfl) (fun _ _ _ h => h) (Or.inl ⟨by rfl, ?_⟩) ?_ ?_
  rotate_left
  · intro w'
    go_simp
    with_reducible rfl
  rotate_left
  · simp only [Act.put, List.setIfInBounds_toArray, List.set_cons_zero, List.set_cons_succ, i64_w, i32_w]
    rfl
  refine pure_ (i := 3) (N := some 148) (v := ?_) (a' := ?_) #[true, true, true, true, false, false, false, false, false, false, false, false, false, false, false, false, false, false, false, false, false, false, false, false, false, false, false, false, false, false] rfl rfl (by kernel_rfl) (fun _ _ _ h => h) (Or.inl ⟨by rfl, ?_⟩) ?_ ?_
  rotate_left
  · intro w'
    go_simp
    with_reducible rfl
  rotate_left
  · simp only [Act.put, List.setIfInBounds_toArray, List.set_cons_zero, List.set_cons_succ, i64_w, i32_w]
    rfl
  refine pure_ (i := 4) (N := some 149) (v := ?_) (a' := ?_) #[true, true, true, true, true, false, false, false, false, false, false, false, false, false, false, false, false, false, false, false, false, false, false, false, false, false, false, false, false, false] rfl rfl (by kernel_rfl) (fun _ _ _ h => h) (Or.inl ⟨by rfl, ?_⟩) ?_ ?_
  rotate_left
  · intro w'
    go_simp
    with_reducible rfl
  rotate_left
  · simp only [Act.put, List.setIfInBounds_toArray, List.set_cons_zero, List.set_cons_succ, i64_w, i32_w]
    rfl
  refine pure_ (i := 5) (N := some 150) (v := ?_) (a' := ?_) #[true, true, true, true, true, true, false, false, false, false, false, false, false, false, false, false, false, false, false, false, false, false, false, false, false, false, false, false, false, false] rfl rfl (by kernel_rfl) (fun _ _ _ h => h) (Or.inl ⟨by rfl, ?_⟩) ?_ ?_
  rotate_left
  · intro w'
    go_simp
    with_reducible rfl
  rotate_left
  · simp only [Act.put, List.setIfInBounds_toArray, List.set_cons_zero, List.set_cons_succ, i64_w, i32_w]
    rfl
  refine pure_ (i := 6) (N := some 151) (v := ?_) (a' := ?_) #[true, true, true, true, true, true, true, false, false, false, false, false, false, false, false, false, false, false, false, false, false, false, false, false, false, false, false, false, false, false] rfl rfl (by kernel_rfl) (fun _ _ _ h => h) (Or.inl ⟨by rfl, ?_⟩) ?_ ?_
  rotate_left
  · intro w'
    go_simp
    with_reducible rfl
  rotate_left
  · simp only [Act.put, List.setIfInBounds_toArray, List.set_cons_zero, List.set_cons_succ, i64_w, i32_w]
    rfl
  refine pure_ (i := 7) (N := some 152) (v := ?_) (a' := ?_) #[true, true, true, true, true, true, true, true, false, false, false, false, false, false, false, false, false, false, false, false, false, false, false, false, false, false, false, false, false, false] rfl rfl (by kernel_rfl) (fun _ _ _ h => h) (Or.inl ⟨by rfl, ?_⟩) ?_ ?_
  rotate_left
  · intro w'
    go_simp
    with_reducible rfl
  rotate_left
  · simp only [Act.put, List.setIfInBounds_toArray, List.set_cons_zero, List.set_cons_succ, i64_w, i32_w]
    rfl
  refine pure_ (i := 8) (N := some 153) (v := ?_) (a' := ?_) #[true, true, true, true, true, true, true, true, true, false, false, false, false, false, false, false, false, false, false, false, false, false, false, false, false, false, false, false, false, false] rfl rfl (by kernel_rfl) (fun _ _ _ h => h) (Or.inl ⟨by rfl, ?_⟩) ?_ ?_
  rotate_left
  · intro w'
    go_simp
    with_reducible rfl
  rotate_left
  · simp only [Act.put, List.setIfInBounds_toArray, List.set_cons_zero, List.set_cons_succ, i64_w, i32_w]
    rfl
  refine pure_ (i := 9) (N := some 154) (v := ?_) (a' := ?_) #[true, true, true, true, true, true, true, true, true, true, false, false, false, false, false, false, false, false, false, false, false, false, false, false, false, false, false, false, false, false] rfl rfl (by kernel_rfl) (fun _ _ _ h => h) (Or.inl ⟨by rfl, ?_⟩) ?_ ?_
  rotate_left
  · intro w'
    go_simp
    with_reducible rfl
  rotate_left
  · simp only [Act.put, List.setIfInBounds_toArray, List.set_cons_zero, List.set_cons_succ, i64_w, i32_w]
    rfl
  refine take_ (i := 10) (N := some 155) (v := ?_) (a' := ?_) #[true, true, true, true, true, true, true, true, true, true, true, false, false, false, false, false, false, false, false, false, false, false, false, false, false, false, false, false, false, false] rfl rfl (by kernel_rfl) (fun _ _ _ h => h) (Or.inl ⟨by rfl, ?_⟩) hHeld ?_ ?_
  rotate_left
  · rintro w' ⟨s0, s1, s2, s3, s4, s5, s6⟩
    go_simp
    with_reducible rfl
  rotate_left
  · simp only [Act.put, List.setIfInBounds_toArray, List.set_cons_zero, List.set_cons_succ, i64_w, i32_w]
    rfl
  refine pure_ (i := 11) (N := some 156) (v := ?_) (a' := ?_) #[true, true, true, true, true, true, true, true, true, true, true, true, false, false, false, false, false, false, false, false, false, false, false, false, false, false, false, false, false, false] rfl rfl (by kernel_rfl) (fun _ _ _ h => h) (Or.inl ⟨by rfl, ?_⟩) ?_ ?_
  rotate_left
  · intro w'
    go_simp
    with_reducible rfl
  rotate_left
  · simp only [Act.put, List.setIfInBounds_toArray, List.set_cons_zero, List.set_cons_succ, i64_w, i32_w]
    rfl
  refine pure_ (i := 12) (N := some 157) (v := ?_) (a' := ?_) #[true, true, true, true, true, true, true, true, true, true, true, true, true, false, false, false, false, false, false, false, false, false, false, false, false, false, false, false, false, false] rfl rfl (by kernel_rfl) (fun _ _ _ h => h) (Or.inl ⟨by rfl, ?_⟩) ?_ ?_
  rotate_left
  · intro w'
    go_simp
    with_reducible rfl
  rotate_left
  · simp only [Act.put, List.setIfInBounds_toArray, List.set_cons_zero, List.set_cons_succ, i64_w, i32_w]
    rfl
  refine pure_ (i := 13) (N := some 158) (v := ?_) (a' := ?_) #[true, true, true, true, true, true, true, true, true, true, true, true, true, true, false, false, false, false, false, false, false, false, false, false, false, false, false, false, false, false] rfl rfl (by kernel_rfl) (fun _ _ _ h => h) (Or.inl ⟨by rfl, ?_⟩) ?_ ?_
  rotate_left
  · intro w'
    go_simp
    with_reducible rfl
  rotate_left
  · simp only [Act.put, List.setIfInBounds_toArray, List.set_cons_zero, List.set_cons_succ, i64_w, i32_w]
    rfl
  refine pure_ (i := 14) (N := some 159) (v := ?_) (a' := ?_) #[true, true, true, true, true, true, true, true, true, true, true, true, true, true, true, false, false, false, false, false, false, false, false, false, false, false, false, false, false, false] rfl rfl (by kernel_rfl) (fun _ _ _ h => h) (Or.inl ⟨by rfl, ?_⟩) ?_ ?_
  rotate_left
  · intro w'
    go_simp
    with_reducible rfl
  rotate_left
  · simp only [Act.put, List.setIfInBounds_toArray, List.set_cons_zero, List.set_cons_succ, i64_w, i32_w]
    rfl
  refine pure_ (i := 15) (N := some 160) (v := ?_) (a' := ?_) #[true, true, true, true, true, true, true, true, true, true, true, true, true, true, true, true, false, false, false, false, false, false, false, false, false, false, false, false, false, false] rfl rfl (by kernel_rfl) (fun _ _ _ h => h) (Or.inl ⟨by rfl, ?_⟩) ?_ ?_
  rotate_left
  · intro w'
    go_simp
    with_reducible rfl
  rotate_left
  · simp only [Act.put, List.setIfInBounds_toArray, List.set_cons_zero, List.set_cons_succ, i64_w, i32_w]
    rfl
  refine pure_ (i := 16) (N := some 161) (v := ?_) (a' := ?_) #[true, true, true, true, true, true, true, true, true, true, true, true, true, true, true, true, true, false, false, false, false, false, false, false, false, false, false, false, false, false] rfl rfl (by kernel_rfl) (fun _ _ _ h => h) (Or.inl ⟨by rfl, ?_⟩) ?_ ?_
  rotate_left
  · intro w'
    go_simp
    with_reducible rfl
  rotate_left
  · simp only [Act.put, List.setIfInBounds_toArray, List.set_cons_zero, List.set_cons_succ, i64_w, i32_w]
    rfl
  refine pure_ (i := 17) (N := some 162) (v := ?_) (a' := ?_) #[true, true, true, true, true, true, true, true, true, true, true, true, true, true, true, true, true, true, false, false, false, false, false, false, false, false, false, false, false, false] rfl rfl (by kernel_rfl) (fun _ _ _ h => h) (Or.inl ⟨by rfl, ?_⟩) ?_ ?_
  rotate_left
  · intro w'
    go_simp
    with_reducible rfl
  rotate_left
  · simp only [Act.put, List.setIfInBounds_toArray, List.set_cons_zero, List.set_cons_succ, i64_w, i32_w]
    rfl
  refine pure_ (i := 18) (N := some 163) (v := ?_) (a' := ?_) #[true, true, true, true, true, true, true, true, true, true, true, true, true, true, true, true, true, true, true, false, false, false, false, false, false, false, false, false, false, false] rfl rfl (by kernel_rfl) (fun _ _ _ h => h) (Or.inl ⟨by rfl, ?_⟩) ?_ ?_
  rotate_left
  · intro w'
    go_simp
    with_reducible rfl
  rotate_left
  · simp only [Act.put, List.setIfInBounds_toArray, List.set_cons_zero, List.set_cons_succ, i64_w, i32_w]
    rfl
  refine pure_ (i := 19) (N := some 164) (v := ?_) (a' := ?_) #[true, true, true, true, true, true, true, true, true, true, true, true, true, true, true, true, true, true, true, true, false, false, false, false, false, false, false, false, false, false] rfl rfl (by kernel_rfl) (fun _ _ _ h => h) (Or.inl ⟨by rfl, ?_⟩) ?_ ?_
  rotate_left
  · intro w'
    go_simp
    with_reducible rfl
  rotate_left
  · simp only [Act.put, List.setIfInBounds_toArray, List.set_cons_zero, List.set_cons_succ, i64_w, i32_w]
    rfl
  refine pure_ (i := 20) (N := some 165) (v := ?_) (a' := ?_) #[true, true, true, true, true, true, true, true, true, true, true, true, true, true, true, true, true, true, true, true, true, false, false, false, false, false, false, false, false, false] rfl rfl (by kernel_rfl) (fun _ _ _ h => h) (Or.inl ⟨by rfl, ?_⟩) ?_ ?_
  rotate_left
  · intro w'
    go_simp
    with_reducible rfl
  rotate_left
  · simp only [Act.put, List.setIfInBounds_toArray, List.set_cons_zero, List.set_cons_succ, i64_w, i32_w]
    rfl
  refine pure_ (i := 21) (N := some 166) (v := ?_) (a' := ?_) #[true, true, true, true, true, true, true, true, true, true, true, true, true, true, true, true, true, true, true, true, true, true, false, false, false, false, false, false, false, false] rfl rfl (by kernel_rfl) (fun _ _ _ h => h) (Or.inl ⟨by rfl, ?_⟩) ?_ ?_
  rotate_left
  · intro w'
    go_simp
    with_reducible rfl
  rotate_left
  · simp only [Act.put, List.setIfInBounds_toArray, List.set_cons_zero, List.set_cons_succ, i64_w, i32_w]
    rfl
  refine pure_ (i := 22) (N := some 167) (v := ?_) (a' := ?_) #[true, true, true, true, true, true, true, true, true, true, true, true, true, true, true, true, true, true, true, true, true, true, true, false, false, false, false, false, false, false] rfl rfl (by kernel_rfl) (fun _ _ _ h => h) (Or.inl ⟨by rfl, ?_⟩) ?_ ?_
  rotate_left
  · intro w'
    go_simp
    with_reducible rfl
  rotate_left
  · simp only [Act.put, List.setIfInBounds_toArray, List.set_cons_zero, List.set_cons_succ, i64_w, i32_w]
    rfl
  refine take_ (i := 23) (N := some 168) (v := ?_) (a' := ?_) #[true, true, true, true, true, true, true, true, true, true, true, true, true, true, true, true, true, true, true, true, true, true, true, true, false, false, false, false, false, false] rfl rfl (by kernel_rfl) (fun _ _ _ h => h) (Or.inl ⟨by rfl, ?_⟩) hHeld ?_ ?_
  rotate_left
  · rintro w' ⟨s0, s1, s2, s3, s4, s5, s6⟩
    go_simp
    with_reducible rfl
  rotate_left
  · simp only [Act.put, List.setIfInBounds_toArray, List.set_cons_zero, List.set_cons_succ, i64_w, i32_w]
    rfl
  refine take_ (i := 25) (N := some 170) (v := ?_) (a' := ?_) #[true, true, true, true, true, true, true, true, true, true, true, true, true, true, true, true, true, true, true, true, true, true, true, true, false, true, false, false, false, false] rfl rfl (by kernel_rfl) (fun _ _ _ h => h) (Or.inl ⟨by rfl, ?_⟩) hHeld ?_ ?_
  rotate_left
  · rintro w' ⟨s0, s1, s2, s3, s4, s5, s6⟩
    go_simp
    with_reducible rfl
  rotate_left
  · simp only [Act.put, List.setIfInBounds_toArray, List.set_cons_zero, List.set_cons_succ, i64_w, i32_w]
    rfl
  refine one_ (i := 24) (N := some 169) #[true, true, true, true, true, true, true, true, true, true, true, true, true, true, true, true, true, true, true, true, true, true, true, true, true, true, false, false, false, false] rfl rfl (by kernel_rfl) (by decide) (fun K hK => ?_)
  refine goes_ Try.func12 (by kernel_rfl) rfl #[.agg #[.slice A4 n c4, .slice B4 m d4]] (by rfl) rfl rfl (by simp only [List.map_toArray, List.map_cons, List.map_nil]; rfl) ?_
  with_reducible refine (its_is A4 n c4 B4 m d4 _).mono ?_
  rintro e x24 ⟨rfl, hb⟩
  refine ⟨_, rfl, ?_⟩
  have kz := Aside0.mk (hHeld.2.2.2.2.2.2.out.step hb)
  clear hHeld hb
  refine hK.out _ _ ⟨kz.out.here.1.k0, kz.out.here.1.k1, kz.out.here.2.2.2.2.2.2.2.2.2.1.k0, kz.out.here.2.2.2.2.2.2.2.2.2.1.k1, kz.out.here.2.2.2.2.2.2.2.2.1.k0, kz.out.here.2.2.2.2.2.2.2.2.1.k1, kz⟩ (fun hHeld => ?_)
  clear hK K
  refine norm_ (a' := ?_) ?_ ?_
  rotate_left
  · show Act.put _ (some 169) _ = _
    simp only [Act.put, List.setIfInBounds_toArray, List.set_cons_zero, List.set_cons_succ, i64_w, i32_w]
    rfl
  refine one_ (i := 26) (N := some 171) #[true, true, true, true, true, true, true, true, true, true, true, true, true, true, true, true, true, true, true, true, true, true, true, true, true, true, true, false, false, false] rfl rfl (by kernel_rfl) (by decide) (fun K hK => ?_)
  refine goes_ Try.func12 (by kernel_rfl) rfl #[.agg #[.slice A n c, .slice (some bd) m d]] (by rfl) rfl rfl (by simp only [List.map_toArray, List.map_cons, List.map_nil]; rfl) ?_
  with_reducible refine (its_is A n c (some bd) m d _).mono ?_
  rintro e x26 ⟨rfl, hb⟩
  refine ⟨_, rfl, ?_⟩
  have kz := Aside0.mk (hHeld.2.2.2.2.2.2.out.step hb)
  clear hHeld hb
  refine hK.out _ _ ⟨kz.out.here.1.k0, kz.out.here.1.k1, kz.out.here.2.2.2.2.2.2.2.2.2.1.k0, kz.out.here.2.2.2.2.2.2.2.2.2.1.k1, kz.out.here.2.2.2.2.2.2.2.2.1.k0, kz.out.here.2.2.2.2.2.2.2.2.1.k1, kz⟩ (fun hHeld => ?_)
  clear hK K
  refine norm_ (a' := ?_) ?_ ?_
  rotate_left
  · show Act.put _ (some 171) _ = _
    simp only [Act.put, List.setIfInBounds_toArray, List.set_cons_zero, List.set_cons_succ, i64_w, i32_w]
    rfl
  refine one_ (i := 27) (N := some 172) #[true, true, true, true, true, true, true, true, true, true, true, true, true, true, true, true, true, true, true, true, true, true, true, true, true, true, true, true, false, false] rfl rfl (by kernel_rfl) (by decide) (fun K hK => ?_)
  refine goes_ Try.func19 (by kernel_rfl) rfl #[.agg #[.slice A4 n c4, .slice B4 m d4], .agg #[.slice A n c, .slice (some bd) m d]] (by rfl) rfl rfl (by simp only [List.map_toArray, List.map_cons, List.map_nil]; rfl) ?_
  with_reducible refine (same_is n m A4 c4 B4 d4 A c (some bd) d L S4 S _ (hHeld.2.2.2.2.2.2).out.here.2.1 (hHeld.2.2.2.2.2.2).out.here.2.2.2.2.2.2.2.2.2.2.2.2.1).mono ?_
  rintro e x27 ⟨rfl, hb⟩
  refine ⟨_, rfl, ?_⟩
  have kz := Aside0.mk (hHeld.2.2.2.2.2.2.out.step hb)
  clear hHeld hb
  refine hK.out _ _ ⟨kz.out.here.1.k0, kz.out.here.1.k1, kz.out.here.2.2.2.2.2.2.2.2.2.1.k0, kz.out.here.2.2.2.2.2.2.2.2.2.1.k1, kz.out.here.2.2.2.2.2.2.2.2.1.k0, kz.out.here.2.2.2.2.2.2.2.2.1.k1, kz⟩ (fun hHeld => ?_)
  clear hK K
  refine norm_ (a' := ?_) ?_ ?_
  rotate_left
  · show Act.put _ (some 172) _ = _
    simp only [Act.put, List.setIfInBounds_toArray, List.set_cons_zero, List.set_cons_succ, i64_w, i32_w]
    rfl
  refine pure_ (i := 28) (N := some 173) (v := ?_) (a' := ?_) #[true, true, true, true, true, true, true, true, true, true, true, true, true, true, true, true, true, true, true, true, true, true, true, true, true, true, true, true, true, false] rfl rfl (by kernel_rfl) (fun _ _ _ h => h) (Or.inl ⟨by rfl, ?_⟩) ?_ ?_
  rotate_left
  · intro w'
    go_simp
    with_reducible rfl
  rotate_left
  · simp only [Act.put, List.setIfInBounds_toArray, List.set_cons_zero, List.set_cons_succ, i64_w, i32_w]
    rfl
  refine pure_ (i := 29) (N := some 6) (v := ?_) (a' := ?_) #[true, true, true, true, true, true, true, true, true, true, true, true, true, true, true, true, true, true, true, true, true, true, true, true, true, true, true, true, true, true] rfl rfl (by kernel_rfl) (fun _ _ _ h => h) (Or.inl ⟨by rfl, ?_⟩) ?_ ?_
  rotate_left
  · intro w'
    go_simp
    with_reducible rfl
  rotate_left
  · simp only [Act.put, List.setIfInBounds_toArray, List.set_cons_zero, List.set_cons_succ, i64_w, i32_w]
    rfl
  refine done_ (by kernel_rfl) ?_
  have kn := hHeld.2.2.2.2.2.2
  clear hHeld kd kz
  go_wp2
  go_ret
  exact ⟨rfl, kn.out.here.2.2.2.2.2.2.2.2.2.2.2.2.2⟩
set_option maxHeartbeats 8000000 in
set_option maxRecDepth 100000 in
theorem back_no (A : Option Addr) (c : Nat) (B : Option Addr) (d : Nat) (hv : List Int) (hd : List (List Int)) (tk ai aK : Int) (w : World) (h : Aside0 (RD A c B d hv hd w)) (hf : fineS hv hd = false) :
    Calls Try.prog 8 #[.agg #[.slice A hv.length c, .slice B hd.length d], .int .u8 tk, .agg #[.int .i64 ai, .int .i64 aK]] w fun e w' => e = .returned (.bool true) ∧ Below w.heap.size w w' := by
  go_enter Try.func8, Try.ntmps8
  go_upto_region 1 with (fail)
  have kn := Aside0.mk (Kn.cons h.out.kn (tb_kn (Below.refl w.heap.size w)))
  replace kn := Aside0.mk (Kn.cons (Bx.new (w) (.slice A hv.length c) (.slice B hd.length d) 25).kn (kn.out.step (bal (w) (.cells #[.slice A hv.length c, .slice B hd.length d] 25))))
  replace kn := Aside0.mk (Kn.cons (Bx.new ((w).alloc (.cells #[.slice A hv.length c, .slice B hd.length d] 25)) (.int .i64 ai) (.int .i64 aK) 27).kn (kn.out.step (bal ((w).alloc (.cells #[.slice A hv.length c, .slice B hd.length d] 25)) (.cells #[.int .i64 ai, .int .i64 aK] 27))))
  simp only [World.size_alloc] at kn
  generalize ((w).alloc (.cells #[.slice A hv.length c, .slice B hd.length d] 25)).alloc (.cells #[.int .i64 ai, .int .i64 aK] 27) = W0 at kn ⊢
  generalize w.heap.size + 1 = bp at kn ⊢
  generalize hz : w.heap.size = bl at kn ⊢
  clear hz
  have yl0 := kn.out.here.2.1.k0
  have yl1 := kn.out.here.2.1.k1
  go_wp2_with (first | (go_at_call 10; (with_reducible refine (fine_no (kn.out.here.2.2.1) hf).mono ?_); rintro e wf ⟨rfl, hb⟩; have kf := Aside0.mk (kn.out.step hb); clear hb kn) | (go_at_call 11; (with_reducible refine (shown_is _).mono ?_); rintro e wg ⟨rfl, hb⟩; have kn := Aside0.mk (kf.out.step hb); clear hb))
  go_ret
  exact ⟨rfl, kn.out.here.2.2.2⟩
set_option maxHeartbeats 8000000 in
set_option maxRecDepth 100000 in
theorem back_m0 (n m : Nat) (A : Option Addr) (c : Nat) (B : Option Addr) (d : Nat) (L : LG) (tk ai aK : Int) (S : Nat → Prop) (w : World) (h : Aside0 (LV S n m A c B d L w)) (hm0 : ((m : Int) == 0) = true) (hm1 : (m : Int) = 0) :
    Calls Try.prog 8 #[.agg #[.slice A n c, .slice B m d], .int .u8 tk, .agg #[.int .i64 ai, .int .i64 aK]] w fun e w' => e = .returned (.bool true) ∧ Below w.heap.size w w' := by
  go_enter Try.func8, Try.ntmps8
  go_upto_region 1 with (fail)
  have kn := Aside0.mk (Kn.cons h.out.kn (tb_kn (Below.refl w.heap.size w)))
  replace kn := Aside0.mk (Kn.cons (Bx.new (w) (.slice A n c) (.slice B m d) 25).kn (kn.out.step (bal (w) (.cells #[.slice A n c, .slice B m d] 25))))
  replace kn := Aside0.mk (Kn.cons (Bx.new ((w).alloc (.cells #[.slice A n c, .slice B m d] 25)) (.int .i64 ai) (.int .i64 aK) 27).kn (kn.out.step (bal ((w).alloc (.cells #[.slice A n c, .slice B m d] 25)) (.cells #[.int .i64 ai, .int .i64 aK] 27))))
  simp only [World.size_alloc] at kn
  generalize ((w).alloc (.cells #[.slice A n c, .slice B m d] 25)).alloc (.cells #[.int .i64 ai, .int .i64 aK] 27) = W0 at kn ⊢
  generalize w.heap.size + 1 = bp at kn ⊢
  generalize hz : w.heap.size = bl at kn ⊢
  clear hz
  have yl0 := kn.out.here.2.1.k0
  have yl1 := kn.out.here.2.1.k1
  go_wp2_with (first | (go_at_call 10; (with_reducible refine (fine_lv (kn.out.here.2.2.1)).mono ?_); rintro e wf ⟨rfl, hb⟩; have kf := Aside0.mk (kn.out.step hb); clear hb kn; have zl0 := kf.out.here.2.1.k0; have zl1 := kf.out.here.2.1.k1) | (go_at_call 11; (with_reducible refine (shown_is _).mono ?_); rintro e wg ⟨rfl, hb⟩; have kn := Aside0.mk (kf.out.step hb); clear hb))
  go_ret
  exact ⟨rfl, kn.out.here.2.2.2⟩
theorem some_back {n m : Nat} {L L2 : LG} (h : Good n m L) {t i q j e : Int} (hs : someS n m L t i q = (L2, j, e)) (he : e = 0) (hj : 0 < j) (y0 : 0 ≤ rd (row L.hd t) i) (y1 : rd (row L.hd t) i ≤ 1000000000000) : relS n m L2 t i j = (L, j, 0) := by
  unfold someS at hs
  by_cases hc : checkS n m t i q = 0
  · rw [if_pos hc] at hs
    simp only [Prod.mk.injEq] at hs
    obtain ⟨rfl, rfl, _⟩ := hs
    have h1 := checkS_less hc (p := max (min (rd L.hv i) q) 0) (by omega) (by have := (checkS_zero hc).2; omega)
    exact back_mv h h1 y0 y1
  · rw [if_neg hc] at hs
    simp only [Prod.mk.injEq] at hs
    omega
theorem back_law (A : Option Addr) (c : Nat) (B : Option Addr) (d : Nat) (hv : List Int) (hd : List (List Int)) (tk ai aK : Int) (w : World) (hr : RD A c B d hv hd w) (ia : ∀ x, x ∈ hv → I64 x) (ib : ∀ r, r ∈ hd → ∀ x, x ∈ r → I64 x) (hk8 : 0 ≤ tk ∧ tk ≤ 255) (ha0 : Aside0 (-9223372036854775808 ≤ aK ∧ aK ≤ 9223372036854775807)) :
    Calls Try.prog 8 #[.agg #[.slice A hv.length c, .slice B hd.length d], .int .u8 tk, .agg #[.int .i64 ai, .int .i64 aK]] w fun e w' => e = .returned (.bool true) ∧ Below w.heap.size w w' := by
  cases hf : fineS hv hd with
  | false => exact back_no A c B d hv hd tk ai aK w ⟨hr⟩ hf
  | true =>
    have hl := lv_of_kd hr.a hr.ac hr.b hr.bd hf ia ib
    by_cases hm : hd.length = 0
    · exact back_m0 hv.length hd.length A c B d ⟨hv, hd⟩ tk ai aK _ w ⟨hl⟩ (by simp [hm]) (by omega)
    · have hm' : ¬ (hd.length : Int) = 0 := by omega
      obtain ⟨bd, rfl⟩ : ∃ bd, B = some bd := by
        obtain ⟨_, _, hB, _⟩ := hl.b
        rcases hB with h0 | ⟨ad, h1, _⟩
        · exact absurd h0 hm
        · exact ⟨ad, h1⟩
      obtain ⟨k, hk⟩ : ∃ k, tk.tmod hd.length = k := ⟨_, rfl⟩
      have hk0 : 0 ≤ k := by rw [← hk]; exact Int.tmod_nonneg _ hk8.1
      have hp : (0 : Int) < (hd.length : Int) := by
        have := Nat.pos_of_ne_zero hm
        omega
      have hk1 : k < hd.length := by rw [← hk]; exact Int.tmod_lt_of_pos _ hp
      have hk2 : k ≤ 255 := by
        have := hl.g.m40
        omega
      have hwk : IntKind.i64.wrap tk = tk := by rw [Go.IntKind.wrap_i64]; omega
      have hrem : IntKind.i64.wrap (tk.tmod hd.length) = k := by rw [hk, Go.IntKind.wrap_i64]; omega
      have hm0 : ((hd.length : Int) == 0) = false := by simpa using hm'
      obtain ⟨⟨L1, k1, e1⟩, h1⟩ : ∃ x, resS hv.length hd.length ⟨hv, hd⟩ k ai aK = x := ⟨_, rfl⟩
      obtain ⟨⟨L2, k2, e2⟩, h2⟩ : ∃ x, someS hv.length hd.length ⟨hv, hd⟩ k ai aK = x := ⟨_, rfl⟩
      by_cases hc : checkS hv.length hd.length k ai aK = 0
      · obtain ⟨⟨_, _, ib0, ib1⟩, q0, q1⟩ := checkS_zero hc
        obtain ⟨bd', ad, cr, hB, _, hc1, _, hc2⟩ := hl.row_ hk0 hk1 ib0 ib1
        cases hB
        have g1 := h1
        have g2 := h2
        unfold resS at g1
        unfold someS at g2
        rw [if_pos hc] at g1 g2
        simp only [Prod.mk.injEq] at g2
        obtain ⟨g2a, g2b, rfl⟩ := g2
        obtain ⟨y, hy⟩ : ∃ y, rd (row hd k) ai = y := ⟨_, rfl⟩
        rw [show rd (row (LG.mk hv hd).hd k) ai = y from hy] at hc2
        obtain rfl : 0 = e1 := by
          split at g1
          · simp only [Prod.mk.injEq] at g1; exact g1.2.2
          · simp only [Prod.mk.injEq] at g1; exact g1.2.2
        by_cases hy0 : y < 0
        · exact back_n1 hv.length hd.length A c bd d ⟨hv, hd⟩ tk k ai aK _ w ⟨hl⟩ ha0 hm0 hm' hwk hrem hk L1 L2 k1 k2 ad cr y ⟨hc1⟩ ⟨hc2⟩ hk0 hk1 ib0 ib1 (decide_eq_true hy0) ⟨h1⟩ ⟨h2⟩
        by_cases hy1 : y > 1000000000000
        · exact back_n2 hv.length hd.length A c bd d ⟨hv, hd⟩ tk k ai aK _ w ⟨hl⟩ ha0 hm0 hm' hwk hrem hk L1 L2 k1 k2 ad cr y ⟨hc1⟩ ⟨hc2⟩ hk0 hk1 ib0 ib1 (decide_eq_false hy0) (decide_eq_true hy1) ⟨h1⟩ ⟨h2⟩
        have yy : 0 ≤ rd (row (LG.mk hv hd).hd k) ai ∧ rd (row (LG.mk hv hd).hd k) ai ≤ 1000000000000 := by
          show 0 ≤ rd (row hd k) ai ∧ rd (row hd k) ai ≤ 1000000000000
          rw [hy]; omega
        have i64k : Aside0 (-9223372036854775808 ≤ k2 ∧ k2 ≤ 9223372036854775807) := ⟨by omega⟩
        by_cases hlt : rd hv ai < aK
        · rw [if_pos (show rd (LG.mk hv hd).hv ai < aK from hlt)] at g1
          simp only [Prod.mk.injEq] at g1
          obtain ⟨rfl, rfl, _⟩ := g1
          obtain ⟨⟨L3, k3, e3⟩, h3⟩ : ∃ x, relS hv.length hd.length ⟨hv, hd⟩ k ai aK = x := ⟨_, rfl⟩
          by_cases hj : k2 = 0
          · subst hj
            exact back_g1 hv.length hd.length A c bd d ⟨hv, hd⟩ tk k ai aK _ w ⟨hl⟩ ha0 hm0 hm' hwk hrem hk ⟨hv, hd⟩ L2 L3 0 0 k3 e3 ad cr y ⟨hc1⟩ ⟨hc2⟩ hk0 hk1 ib0 ib1 (decide_eq_false hy0) (decide_eq_false hy1) ⟨h1⟩ ⟨h2⟩ ⟨h3⟩
          · have hjp : 0 < k2 := by omega
            exact back_g2 hv.length hd.length A c bd d ⟨hv, hd⟩ tk k ai aK _ w ⟨hl⟩ ha0 hm0 hm' hwk hrem hk ⟨hv, hd⟩ L2 L3 0 k2 k3 e3 ad cr y ⟨hc1⟩ ⟨hc2⟩ hk0 hk1 ib0 ib1 (decide_eq_false hy0) (decide_eq_false hy1) i64k (by simpa using hj) (decide_eq_true (by omega)) ⟨some_back hl.g h2 rfl hjp yy.1 yy.2⟩ ⟨h1⟩ ⟨h2⟩ ⟨h3⟩
        · rw [if_neg (show ¬ rd (LG.mk hv hd).hv ai < aK from hlt)] at g1
          simp only [Prod.mk.injEq] at g1
          obtain ⟨rfl, rfl, _⟩ := g1
          obtain rfl : k2 = aK := by
            have e : rd (LG.mk hv hd).hv ai = rd hv ai := rfl
            rw [e] at g2b
            omega
          exact back_g3 hv.length hd.length A c bd d ⟨hv, hd⟩ tk k ai k2 _ w ⟨hl⟩ ha0 hm0 hm' hwk hrem hk _ L2 L2 0 0 0 0 ad cr y ⟨hc1⟩ ⟨hc2⟩ hk0 hk1 ib0 ib1 (decide_eq_false hy0) (decide_eq_false hy1) (by omega) (decide_eq_true (by omega)) ha0 (by simp; omega) (decide_eq_true (by omega)) ⟨some_back hl.g h2 rfl (by omega) yy.1 yy.2⟩ ⟨h1⟩ ⟨h2⟩ ⟨back_mv hl.g hc yy.1 yy.2⟩
      · have g1 := h1
        have g2 := h2
        unfold resS at g1
        unfold someS at g2
        rw [if_neg hc] at g1 g2
        simp only [Prod.mk.injEq] at g1 g2
        obtain ⟨rfl, rfl, rfl⟩ := g1
        obtain ⟨rfl, rfl, rfl⟩ := g2
        have hb : (checkS hv.length hd.length k ai aK == 0) = false := by simpa using hc
        exact back_e hv.length hd.length A c bd d ⟨hv, hd⟩ tk k ai aK _ w ⟨hl⟩ ha0 hm0 hm' hwk hrem hk _ _ _ hb (by simp [bne, hb]) ⟨h1⟩ ⟨h2⟩
end Go.Proofs.Ytlgoincnopfnjaa.Led
