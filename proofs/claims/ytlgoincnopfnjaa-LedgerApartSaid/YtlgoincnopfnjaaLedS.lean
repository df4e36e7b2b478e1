/- Of two calls of two items it does not matter which one is first. -/
import Derived.Test.YtlgoincnopfnjaaLedR
namespace Go.Proofs.Ytlgoincnopfnjaa.Led
open Go Go.RowKit Go.Proofs.YtlgoincnopfnjaaW.PrintWords Go.Proofs.YtlgoincnopfnjaaW.PrintMore Go.Proofs.YtlgoincnopfnjaaW.PrintLast
set_option linter.unusedSimpArgs false
set_option linter.unusedVariables false
attribute [local go_sem] max2_int min2_int max_two min_two eqA27
set_option maxHeartbeats 8000000 in
set_option maxRecDepth 100000 in
theorem apart_ok (n m : Nat) (A : Option Addr) (c : Nat) (B : Option Addr) (d : Nat) (L : LG) (t u ai aK bi bK : Int) (S : Nat → Prop) (w : World) (h : Aside0 (LV S n m A c B d L w)) (ha0 : Aside0 (-9223372036854775808 ≤ aK ∧ aK ≤ 9223372036854775807)) (hb0 : Aside0 (-9223372036854775808 ≤ bK ∧ bK ≤ 9223372036854775807)) (hne : (ai == bi) = false)
    (LX LY LZ LP LR LS : LG) (i1 e1 j1 f1 o1 q1 r1 s1 : Int) (h1 : Aside0 (resS n m L t ai aK = (LX, i1, e1))) (h2 : Aside0 (someS n m LX u bi bK = (LY, j1, f1))) (h3 : Aside0 (someS n m L u bi bK = (LZ, j1, f1))) (h4 : Aside0 (resS n m LZ t ai aK = (LY, i1, e1)))
    (h5 : Aside0 (relS n m L t ai aK = (LP, o1, q1))) (h6 : Aside0 (rsS n LP bi bK = (LR, r1))) (h7 : Aside0 (rsS n L bi bK = (LS, s1))) (h8 : Aside0 (relS n m LS t ai aK = (LR, o1, q1))) :
    Calls Try.prog 6 #[.agg #[.slice A n c, .slice B m d], .int .i64 t, .int .i64 u, .agg #[.int .i64 ai, .int .i64 aK], .agg #[.int .i64 bi, .int .i64 bK]] w fun e w' => e = .returned (.bool true) ∧ Below w.heap.size w w' := by
  go_enter Try.func6, Try.ntmps6
  go_upto_region 1 with (fail)
  have kn := Aside0.mk (Kn.cons h.out.kn (tb_kn (Below.refl w.heap.size w)))
  replace kn := Aside0.mk (Kn.cons (Bx.new (w) (.slice A n c) (.slice B m d) 25).kn (kn.out.step (bal (w) (.cells #[.slice A n c, .slice B m d] 25))))
  replace kn := Aside0.mk (Kn.cons (Bx.new ((w).alloc (.cells #[.slice A n c, .slice B m d] 25)) (.int .i64 ai) (.int .i64 aK) 27).kn (kn.out.step (bal ((w).alloc (.cells #[.slice A n c, .slice B m d] 25)) (.cells #[.int .i64 ai, .int .i64 aK] 27))))
  replace kn := Aside0.mk (Kn.cons (Bx.new (((w).alloc (.cells #[.slice A n c, .slice B m d] 25)).alloc (.cells #[.int .i64 ai, .int .i64 aK] 27)) (.int .i64 bi) (.int .i64 bK) 27).kn (kn.out.step (bal (((w).alloc (.cells #[.slice A n c, .slice B m d] 25)).alloc (.cells #[.int .i64 ai, .int .i64 aK] 27)) (.cells #[.int .i64 bi, .int .i64 bK] 27))))
  simp only [World.size_alloc] at kn
  generalize (((w).alloc (.cells #[.slice A n c, .slice B m d] 25)).alloc (.cells #[.int .i64 ai, .int .i64 aK] 27)).alloc (.cells #[.int .i64 bi, .int .i64 bK] 27) = W0 at kn ⊢
  generalize w.heap.size + 1 + 1 = bq at kn ⊢
  generalize w.heap.size + 1 = bp at kn ⊢
  generalize hz : w.heap.size = bl at kn ⊢
  clear hz
  have yl0 := kn.out.here.2.2.1.k0
  have yl1 := kn.out.here.2.2.1.k1
  go_upto_region 3 with (first | (go_at_call 10; (with_reducible refine (fine_lv (kn.out.here.2.2.2.1)).mono ?_); rintro e wf ⟨rfl, hb⟩; have kf := Aside0.mk (kn.out.step hb); clear hb kn; have zp0 := kf.out.here.2.1.k0; have zp1 := kf.out.here.2.1.k1; have zq0 := kf.out.here.1.k0; have zq1 := kf.out.here.1.k1) | (go_at_call 11; (with_reducible refine (shown_is _).mono ?_); rintro e wg ⟨rfl, hb⟩; have kn := Aside0.mk (kf.out.step hb); clear hb kf))
  clear yl0 yl1 zp0 zp1 zq0 zq1
  have yl0 := kn.out.here.2.2.1.k0
  have yl1 := kn.out.here.2.2.1.k1
  have yp0 := kn.out.here.2.1.k0
  have yp1 := kn.out.here.2.1.k1
  go_upto_region 4 with (first | (go_at_call 13; (with_reducible refine (reserve_is n m A c B d L t ai aK S _ ⟨kn.out.here.2.2.2.1⟩ ha0 LX i1 e1 h1.out).mono ?_); rintro e w1 ⟨S1, A1, c1, B1, d1, rfl, hl, hS, hb⟩; replace hb := Aside0.mk hb; replace hl := Aside0.mk hl))
  clear yl0 yl1 yp0 yp1
  replace kn := Aside0.mk (Kn.cons (Bx.new w1 (.slice A1 n c1) (.slice B1 m d1) 25).kn (Kn.cons (hl.out.below (bal w1 (.cells #[.slice A1 n c1, .slice B1 m d1] 25))).kn (kn.out.step (hb.out.alloc hb.out.size (.cells #[.slice A1 n c1, .slice B1 m d1] 25)))))
  clear hb hl
  generalize w1.alloc (.cells #[.slice A1 n c1, .slice B1 m d1] 25) = W1 at kn ⊢
  generalize w1.heap.size = b1 at kn ⊢
  have y10 := kn.out.here.1.k0
  have y11 := kn.out.here.1.k1
  have yq0 := kn.out.here.2.2.1.k0
  have yq1 := kn.out.here.2.2.1.k1
  go_upto_region 5 with (first | (go_at_call 15; (with_reducible refine (some_is n m A1 c1 B1 d1 LX u bi bK S1 _ ⟨kn.out.here.2.1⟩ hb0 LY j1 f1 h2.out).mono ?_); rintro e w2 ⟨S2, A2, c2, B2, d2, rfl, hl, hS, hb⟩; replace hb := Aside0.mk hb; replace hl := Aside0.mk hl))
  clear y10 y11 yq0 yq1
  replace kn := Aside0.mk (Kn.cons (Bx.new w2 (.slice A2 n c2) (.slice B2 m d2) 25).kn (Kn.cons (hl.out.below (bal w2 (.cells #[.slice A2 n c2, .slice B2 m d2] 25))).kn (kn.out.step (hb.out.alloc hb.out.size (.cells #[.slice A2 n c2, .slice B2 m d2] 25)))))
  clear hb hl
  generalize w2.alloc (.cells #[.slice A2 n c2, .slice B2 m d2] 25) = W2 at kn ⊢
  generalize w2.heap.size = b2 at kn ⊢
  have yl0 := kn.out.here.2.2.2.2.2.2.1.k0
  have yl1 := kn.out.here.2.2.2.2.2.2.1.k1
  have yq0 := kn.out.here.2.2.2.2.1.k0
  have yq1 := kn.out.here.2.2.2.2.1.k1
  go_upto_region 6 with (first | (go_at_call 15; (with_reducible refine (some_is n m A c B d L u bi bK S _ ⟨kn.out.here.2.2.2.2.2.2.2.1⟩ hb0 LZ j1 f1 h3.out).mono ?_); rintro e w3 ⟨S3, A3, c3, B3, d3, rfl, hl, hS, hb⟩; replace hb := Aside0.mk hb; replace hl := Aside0.mk hl))
  clear yl0 yl1 yq0 yq1
  replace kn := Aside0.mk (Kn.cons (Bx.new w3 (.slice A3 n c3) (.slice B3 m d3) 25).kn (Kn.cons (hl.out.below (bal w3 (.cells #[.slice A3 n c3, .slice B3 m d3] 25))).kn (kn.out.step (hb.out.alloc hb.out.size (.cells #[.slice A3 n c3, .slice B3 m d3] 25)))))
  clear hb hl
  generalize w3.alloc (.cells #[.slice A3 n c3, .slice B3 m d3] 25) = W3 at kn ⊢
  generalize w3.heap.size = b3 at kn ⊢
  have y30 := kn.out.here.1.k0
  have y31 := kn.out.here.1.k1
  have yp0 := kn.out.here.2.2.2.2.2.2.2.1.k0
  have yp1 := kn.out.here.2.2.2.2.2.2.2.1.k1
  go_upto_region 7 with (first | (go_at_call 13; (with_reducible refine (reserve_is n m A3 c3 B3 d3 LZ t ai aK S3 _ ⟨kn.out.here.2.1⟩ ha0 LY i1 e1 h4.out).mono ?_); rintro e w4 ⟨S4, A4, c4, B4, d4, rfl, hl, hS, hb⟩; replace hb := Aside0.mk hb; replace hl := Aside0.mk hl))
  clear y30 y31 yp0 yp1
  replace kn := Aside0.mk (Kn.cons (Bx.new w4 (.slice A4 n c4) (.slice B4 m d4) 25).kn (Kn.cons (hl.out.below (bal w4 (.cells #[.slice A4 n c4, .slice B4 m d4] 25))).kn (kn.out.step (hb.out.alloc hb.out.size (.cells #[.slice A4 n c4, .slice B4 m d4] 25)))))
  clear hb hl
  generalize w4.alloc (.cells #[.slice A4 n c4, .slice B4 m d4] 25) = W4 at kn ⊢
  generalize w4.heap.size = b4 at kn ⊢
  have yl0 := kn.out.here.2.2.2.2.2.2.2.2.2.2.1.k0
  have yl1 := kn.out.here.2.2.2.2.2.2.2.2.2.2.1.k1
  have yp0 := kn.out.here.2.2.2.2.2.2.2.2.2.1.k0
  have yp1 := kn.out.here.2.2.2.2.2.2.2.2.2.1.k1
  go_upto_region 8 with (first | (go_at_call 17; (with_reducible refine (release_is n m A c B d L t ai aK S _ ⟨kn.out.here.2.2.2.2.2.2.2.2.2.2.2.1⟩ ha0 LP o1 q1 h5.out).mono ?_); rintro e w5 ⟨S5, A5, c5, B5, d5, rfl, hl, hS, hb⟩; replace hb := Aside0.mk hb; replace hl := Aside0.mk hl))
  clear yl0 yl1 yp0 yp1
  replace kn := Aside0.mk (Kn.cons (Bx.new w5 (.slice A5 n c5) (.slice B5 m d5) 25).kn (Kn.cons (hl.out.below (bal w5 (.cells #[.slice A5 n c5, .slice B5 m d5] 25))).kn (kn.out.step (hb.out.alloc hb.out.size (.cells #[.slice A5 n c5, .slice B5 m d5] 25)))))
  clear hb hl
  generalize w5.alloc (.cells #[.slice A5 n c5, .slice B5 m d5] 25) = W5 at kn ⊢
  generalize w5.heap.size = b5 at kn ⊢
  have y50 := kn.out.here.1.k0
  have y51 := kn.out.here.1.k1
  have yq0 := kn.out.here.2.2.2.2.2.2.2.2.2.2.1.k0
  have yq1 := kn.out.here.2.2.2.2.2.2.2.2.2.2.1.k1
  go_upto_region 9 with (first | (go_at_call 20; (with_reducible refine (restock_is n m A5 c5 B5 d5 LP bi bK S5 _ ⟨kn.out.here.2.1⟩ hb0 LR r1 h6.out).mono ?_); rintro e w6 ⟨S6, A6, c6, B6, d6, rfl, hl, hS, hb⟩; replace hb := Aside0.mk hb; replace hl := Aside0.mk hl))
  clear y50 y51 yq0 yq1
  replace kn := Aside0.mk (Kn.cons (Bx.new w6 (.slice A6 n c6) (.slice B6 m d6) 25).kn (Kn.cons (hl.out.below (bal w6 (.cells #[.slice A6 n c6, .slice B6 m d6] 25))).kn (kn.out.step (hb.out.alloc hb.out.size (.cells #[.slice A6 n c6, .slice B6 m d6] 25)))))
  clear hb hl
  generalize w6.alloc (.cells #[.slice A6 n c6, .slice B6 m d6] 25) = W6 at kn ⊢
  generalize w6.heap.size = b6 at kn ⊢
  have yl0 := kn.out.here.2.2.2.2.2.2.2.2.2.2.2.2.2.2.1.k0
  have yl1 := kn.out.here.2.2.2.2.2.2.2.2.2.2.2.2.2.2.1.k1
  have yq0 := kn.out.here.2.2.2.2.2.2.2.2.2.2.2.2.1.k0
  have yq1 := kn.out.here.2.2.2.2.2.2.2.2.2.2.2.2.1.k1
  go_upto_region 10 with (first | (go_at_call 20; (with_reducible refine (restock_is n m A c B d L bi bK S _ ⟨kn.out.here.2.2.2.2.2.2.2.2.2.2.2.2.2.2.2.1⟩ hb0 LS s1 h7.out).mono ?_); rintro e w7 ⟨S7, A7, c7, B7, d7, rfl, hl, hS, hb⟩; replace hb := Aside0.mk hb; replace hl := Aside0.mk hl))
  clear yl0 yl1 yq0 yq1
  replace kn := Aside0.mk (Kn.cons (Bx.new w7 (.slice A7 n c7) (.slice B7 m d7) 25).kn (Kn.cons (hl.out.below (bal w7 (.cells #[.slice A7 n c7, .slice B7 m d7] 25))).kn (kn.out.step (hb.out.alloc hb.out.size (.cells #[.slice A7 n c7, .slice B7 m d7] 25)))))
  clear hb hl
  generalize w7.alloc (.cells #[.slice A7 n c7, .slice B7 m d7] 25) = W7 at kn ⊢
  generalize w7.heap.size = b7 at kn ⊢
  have y70 := kn.out.here.1.k0
  have y71 := kn.out.here.1.k1
  have yp0 := kn.out.here.2.2.2.2.2.2.2.2.2.2.2.2.2.2.2.1.k0
  have yp1 := kn.out.here.2.2.2.2.2.2.2.2.2.2.2.2.2.2.2.1.k1
  go_upto_region 11 with (first | (go_at_call 17; (with_reducible refine (release_is n m A7 c7 B7 d7 LS t ai aK S7 _ ⟨kn.out.here.2.1⟩ ha0 LR o1 q1 h8.out).mono ?_); rintro e w8 ⟨S8, A8, c8, B8, d8, rfl, hl, hS, hb⟩; replace hb := Aside0.mk hb; replace hl := Aside0.mk hl))
  clear y70 y71 yp0 yp1
  replace kn := Aside0.mk (Kn.cons (Bx.new w8 (.slice A8 n c8) (.slice B8 m d8) 25).kn (Kn.cons (hl.out.below (bal w8 (.cells #[.slice A8 n c8, .slice B8 m d8] 25))).kn (kn.out.step (hb.out.alloc hb.out.size (.cells #[.slice A8 n c8, .slice B8 m d8] 25)))))
  clear hb hl
  generalize w8.alloc (.cells #[.slice A8 n c8, .slice B8 m d8] 25) = W8 at kn ⊢
  generalize w8.heap.size = b8 at kn ⊢
  have kd := Aside0.mk (kn.out.step (below_drew1 (Below.refl W8.heap.size W8)))
  clear kn
  refine start_ (n := 43) (S := fun w' => w'.cell? ⟨b2, 0, none⟩ = some (.slice A2 n c2) ∧ w'.cell? ⟨b2, 1, none⟩ = some (.slice B2 m d2) ∧ w'.cell? ⟨b4, 0, none⟩ = some (.slice A4 n c4) ∧ w'.cell? ⟨b4, 1, none⟩ = some (.slice B4 m d4) ∧ w'.cell? ⟨b6, 0, none⟩ = some (.slice A6 n c6) ∧ w'.cell? ⟨b6, 1, none⟩ = some (.slice B6 m d6) ∧ w'.cell? ⟨b8, 0, none⟩ = some (.slice A8 n c8) ∧ w'.cell? ⟨b8, 1, none⟩ = some (.slice B8 m d8) ∧ Aside0 (Kn (fun W => Bx b8 (.slice A8 n c8) (.slice B8 m d8) W ∧ LV S8 n m A8 c8 B8 d8 LR W ∧ Bx b7 (.slice A7 n c7) (.slice B7 m d7) W ∧ LV S7 n m A7 c7 B7 d7 LS W ∧ Bx b6 (.slice A6 n c6) (.slice B6 m d6) W ∧ LV S6 n m A6 c6 B6 d6 LR W ∧ Bx b5 (.slice A5 n c5) (.slice B5 m d5) W ∧ LV S5 n m A5 c5 B5 d5 LP W ∧ Bx b4 (.slice A4 n c4) (.slice B4 m d4) W ∧ LV S4 n m A4 c4 B4 d4 LY W ∧ Bx b3 (.slice A3 n c3) (.slice B3 m d3) W ∧ LV S3 n m A3 c3 B3 d3 LZ W ∧ Bx b2 (.slice A2 n c2) (.slice B2 m d2) W ∧ LV S2 n m A2 c2 B2 d2 LY W ∧ Bx b1 (.slice A1 n c1) (.slice B1 m d1) W ∧ LV S1 n m A1 c1 B1 d1 LX W ∧ Bx bq (.int .i64 bi) (.int .i64 bK) W ∧ Bx bp (.int .i64 ai) (.int .i64 aK) W ∧ Bx bl (.slice A n c) (.slice B m d) W ∧ LV S n m A c B d L W ∧ Tb w W) w')) (ds := []) #[false, false, false, false, false, false, false, false, false, false, false, false, false, false, false, false, false, false, false, false, false, false, false, false, false, false, false, false, false, false, false, false, false, false, false, false, false, false, false, false, false, false, false] (by kernel_rfl) rfl rfl ⟨kd.out.here.2.2.2.2.2.2.2.2.2.2.2.2.1.k0, kd.out.here.2.2.2.2.2.2.2.2.2.2.2.2.1.k1, kd.out.here.2.2.2.2.2.2.2.2.1.k0, kd.out.here.2.2.2.2.2.2.2.2.1.k1, kd.out.here.2.2.2.2.1.k0, kd.out.here.2.2.2.2.1.k1, kd.out.here.1.k0, kd.out.here.1.k1, kd⟩ (fun hHeld => ?_)
  generalize W8.drew = V8 at kd hHeld ⊢
  refine pure_ (i := 0) (N := some 108) (v := ?_) (a' := ?_) #[true, false, false, false, false, false, false, false, false, false, false, false, false, false, false, false, false, false, false, false, false, false, false, false, false, false, false, false, false, false, false, false, false, false, false, false, false, false, false, false, false, false, false] rfl rfl (by kernel_rfl) (fun _ _ _ h => h) (Or.inl ⟨by rfl, ?_⟩) ?_ ?_
  rotate_left
  · intro w'
    go_simp
    with_reducible rfl
  rotate_left
  · simp only [Act.put, List.setIfInBounds_toArray, List.set_cons_zero, List.set_cons_succ, i64_w, i32_w]
    rfl
  refine pure_ (i := 1) (N := some 109) (v := ?_) (a' := ?_) #[true, true, false, false, false, false, false, false, false, false, false, false, false, false, false, false, false, false, false, false, false, false, false, false, false, false, false, false, false, false, false, false, false, false, false, false, false, false, false, false, false, false, false] rfl rfl (by kernel_rfl) (fun _ _ _ h => h) (Or.inl ⟨by rfl, ?_⟩) ?_ ?_
  rotate_left
  · intro w'
    go_simp
    with_reducible rfl
  rotate_left
  · simp only [Act.put, List.setIfInBounds_toArray, List.set_cons_zero, List.set_cons_succ, i64_w, i32_w]
    rfl
  refine pure_ (i := 2) (N := some 110) (v := ?_) (a' := ?_) #[true, true, true, false, false, false, false, false, false, false, false, false, false, false, false, false, false, false, false, false, false, false, false, false, false, false, false, false, false, false, false, false, false, false, false, false, false, false, false, false, false, false, false] rfl rfl (by kernel_rfl) (fun _ _ _ h => h) (Or.inl ⟨by rfl, ?_⟩) ?_ ?_
  rotate_left
  · intro w'
    go_simp
    with_reducible rfl
  rotate_left
  · simp only [Act.put, List.setIfInBounds_toArray, List.set_cons_zero, List.set_cons_succ, i64_w, i32_w]
    rfl
  refine pure_ (i := 3) (N := some 111) (v := ?_) (a' := ?_) #[true, true, true, true, false, false, false, false, false, false, false, false, false, false, false, false, false, false, false, false, false, false, false, false, false, false, false, false, false, false, false, false, false, false, false, false, false, false, false, false, false, false, false] rfl rfl (by kernel_rfl) (fun _ _ _ h => h) (Or.inl ⟨by rfl, ?_⟩) ?_ ?_
  rotate_left
  · intro w'
    go_simp
    with_reducible rfl
  rotate_left
  · simp only [Act.put, List.setIfInBounds_toArray, List.set_cons_zero, List.set_cons_succ, i64_w, i32_w]
    rfl
  refine pure_ (i := 4) (N := some 112) (v := ?_) (a' := ?_) #[true, true, true, true, true, false, false, false, false, false, false, false, false, false, false, false, false, false, false, false, false, false, false, false, false, false, false, false, false, false, false, false, false, false, false, false, false, false, false, false, false, false, false] rfl rfl (by kernel_rfl) (fun _ _ _ h => h) (Or.inl ⟨by rfl, ?_⟩) ?_ ?_
  rotate_left
  · intro w'
    go_simp
    with_reducible rfl
  rotate_left
  · simp only [Act.put, List.setIfInBounds_toArray, List.set_cons_zero, List.set_cons_succ, i64_w, i32_w]
    rfl
  refine pure_ (i := 5) (N := some 113) (v := ?_) (a' := ?_) #[true, true, true, true, true, true, false, false, false, false, false, false, false, false, false, false, false, false, false, false, false, false, false, false, false, false, false, false, false, false, false, false, false, false, false, false, false, false, false, false, false, false, false] rfl rfl (by kernel_rfl) (fun _ _ _ h => h) (Or.inl ⟨by rfl, ?_⟩) ?_ ?_
  rotate_left
  · intro w'
    go_simp
    with_reducible rfl
  rotate_left
  · simp only [Act.put, List.setIfInBounds_toArray, List.set_cons_zero, List.set_cons_succ, i64_w, i32_w]
    rfl
  refine pure_ (i := 6) (N := some 114) (v := ?_) (a' := ?_) #[true, true, true, true, true, true, true, false, false, false, false, false, false, false, false, false, false, false, false, false, false, false, false, false, false, false, false, false, false, false, false, false, false, false, false, false, false, false, false, false, false, false, false] rfl rfl (by kernel_rfl) (fun _ _ _ h => h) (Or.inl ⟨by rfl, ?_⟩) ?_ ?_
  rotate_left
  · intro w'
    go_simp
    with_reducible rfl
  rotate_left
  · simp only [Act.put, List.setIfInBounds_toArray, List.set_cons_zero, List.set_cons_succ, i64_w, i32_w]
    rfl
  refine pure_ (i := 7) (N := some 115) (v := ?_) (a' := ?_) #[true, true, true, true, true, true, true, true, false, false, false, false, false, false, false, false, false, false, false, false, false, false, false, false, false, false, false, false, false, false, false, false, false, false, false, false, false, false, false, false, false, false, false] rfl rfl (by kernel_rfl) (fun _ _ _ h => h) (Or.inl ⟨by rfl, ?_⟩) ?_ ?_
  rotate_left
  · intro w'
    go_simp
    with_reducible rfl
  rotate_left
  · simp only [Act.put, List.setIfInBounds_toArray, List.set_cons_zero, List.set_cons_succ, i64_w, i32_w]
    rfl
  refine pure_ (i := 8) (N := some 116) (v := ?_) (a' := ?_) #[true, true, true, true, true, true, true, true, true, false, false, false, false, false, false, false, false, false, false, false, false, false, false, false, false, false, false, false, false, false, false, false, false, false, false, false, false, false, false, false, false, false, false] rfl rfl (by kernel_rfl) (fun _ _ _ h => h) (Or.inl ⟨by rfl, ?_⟩) ?_ ?_
  rotate_left
  · intro w'
    go_simp
    with_reducible rfl
  rotate_left
  · simp only [Act.put, List.setIfInBounds_toArray, List.set_cons_zero, List.set_cons_succ, i64_w, i32_w]
    rfl
  refine pure_ (i := 9) (N := some 117) (v := ?_) (a' := ?_) #[true, true, true, true, true, true, true, true, true, true, false, false, false, false, false, false, false, false, false, false, false, false, false, false, false, false, false, false, false, false, false, false, false, false, false, false, false, false, false, false, false, false, false] rfl rfl (by kernel_rfl) (fun _ _ _ h => h) (Or.inl ⟨by rfl, ?_⟩) ?_ ?_
  rotate_left
  · intro w'
    go_simp
    with_reducible rfl
  rotate_left
  · simp only [Act.put, List.setIfInBounds_toArray, List.set_cons_zero, List.set_cons_succ, i64_w, i32_w]
    rfl
  refine pure_ (i := 10) (N := some 118) (v := ?_) (a' := ?_) #[true, true, true, true, true, true, true, true, true, true, true, false, false, false, false, false, false, false, false, false, false, false, false, false, false, false, false, false, false, false, false, false, false, false, false, false, false, false, false, false, false, false, false] rfl rfl (by kernel_rfl) (fun _ _ _ h => h) (Or.inl ⟨by rfl, ?_⟩) ?_ ?_
  rotate_left
  · intro w'
    go_simp
    with_reducible rfl
  rotate_left
  · simp only [Act.put, List.setIfInBounds_toArray, List.set_cons_zero, List.set_cons_succ, i64_w, i32_w]
    rfl
  refine pure_ (i := 11) (N := some 119) (v := ?_) (a' := ?_) #[true, true, true, true, true, true, true, true, true, true, true, true, false, false, false, false, false, false, false, false, false, false, false, false, false, false, false, false, false, false, false, false, false, false, false, false, false, false, false, false, false, false, false] rfl rfl (by kernel_rfl) (fun _ _ _ h => h) (Or.inl ⟨by rfl, ?_⟩) ?_ ?_
  rotate_left
  · intro w'
    go_simp
    with_reducible rfl
  rotate_left
  · simp only [Act.put, List.setIfInBounds_toArray, List.set_cons_zero, List.set_cons_succ, i64_w, i32_w]
    rfl
  refine pure_ (i := 12) (N := some 120) (v := ?_) (a' := ?_) #[true, true, true, true, true, true, true, true, true, true, true, true, true, false, false, false, false, false, false, false, false, false, false, false, false, false, false, false, false, false, false, false, false, false, false, false, false, false, false, false, false, false, false] rfl rfl (by kernel_rfl) (fun _ _ _ h => h) (Or.inl ⟨by rfl, ?_⟩) ?_ ?_
  rotate_left
  · intro w'
    go_simp
    with_reducible rfl
  rotate_left
  · simp only [Act.put, List.setIfInBounds_toArray, List.set_cons_zero, List.set_cons_succ, i64_w, i32_w]
    rfl
  refine pure_ (i := 13) (N := some 121) (v := ?_) (a' := ?_) #[true, true, true, true, true, true, true, true, true, true, true, true, true, true, false, false, false, false, false, false, false, false, false, false, false, false, false, false, false, false, false, false, false, false, false, false, false, false, false, false, false, false, false] rfl rfl (by kernel_rfl) (fun _ _ _ h => h) (Or.inl ⟨by rfl, ?_⟩) ?_ ?_
  rotate_left
  · intro w'
    go_simp
    with_reducible rfl
  rotate_left
  · simp only [Act.put, List.setIfInBounds_toArray, List.set_cons_zero, List.set_cons_succ, i64_w, i32_w]
    rfl
  refine pure_ (i := 14) (N := some 122) (v := ?_) (a' := ?_) #[true, true, true, true, true, true, true, true, true, true, true, true, true, true, true, false, false, false, false, false, false, false, false, false, false, false, false, false, false, false, false, false, false, false, false, false, false, false, false, false, false, false, false] rfl rfl (by kernel_rfl) (fun _ _ _ h => h) (Or.inl ⟨by rfl, ?_⟩) ?_ ?_
  rotate_left
  · intro w'
    go_simp
    with_reducible rfl
  rotate_left
  · simp only [Act.put, List.setIfInBounds_toArray, List.set_cons_zero, List.set_cons_succ, i64_w, i32_w]
    rfl
  refine pure_ (i := 15) (N := some 123) (v := ?_) (a' := ?_) #[true, true, true, true, true, true, true, true, true, true, true, true, true, true, true, true, false, false, false, false, false, false, false, false, false, false, false, false, false, false, false, false, false, false, false, false, false, false, false, false, false, false, false] rfl rfl (by kernel_rfl) (fun _ _ _ h => h) (Or.inl ⟨by rfl, ?_⟩) ?_ ?_
  rotate_left
  · intro w'
    go_simp
    with_reducible rfl
  rotate_left
  · simp only [Act.put, List.setIfInBounds_toArray, List.set_cons_zero, List.set_cons_succ, i64_w, i32_w]
    rfl
  refine pure_ (i := 16) (N := some 124) (v := ?_) (a' := ?_) #[true, true, true, true, true, true, true, true, true, true, true, true, true, true, true, true, true, false, false, false, false, false, false, false, false, false, false, false, false, false, false, false, false, false, false, false, false, false, false, false, false, false, false] rfl rfl (by kernel_rfl) (fun _ _ _ h => h) (Or.inl ⟨by rfl, ?_⟩) ?_ ?_
  rotate_left
  · intro w'
    go_simp
    with_reducible rfl
  rotate_left
  · simp only [Act.put, List.setIfInBounds_toArray, List.set_cons_zero, List.set_cons_succ, i64_w, i32_w]
    rfl
  refine pure_ (i := 17) (N := some 125) (v := ?_) (a' := ?_) #[true, true, true, true, true, true, true, true, true, true, true, true, true, true, true, true, true, true, false, false, false, false, false, false, false, false, false, false, false, false, false, false, false, false, false, false, false, false, false, false, false, false, false] rfl rfl (by kernel_rfl) (fun _ _ _ h => h) (Or.inl ⟨by rfl, ?_⟩) ?_ ?_
  rotate_left
  · intro w'
    go_simp
    with_reducible rfl
  rotate_left
  · simp only [Act.put, List.setIfInBounds_toArray, List.set_cons_zero, List.set_cons_succ, i64_w, i32_w]
    rfl
  refine pure_ (i := 18) (N := some 126) (v := ?_) (a' := ?_) #[true, true, true, true, true, true, true, true, true, true, true, true, true, true, true, true, true, true, true, false, false, false, false, false, false, false, false, false, false, false, false, false, false, false, false, false, false, false, false, false, false, false, false] rfl rfl (by kernel_rfl) (fun _ _ _ h => h) (Or.inl ⟨by rfl, ?_⟩) ?_ ?_
  rotate_left
  · intro w'
    go_simp
    with_reducible rfl
  rotate_left
  · simp only [Act.put, List.setIfInBounds_toArray, List.set_cons_zero, List.set_cons_succ, i64_w, i32_w]
    rfl
  refine take_ (i := 19) (N := some 127) (v := ?_) (a' := ?_) #[true, true, true, true, true, true, true, true, true, true, true, true, true, true, true, true, true, true, true, true, false, false, false, false, false, false, false, false, false, false, false, false, false, false, false, false, false, false, false, false, false, false, false] rfl rfl (by kernel_rfl) (fun _ _ _ h => h) (Or.inl ⟨by rfl, ?_⟩) hHeld ?_ ?_
  rotate_left
  · rintro w' ⟨s0, s1, s2, s3, s4, s5, s6, s7, s8⟩
    go_simp
    with_reducible rfl
  rotate_left
  · simp only [Act.put, List.setIfInBounds_toArray, List.set_cons_zero, List.set_cons_succ, i64_w, i32_w]
    rfl
  refine take_ (i := 21) (N := some 129) (v := ?_) (a' := ?_) #[true, true, true, true, true, true, true, true, true, true, true, true, true, true, true, true, true, true, true, true, false, true, false, false, false, false, false, false, false, false, false, false, false, false, false, false, false, false, false, false, false, false, false] rfl rfl (by kernel_rfl) (fun _ _ _ h => h) (Or.inl ⟨by rfl, ?_⟩) hHeld ?_ ?_
  rotate_left
  · rintro w' ⟨s0, s1, s2, s3, s4, s5, s6, s7, s8⟩
    go_simp
    with_reducible rfl
  rotate_left
  · simp only [Act.put, List.setIfInBounds_toArray, List.set_cons_zero, List.set_cons_succ, i64_w, i32_w]
    rfl
  refine one_ (i := 20) (N := some 128) #[true, true, true, true, true, true, true, true, true, true, true, true, true, true, true, true, true, true, true, true, true, true, false, false, false, false, false, false, false, false, false, false, false, false, false, false, false, false, false, false, false, false, false] rfl rfl (by kernel_rfl) (by decide) (fun K hK => ?_)
  refine goes_ Try.func12 (by kernel_rfl) rfl #[.agg #[.slice A2 n c2, .slice B2 m d2]] (by rfl) rfl rfl (by simp only [List.map_toArray, List.map_cons, List.map_nil]; rfl) ?_
  with_reducible refine (its_is A2 n c2 B2 m d2 _).mono ?_
  rintro e x20 ⟨rfl, hb⟩
  refine ⟨_, rfl, ?_⟩
  have kz := Aside0.mk (hHeld.2.2.2.2.2.2.2.2.out.step hb)
  clear hHeld hb
  refine hK.out _ _ ⟨kz.out.here.2.2.2.2.2.2.2.2.2.2.2.2.1.k0, kz.out.here.2.2.2.2.2.2.2.2.2.2.2.2.1.k1, kz.out.here.2.2.2.2.2.2.2.2.1.k0, kz.out.here.2.2.2.2.2.2.2.2.1.k1, kz.out.here.2.2.2.2.1.k0, kz.out.here.2.2.2.2.1.k1, kz.out.here.1.k0, kz.out.here.1.k1, kz⟩ (fun hHeld => ?_)
  clear hK K
  refine norm_ (a' := ?_) ?_ ?_
  rotate_left
  · show Act.put _ (some 128) _ = _
    simp only [Act.put, List.setIfInBounds_toArray, List.set_cons_zero, List.set_cons_succ, i64_w, i32_w]
    rfl
  refine one_ (i := 22) (N := some 130) #[true, true, true, true, true, true, true, true, true, true, true, true, true, true, true, true, true, true, true, true, true, true, true, false, false, false, false, false, false, false, false, false, false, false, false, false, false, false, false, false, false, false, false] rfl rfl (by kernel_rfl) (by decide) (fun K hK => ?_)
  refine goes_ Try.func12 (by kernel_rfl) rfl #[.agg #[.slice A4 n c4, .slice B4 m d4]] (by rfl) rfl rfl (by simp only [List.map_toArray, List.map_cons, List.map_nil]; rfl) ?_
  with_reducible refine (its_is A4 n c4 B4 m d4 _).mono ?_
  rintro e x22 ⟨rfl, hb⟩
  refine ⟨_, rfl, ?_⟩
  have kz := Aside0.mk (hHeld.2.2.2.2.2.2.2.2.out.step hb)
  clear hHeld hb
  refine hK.out _ _ ⟨kz.out.here.2.2.2.2.2.2.2.2.2.2.2.2.1.k0, kz.out.here.2.2.2.2.2.2.2.2.2.2.2.2.1.k1, kz.out.here.2.2.2.2.2.2.2.2.1.k0, kz.out.here.2.2.2.2.2.2.2.2.1.k1, kz.out.here.2.2.2.2.1.k0, kz.out.here.2.2.2.2.1.k1, kz.out.here.1.k0, kz.out.here.1.k1, kz⟩ (fun hHeld => ?_)
  clear hK K
  refine norm_ (a' := ?_) ?_ ?_
  rotate_left
  · show Act.put _ (some 130) _ = _
    simp only [Act.put, List.setIfInBounds_toArray, List.set_cons_zero, List.set_cons_succ, i64_w, i32_w]
    rfl
  refine one_ (i := 23) (N := some 131) #[true, true, true, true, true, true, true, true, true, true, true, true, true, true, true, true, true, true, true, true, true, true, true, true, false, false, false, false, false, false, false, false, false, false, false, false, false, false, false, false, false, false, false] rfl rfl (by kernel_rfl) (by decide) (fun K hK => ?_)
  refine goes_ Try.func19 (by kernel_rfl) rfl #[.agg #[.slice A2 n c2, .slice B2 m d2], .agg #[.slice A4 n c4, .slice B4 m d4]] (by rfl) rfl rfl (by simp only [List.map_toArray, List.map_cons, List.map_nil]; rfl) ?_
  with_reducible refine (same_is n m A2 c2 B2 d2 A4 c4 B4 d4 LY S2 S4 _ (hHeld.2.2.2.2.2.2.2.2).out.here.2.2.2.2.2.2.2.2.2.2.2.2.2.1 (hHeld.2.2.2.2.2.2.2.2).out.here.2.2.2.2.2.2.2.2.2.1).mono ?_
  rintro e x23 ⟨rfl, hb⟩
  refine ⟨_, rfl, ?_⟩
  have kz := Aside0.mk (hHeld.2.2.2.2.2.2.2.2.out.step hb)
  clear hHeld hb
  refine hK.out _ _ ⟨kz.out.here.2.2.2.2.2.2.2.2.2.2.2.2.1.k0, kz.out.here.2.2.2.2.2.2.2.2.2.2.2.2.1.k1, kz.out.here.2.2.2.2.2.2.2.2.1.k0, kz.out.here.2.2.2.2.2.2.2.2.1.k1, kz.out.here.2.2.2.2.1.k0, kz.out.here.2.2.2.2.1.k1, kz.out.here.1.k0, kz.out.here.1.k1, kz⟩ (fun hHeld => ?_)
  clear hK K
  refine norm_ (a' := ?_) ?_ ?_
  rotate_left
  · show Act.put _ (some 131) _ = _
    simp only [Act.put, List.setIfInBounds_toArray, List.set_cons_zero, List.set_cons_succ, i64_w, i32_w]
    rfl
  refine pure_ (i := 24) (N := some 132) (v := ?_) (a' := ?_) #[true, true, true, true, true, true, true, true, true, true, true, true, true, true, true, true, true, true, true, true, true, true, true, true, true, false, false, false, false, false, false, false, false, false, false, false, false, false, false, false, false, false, false] rfl rfl (by kernel_rfl) (fun _ _ _ h => h) (Or.inl ⟨by rfl, ?_⟩) ?_ ?_
  rotate_left
  · intro w'
    go_simp
    with_reducible rfl
  rotate_left
  · simp only [Act.put, List.setIfInBounds_toArray, List.set_cons_zero, List.set_cons_succ, i64_w, i32_w]
    rfl
  refine pure_ (i := 25) (N := some 133) (v := ?_) (a' := ?_) #[true, true, true, true, true, true, true, true, true, true, true, true, true, true, true, true, true, true, true, true, true, true, true, true, true, true, false, false, false, false, false, false, false, false, false, false, false, false, false, false, false, false, false] rfl rfl (by kernel_rfl) (fun _ _ _ h => h) (Or.inl ⟨by rfl, ?_⟩) ?_ ?_
  rotate_left
  · intro w'
    go_simp
    with_reducible rfl
  rotate_left
  · simp only [Act.put, List.setIfInBounds_toArray, List.set_cons_zero, List.set_cons_succ, i64_w, i32_w]
    rfl
  refine pure_ (i := 26) (N := some 134) (v := ?_) (a' := ?_) #[true, true, true, true, true, true, true, true, true, true, true, true, true, true, true, true, true, true, true, true, true, true, true, true, true, true, true, false, false, false, false, false, false, false, false, false, false, false, false, false, false, false, false] rfl rfl (by kernel_rfl) (fun _ _ _ h => h) (Or.inl ⟨by rfl, ?_⟩) ?_ ?_
  rotate_left
  · intro w'
    go_simp
    with_reducible rfl
  rotate_left
  · simp only [Act.put, List.setIfInBounds_toArray, List.set_cons_zero, List.set_cons_succ, i64_w, i32_w]
    rfl
  refine pure_ (i := 27) (N := some 135) (v := ?_) (a' := ?_) #[true, true, true, true, true, true, true, true, true, true, true, true, true, true, true, true, true, true, true, true, true, true, true, true, true, true, true, true, false, false, false, false, false, false, false, false, false, false, false, false, false, false, false] rfl rfl (by kernel_rfl) (fun _ _ _ h => h) (Or.inl ⟨by rfl, ?_⟩) ?_ ?_
  rotate_left
  · intro w'
    go_simp
    with_reducible rfl
  rotate_left
  · simp only [Act.put, List.setIfInBounds_toArray, List.set_cons_zero, List.set_cons_succ, i64_w, i32_w]
    rfl
  refine pure_ (i := 28) (N := some 136) (v := ?_) (a' := ?_) #[true, true, true, true, true, true, true, true, true, true, true, true, true, true, true, true, true, true, true, true, true, true, true, true, true, true, true, true, true, false, false, false, false, false, false, false, false, false, false, false, false, false, false] rfl rfl (by kernel_rfl) (fun _ _ _ h => h) (Or.inl ⟨by rfl, ?_⟩) ?_ ?_
  rotate_left
  · intro w'
    go_simp
    with_reducible rfl
  rotate_left
  · simp only [Act.put, List.setIfInBounds_toArray, List.set_cons_zero, List.set_cons_succ, i64_w, i32_w]
    rfl
  refine pure_ (i := 29) (N := some 137) (v := ?_) (a' := ?_) #[true, true, true, true, true, true, true, true, true, true, true, true, true, true, true, true, true, true, true, true, true, true, true, true, true, true, true, true, true, true, false, false, false, false, false, false, false, false, false, false, false, false, false] rfl rfl (by kernel_rfl) (fun _ _ _ h => h) (Or.inl ⟨by rfl, ?_⟩) ?_ ?_
  rotate_left
  · intro w'
    go_simp
    with_reducible rfl
  rotate_left
  · simp only [Act.put, List.setIfInBounds_toArray, List.set_cons_zero, List.set_cons_succ, i64_w, i32_w]
    rfl
  refine pure_ (i := 30) (N := some 138) (v := ?_) (a' := ?_) #[true, true, true, true, true, true, true, true, true, true, true, true, true, true, true, true, true, true, true, true, true, true, true, true, true, true, true, true, true, true, true, false, false, false, false, false, false, false, false, false, false, false, false] rfl rfl (by kernel_rfl) (fun _ _ _ h => h) (Or.inl ⟨by rfl, ?_⟩) ?_ ?_
  rotate_left
  · intro w'
    go_simp
    with_reducible rfl
  rotate_left
  · simp only [Act.put, List.setIfInBounds_toArray, List.set_cons_zero, List.set_cons_succ, i64_w, i32_w]
    rfl
  refine pure_ (i := 31) (N := some 139) (v := ?_) (a' := ?_) #[true, true, true, true, true, true, true, true, true, true, true, true, true, true, true, true, true, true, true, true, true, true, true, true, true, true, true, true, true, true, true, true, false, false, false, false, false, false, false, false, false, false, false] rfl rfl (by kernel_rfl) (fun _ _ _ h => h) (Or.inl ⟨by rfl, ?_⟩) ?_ ?_
  rotate_left
  · intro w'
    go_simp
    with_reducible rfl
  rotate_left
  · simp only [Act.put, List.setIfInBounds_toArray, List.set_cons_zero, List.set_cons_succ, i64_w, i32_w]
    rfl
  refine pure_ (i := 32) (N := some 140) (v := ?_) (a' := ?_) #[true, true, true, true, true, true, true, true, true, true, true, true, true, true, true, true, true, true, true, true, true, true, true, true, true, true, true, true, true, true, true, true, true, false, false, false, false, false, false, false, false, false, false] rfl rfl (by kernel_rfl) (fun _ _ _ h => h) (Or.inl ⟨by rfl, ?_⟩) ?_ ?_
  rotate_left
  · intro w'
    go_simp
    with_reducible rfl
  rotate_left
  · simp only [Act.put, List.setIfInBounds_toArray, List.set_cons_zero, List.set_cons_succ, i64_w, i32_w]
    rfl
  refine pure_ (i := 33) (N := some 141) (v := ?_) (a' := ?_) #[true, true, true, true, true, true, true, true, true, true, true, true, true, true, true, true, true, true, true, true, true, true, true, true, true, true, true, true, true, true, true, true, true, true, false, false, false, false, false, false, false, false, false] rfl rfl (by kernel_rfl) (fun _ _ _ h => h) (Or.inl ⟨by rfl, ?_⟩) ?_ ?_
  rotate_left
  · intro w'
    go_simp
    with_reducible rfl
  rotate_left
  · simp only [Act.put, List.setIfInBounds_toArray, List.set_cons_zero, List.set_cons_succ, i64_w, i32_w]
    rfl
  refine pure_ (i := 34) (N := some 142) (v := ?_) (a' := ?_) #[true, true, true, true, true, true, true, true, true, true, true, true, true, true, true, true, true, true, true, true, true, true, true, true, true, true, true, true, true, true, true, true, true, true, true, false, false, false, false, false, false, false, false] rfl rfl (by kernel_rfl) (fun _ _ _ h => h) (Or.inl ⟨by rfl, ?_⟩) ?_ ?_
  rotate_left
  · intro w'
    go_simp
    with_reducible rfl
  rotate_left
  · simp only [Act.put, List.setIfInBounds_toArray, List.set_cons_zero, List.set_cons_succ, i64_w, i32_w]
    rfl
  refine pure_ (i := 35) (N := some 143) (v := ?_) (a' := ?_) #[true, true, true, true, true, true, true, true, true, true, true, true, true, true, true, true, true, true, true, true, true, true, true, true, true, true, true, true, true, true, true, true, true, true, true, true, false, false, false, false, false, false, false] rfl rfl (by kernel_rfl) (fun _ _ _ h => h) (Or.inl ⟨by rfl, ?_⟩) ?_ ?_
  rotate_left
  · intro w'
    go_simp
    with_reducible rfl
  rotate_left
  · simp only [Act.put, List.setIfInBounds_toArray, List.set_cons_zero, List.set_cons_succ, i64_w, i32_w]
    rfl
  refine take_ (i := 36) (N := some 144) (v := ?_) (a' := ?_) #[true, true, true, true, true, true, true, true, true, true, true, true, true, true, true, true, true, true, true, true, true, true, true, true, true, true, true, true, true, true, true, true, true, true, true, true, true, false, false, false, false, false, false] rfl rfl (by kernel_rfl) (fun _ _ _ h => h) (Or.inl ⟨by rfl, ?_⟩) hHeld ?_ ?_
  rotate_left
  · rintro w' ⟨s0, s1, s2, s3, s4, s5, s6, s7, s8⟩
    go_simp
    with_reducible rfl
  rotate_left
  · simp only [Act.put, List.setIfInBounds_toArray, List.set_cons_zero, List.set_cons_succ, i64_w, i32_w]
    rfl
  refine take_ (i := 38) (N := some 146) (v := ?_) (a' := ?_) #[true, true, true, true, true, true, true, true, true, true, true, true, true, true, true, true, true, true, true, true, true, true, true, true, true, true, true, true, true, true, true, true, true, true, true, true, true, false, true, false, false, false, false] rfl rfl (by kernel_rfl) (fun _ _ _ h => h) (Or.inl ⟨by rfl, ?_⟩) hHeld ?_ ?_
  rotate_left
  · rintro w' ⟨s0, s1, s2, s3, s4, s5, s6, s7, s8⟩
    go_simp
    with_reducible rfl
  rotate_left
  · simp only [Act.put, List.setIfInBounds_toArray, List.set_cons_zero, List.set_cons_succ, i64_w, i32_w]
    rfl
  refine one_ (i := 37) (N := some 145) #[true, true, true, true, true, true, true, true, true, true, true, true, true, true, true, true, true, true, true, true, true, true, true, true, true, true, true, true, true, true, true, true, true, true, true, true, true, true, true, false, false, false, false] rfl rfl (by kernel_rfl) (by decide) (fun K hK => ?_)
  refine goes_ Try.func12 (by kernel_rfl) rfl #[.agg #[.slice A6 n c6, .slice B6 m d6]] (by rfl) rfl rfl (by simp only [List.map_toArray, List.map_cons, List.map_nil]; rfl) ?_
  with_reducible refine (its_is A6 n c6 B6 m d6 _).mono ?_
  rintro e x37 ⟨rfl, hb⟩
  refine ⟨_, rfl, ?_⟩
  have kz := Aside0.mk (hHeld.2.2.2.2.2.2.2.2.out.step hb)
  clear hHeld hb
  refine hK.out _ _ ⟨kz.out.here.2.2.2.2.2.2.2.2.2.2.2.2.1.k0, kz.out.here.2.2.2.2.2.2.2.2.2.2.2.2.1.k1, kz.out.here.2.2.2.2.2.2.2.2.1.k0, kz.out.here.2.2.2.2.2.2.2.2.1.k1, kz.out.here.2.2.2.2.1.k0, kz.out.here.2.2.2.2.1.k1, kz.out.here.1.k0, kz.out.here.1.k1, kz⟩ (fun hHeld => ?_)
  clear hK K
  refine norm_ (a' := ?_) ?_ ?_
  rotate_left
  · show Act.put _ (some 145) _ = _
    simp only [Act.put, List.setIfInBounds_toArray, List.set_cons_zero, List.set_cons_succ, i64_w, i32_w]
    rfl
  refine one_ (i := 39) (N := some 147) #[true, true, true, true, true, true, true, true, true, true, true, true, true, true, true, true, true, true, true, true, true, true, true, true, true, true, true, true, true, true, true, true, true, true, true, true, true, true, true, true, false, false, false] rfl rfl (by kernel_rfl) (by decide) (fun K hK => ?_)
  refine goes_ Try.func12 (by kernel_rfl) rfl #[.agg #[.slice A8 n c8, .slice B8 m d8]] (by rfl) rfl rfl (by simp only [List.map_toArray, List.map_cons, List.map_nil]; rfl) ?_
  with_reducible refine (its_is A8 n c8 B8 m d8 _).mono ?_
  rintro e x39 ⟨rfl, hb⟩
  refine ⟨_, rfl, ?_⟩
  have kz := Aside0.mk (hHeld.2.2.2.2.2.2.2.2.out.step hb)
  clear hHeld hb
  refine hK.out _ _ ⟨kz.out.here.2.2.2.2.2.2.2.2.2.2.2.2.1.k0, kz.out.here.2.2.2.2.2.2.2.2.2.2.2.2.1.k1, kz.out.here.2.2.2.2.2.2.2.2.1.k0, kz.out.here.2.2.2.2.2.2.2.2.1.k1, kz.out.here.2.2.2.2.1.k0, kz.out.here.2.2.2.2.1.k1, kz.out.here.1.k0, kz.out.here.1.k1, kz⟩ (fun hHeld => ?_)
  clear hK K
  refine norm_ (a' := ?_) ?_ ?_
  rotate_left
  · show Act.put _ (some 147) _ = _
    simp only [Act.put, List.setIfInBounds_toArray, List.set_cons_zero, List.set_cons_succ, i64_w, i32_w]
    rfl
  refine one_ (i := 40) (N := some 148) #[true, true, true, true, true, true, true, true, true, true, true, true, true, true, true, true, true, true, true, true, true, true, true, true, true, true, true, true, true, true, true, true, true, true, true, true, true, true, true, true, true, false, false] rfl rfl (by kernel_rfl) (by decide) (fun K hK => ?_)
  refine goes_ Try.func19 (by kernel_rfl) rfl #[.agg #[.slice A6 n c6, .slice B6 m d6], .agg #[.slice A8 n c8, .slice B8 m d8]] (by rfl) rfl rfl (by simp only [List.map_toArray, List.map_cons, List.map_nil]; rfl) ?_
  with_reducible refine (same_is n m A6 c6 B6 d6 A8 c8 B8 d8 LR S6 S8 _ (hHeld.2.2.2.2.2.2.2.2).out.here.2.2.2.2.2.1 (hHeld.2.2.2.2.2.2.2.2).out.here.2.1).mono ?_
  rintro e x40 ⟨rfl, hb⟩
  refine ⟨_, rfl, ?_⟩
  have kz := Aside0.mk (hHeld.2.2.2.2.2.2.2.2.out.step hb)
  clear hHeld hb
  refine hK.out _ _ ⟨kz.out.here.2.2.2.2.2.2.2.2.2.2.2.2.1.k0, kz.out.here.2.2.2.2.2.2.2.2.2.2.2.2.1.k1, kz.out.here.2.2.2.2.2.2.2.2.1.k0, kz.out.here.2.2.2.2.2.2.2.2.1.k1, kz.out.here.2.2.2.2.1.k0, kz.out.here.2.2.2.2.1.k1, kz.out.here.1.k0, kz.out.here.1.k1, kz⟩ (fun hHeld => ?_)
  clear hK K
  refine norm_ (a' := ?_) ?_ ?_
  rotate_left
  · show Act.put _ (some 148) _ = _
    simp only [Act.put, List.setIfInBounds_toArray, List.set_cons_zero, List.set_cons_succ, i64_w, i32_w]
    rfl
  refine pure_ (i := 41) (N := some 149) (v := ?_) (a' := ?_) #[true, true, true, true, true, true, true, true, true, true, true, true, true, true, true, true, true, true, true, true, true, true, true, true, true, true, true, true, true, true, true, true, true, true, true, true, true, true, true, true, true, true, false] rfl rfl (by kernel_rfl) (fun _ _ _ h => h) (Or.inl ⟨by rfl, ?_⟩) ?_ ?_
  rotate_left
  · intro w'
    go_simp
    with_reducible rfl
  rotate_left
  · simp only [Act.put, List.setIfInBounds_toArray, List.set_cons_zero, List.set_cons_succ, i64_w, i32_w]
    rfl
  refine pure_ (i := 42) (N := some 10) (v := ?_) (a' := ?_) #[true, true, true, true, true, true, true, true, true, true, true, true, true, true, true, true, true, true, true, true, true, true, true, true, true, true, true, true, true, true, true, true, true, true, true, true, true, true, true, true, true, true, true] rfl rfl (by kernel_rfl) (fun _ _ _ h => h) (Or.inl ⟨by rfl, ?_⟩) ?_ ?_
  rotate_left
  · intro w'
    go_simp
    with_reducible rfl
  rotate_left
  · simp only [Act.put, List.setIfInBounds_toArray, List.set_cons_zero, List.set_cons_succ, i64_w, i32_w]
    rfl
  refine done_ (by kernel_rfl) ?_
  have kn := hHeld.2.2.2.2.2.2.2.2
  clear hHeld kd kz
  go_wp2
  go_ret
  exact ⟨rfl, kn.out.here.2.2.2.2.2.2.2.2.2.2.2.2.2.2.2.2.2.2.2.2⟩
set_option maxHeartbeats 8000000 in
set_option maxRecDepth 100000 in
theorem apart_eq (n m : Nat) (A : Option Addr) (c : Nat) (B : Option Addr) (d : Nat) (L : LG) (t u ai aK bi bK : Int) (S : Nat → Prop) (w : World) (h : Aside0 (LV S n m A c B d L w)) (hne : (ai == bi) = true) :
    Calls Try.prog 6 #[.agg #[.slice A n c, .slice B m d], .int .i64 t, .int .i64 u, .agg #[.int .i64 ai, .int .i64 aK], .agg #[.int .i64 bi, .int .i64 bK]] w fun e w' => e = .returned (.bool true) ∧ Below w.heap.size w w' := by
  go_enter Try.func6, Try.ntmps6
  go_upto_region 1 with (fail)
  have kn := Aside0.mk (Kn.cons h.out.kn (tb_kn (Below.refl w.heap.size w)))
  replace kn := Aside0.mk (Kn.cons (Bx.new (w) (.slice A n c) (.slice B m d) 25).kn (kn.out.step (bal (w) (.cells #[.slice A n c, .slice B m d] 25))))
  replace kn := Aside0.mk (Kn.cons (Bx.new ((w).alloc (.cells #[.slice A n c, .slice B m d] 25)) (.int .i64 ai) (.int .i64 aK) 27).kn (kn.out.step (bal ((w).alloc (.cells #[.slice A n c, .slice B m d] 25)) (.cells #[.int .i64 ai, .int .i64 aK] 27))))
  replace kn := Aside0.mk (Kn.cons (Bx.new (((w).alloc (.cells #[.slice A n c, .slice B m d] 25)).alloc (.cells #[.int .i64 ai, .int .i64 aK] 27)) (.int .i64 bi) (.int .i64 bK) 27).kn (kn.out.step (bal (((w).alloc (.cells #[.slice A n c, .slice B m d] 25)).alloc (.cells #[.int .i64 ai, .int .i64 aK] 27)) (.cells #[.int .i64 bi, .int .i64 bK] 27))))
  simp only [World.size_alloc] at kn
  generalize (((w).alloc (.cells #[.slice A n c, .slice B m d] 25)).alloc (.cells #[.int .i64 ai, .int .i64 aK] 27)).alloc (.cells #[.int .i64 bi, .int .i64 bK] 27) = W0 at kn ⊢
  generalize w.heap.size + 1 + 1 = bq at kn ⊢
  generalize w.heap.size + 1 = bp at kn ⊢
  generalize hz : w.heap.size = bl at kn ⊢
  clear hz
  have yl0 := kn.out.here.2.2.1.k0
  have yl1 := kn.out.here.2.2.1.k1
  go_wp2_with (first | (go_at_call 10; (with_reducible refine (fine_lv (kn.out.here.2.2.2.1)).mono ?_); rintro e wf ⟨rfl, hb⟩; have kf := Aside0.mk (kn.out.step hb); clear hb kn; have zp0 := kf.out.here.2.1.k0; have zp1 := kf.out.here.2.1.k1; have zq0 := kf.out.here.1.k0; have zq1 := kf.out.here.1.k1) | (go_at_call 11; (with_reducible refine (shown_is _).mono ?_); rintro e wg ⟨rfl, hb⟩; have kn := Aside0.mk (kf.out.step hb); clear hb))
  go_ret
  exact ⟨rfl, kn.out.here.2.2.2.2⟩
set_option maxHeartbeats 8000000 in
set_option maxRecDepth 100000 in
theorem apart_no (A : Option Addr) (c : Nat) (B : Option Addr) (d : Nat) (hv : List Int) (hd : List (List Int)) (t u ai aK bi bK : Int) (w : World) (h : Aside0 (RD A c B d hv hd w)) (hf : fineS hv hd = false) :
    Calls Try.prog 6 #[.agg #[.slice A hv.length c, .slice B hd.length d], .int .i64 t, .int .i64 u, .agg #[.int .i64 ai, .int .i64 aK], .agg #[.int .i64 bi, .int .i64 bK]] w fun e w' => e = .returned (.bool true) ∧ Below w.heap.size w w' := by
  go_enter Try.func6, Try.ntmps6
  go_upto_region 1 with (fail)
  have kn := Aside0.mk (Kn.cons h.out.kn (tb_kn (Below.refl w.heap.size w)))
  replace kn := Aside0.mk (Kn.cons (Bx.new (w) (.slice A hv.length c) (.slice B hd.length d) 25).kn (kn.out.step (bal (w) (.cells #[.slice A hv.length c, .slice B hd.length d] 25))))
  replace kn := Aside0.mk (Kn.cons (Bx.new ((w).alloc (.cells #[.slice A hv.length c, .slice B hd.length d] 25)) (.int .i64 ai) (.int .i64 aK) 27).kn (kn.out.step (bal ((w).alloc (.cells #[.slice A hv.length c, .slice B hd.length d] 25)) (.cells #[.int .i64 ai, .int .i64 aK] 27))))
  replace kn := Aside0.mk (Kn.cons (Bx.new (((w).alloc (.cells #[.slice A hv.length c, .slice B hd.length d] 25)).alloc (.cells #[.int .i64 ai, .int .i64 aK] 27)) (.int .i64 bi) (.int .i64 bK) 27).kn (kn.out.step (bal (((w).alloc (.cells #[.slice A hv.length c, .slice B hd.length d] 25)).alloc (.cells #[.int .i64 ai, .int .i64 aK] 27)) (.cells #[.int .i64 bi, .int .i64 bK] 27))))
  simp only [World.size_alloc] at kn
  generalize (((w).alloc (.cells #[.slice A hv.length c, .slice B hd.length d] 25)).alloc (.cells #[.int .i64 ai, .int .i64 aK] 27)).alloc (.cells #[.int .i64 bi, .int .i64 bK] 27) = W0 at kn ⊢
  generalize w.heap.size + 1 + 1 = bq at kn ⊢
  generalize w.heap.size + 1 = bp at kn ⊢
  generalize hz : w.heap.size = bl at kn ⊢
  clear hz
  have yl0 := kn.out.here.2.2.1.k0
  have yl1 := kn.out.here.2.2.1.k1
  go_wp2_with (first | (go_at_call 10; (with_reducible refine (fine_no (kn.out.here.2.2.2.1) hf).mono ?_); rintro e wf ⟨rfl, hb⟩; have kf := Aside0.mk (kn.out.step hb); clear hb kn) | (go_at_call 11; (with_reducible refine (shown_is _).mono ?_); rintro e wg ⟨rfl, hb⟩; have kn := Aside0.mk (kf.out.step hb); clear hb))
  go_ret
  exact ⟨rfl, kn.out.here.2.2.2.2⟩
theorem apart_law (A : Option Addr) (c : Nat) (B : Option Addr) (d : Nat) (hv : List Int) (hd : List (List Int)) (t u ai aK bi bK : Int) (w : World) (hr : RD A c B d hv hd w) (ia : ∀ x, x ∈ hv → I64 x) (ib : ∀ r, r ∈ hd → ∀ x, x ∈ r → I64 x) (ha0 : Aside0 (-9223372036854775808 ≤ aK ∧ aK ≤ 9223372036854775807)) (hb0 : Aside0 (-9223372036854775808 ≤ bK ∧ bK ≤ 9223372036854775807)) :
    Calls Try.prog 6 #[.agg #[.slice A hv.length c, .slice B hd.length d], .int .i64 t, .int .i64 u, .agg #[.int .i64 ai, .int .i64 aK], .agg #[.int .i64 bi, .int .i64 bK]] w fun e w' => e = .returned (.bool true) ∧ Below w.heap.size w w' := by
  cases hf : fineS hv hd with
  | false => exact apart_no A c B d hv hd t u ai aK bi bK w ⟨hr⟩ hf
  | true =>
    have hl := lv_of_kd hr.a hr.ac hr.b hr.bd hf ia ib
    cases he : (ai == bi) with
    | true => exact apart_eq hv.length hd.length A c B d ⟨hv, hd⟩ t u ai aK bi bK _ w ⟨hl⟩ he
    | false =>
      have hij : ai ≠ bi := by simpa using he
      have g1 := res_some (n := hv.length) (m := hd.length) (t := t) (q := aK) (u := u) (p := bK) hl.g hij
      have g2 := rel_rs (n := hv.length) (m := hd.length) (t := t) (q := aK) (p := bK) hl.g hij
      obtain ⟨⟨LX, i1, e1⟩, h1⟩ : ∃ x, resS hv.length hd.length ⟨hv, hd⟩ t ai aK = x := ⟨_, rfl⟩
      obtain ⟨⟨LZ, j1, f1⟩, h3⟩ : ∃ x, someS hv.length hd.length ⟨hv, hd⟩ u bi bK = x := ⟨_, rfl⟩
      obtain ⟨⟨LP, o1, q1⟩, h5⟩ : ∃ x, relS hv.length hd.length ⟨hv, hd⟩ t ai aK = x := ⟨_, rfl⟩
      obtain ⟨⟨LS, s1⟩, h7⟩ : ∃ x, rsS hv.length ⟨hv, hd⟩ bi bK = x := ⟨_, rfl⟩
      rw [h1, h3] at g1
      rw [h5, h7] at g2
      obtain ⟨⟨LY, j2, f2⟩, h2⟩ : ∃ x, someS hv.length hd.length LX u bi bK = x := ⟨_, rfl⟩
      obtain ⟨⟨LW, i2, e2⟩, h4⟩ : ∃ x, resS hv.length hd.length LZ t ai aK = x := ⟨_, rfl⟩
      obtain ⟨⟨LR, r1⟩, h6⟩ : ∃ x, rsS hv.length LP bi bK = x := ⟨_, rfl⟩
      obtain ⟨⟨LT, o2, q2⟩, h8⟩ : ∃ x, relS hv.length hd.length LS t ai aK = x := ⟨_, rfl⟩
      dsimp only at g1 g2
      rw [h2, h4] at g1
      rw [h6, h8] at g2
      simp only [Prod.mk.injEq] at g1 g2
      obtain ⟨rfl, ⟨rfl, rfl⟩, rfl, rfl⟩ := g1
      obtain ⟨rfl, rfl, rfl⟩ := g2
      exact apart_ok hv.length hd.length A c B d ⟨hv, hd⟩ t u ai aK bi bK _ w ⟨hl⟩ ha0 hb0 he _ _ _ _ _ _ _ _ _ _ _ _ _ _ ⟨h1⟩ ⟨h2⟩ ⟨h3⟩ ⟨h4⟩ ⟨h5⟩ ⟨h6⟩ ⟨h7⟩ ⟨h8⟩
end Go.Proofs.Ytlgoincnopfnjaa.Led
