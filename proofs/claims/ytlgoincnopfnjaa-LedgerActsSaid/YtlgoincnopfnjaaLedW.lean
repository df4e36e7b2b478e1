/- What any call makes of any ledger that is right, what it tells, and its error, are the document's. -/
import Derived.Test.YtlgoincnopfnjaaLedR
import Derived.Test.YtlgoincnopfnjaaLedK
namespace Go.Proofs.Ytlgoincnopfnjaa.Led
open Go Go.RowKit Go.Proofs.YtlgoincnopfnjaaW.PrintWords Go.Proofs.YtlgoincnopfnjaaW.PrintMore Go.Proofs.YtlgoincnopfnjaaW.PrintLast
set_option linter.unusedSimpArgs false
set_option linter.unusedVariables false
attribute [local go_sem] max2_int min2_int max_two min_two eqA27
set_option maxHeartbeats 8000000 in
set_option maxRecDepth 100000 in
theorem acts_ok (n m : Nat) (A : Option Addr) (c : Nat) (B : Option Addr) (d : Nat) (L : LG) (t ai aK bi bK : Int) (S : Nat → Prop) (w : World) (h : Aside0 (LV S n m A c B d L w)) (ha0 : Aside0 (-9223372036854775808 ≤ aK ∧ aK ≤ 9223372036854775807)) (hb0 : Aside0 (-9223372036854775808 ≤ bK ∧ bK ≤ 9223372036854775807)) (L1 L3 L5 L7 L9 : LG) (k1 e1 k3 e3 k5 e5 e7 k9 e9 : Int) (h1 : Aside0 (resS n m L t ai aK = (L1, k1, e1))) (h2 : Aside0 (someS n m L t ai aK = (L3, k3, e3))) (h3 : Aside0 (relS n m L t ai aK = (L5, k5, e5))) (h4 : Aside0 (rsS n L ai aK = (L7, e7))) (h5 : Aside0 (Hid (bothS n m L t ai aK bi bK = (L9, k9, e9)))) :
    Calls Try.prog 3 #[.agg #[.slice A n c, .slice B m d], .int .i64 t, .agg #[.int .i64 ai, .int .i64 aK], .agg #[.int .i64 bi, .int .i64 bK]] w fun e w' => e = .returned (.bool true) ∧ Below w.heap.size w w' := by
  go_enter Try.func3, Try.ntmps3
  go_upto_region 1 with (fail)
  have kn := Aside0.mk (Kn.cons h.out.kn (tb_kn (Below.refl w.heap.size w)))
  replace kn := Aside0.mk (Kn.cons (Bx.new (w) (.slice A n c) (.slice B m d) 25).kn (kn.out.step (bal (w) (.cells #[.slice A n c, .slice B m d] 25))))
  replace kn := Aside0.mk (Kn.cons (Bx.new ((w).alloc (.cells #[.slice A n c, .slice B m d] 25)) (.int .i64 ai) (.int .i64 aK) 27).kn (kn.out.step (bal ((w).alloc (.cells #[.slice A n c, .slice B m d] 25)) (.cells #[.int .i64 ai, .int .i64 aK] 27))))
  replace kn := Aside0.mk (Kn.cons (Bx.new (((w).alloc (.cells #[.slice A n c, .slice B m d] 25)).alloc (.cells #[.int .i64 ai, .int .i64 aK] 27)) (.int .i64 bi) (.int .i64 bK) 27).kn (kn.out.step (bal (((w).alloc (.cells #[.slice A n c, .slice B m d] 25)).alloc (.cells #[.int .i64 ai, .int .i64 aK] 27)) (.cells #[.int .i64 bi, .int .i64 bK] 27))))
  simp only [World.size_alloc] at kn
  generalize (((w).alloc (.cells #[.slice A n c, .slice B m d] 25)).alloc (.cells #[.int .i64 ai, .int .i64 aK] 27)).alloc (.cells #[.int .i64 bi, .int .i64 bK] 27) = W0 at kn ⊢
  generalize w.heap.size + 1 + 1 = bq at kn ⊢
  generalize w.heap.size + 1 = bp at kn ⊢
  generalize hz : w.heap.size = bl at kn ⊢
  clear hz
  have yl0 := kn.out.here.2.2.1.k0
  have yl1 := kn.out.here.2.2.1.k1
  go_upto_region 3 with (first | (go_at_call 10; (with_reducible refine (fine_lv (kn.out.here.2.2.2.1)).mono ?_); rintro e wf ⟨rfl, hb⟩; have kf := Aside0.mk (kn.out.step hb); clear hb kn) | (go_at_call 11; (with_reducible refine (shown_is _).mono ?_); rintro e wg ⟨rfl, hb⟩; have kn := Aside0.mk (kf.out.step hb); clear hb kf))
  clear yl0 yl1
  have yl0 := kn.out.here.2.2.1.k0
  have yl1 := kn.out.here.2.2.1.k1
  go_upto_region 4 with (first | (go_at_call 12; (with_reducible refine (its_is A n c B m d _).mono ?_); rintro e w1 ⟨rfl, hb⟩; replace hb := Aside0.mk hb))
  clear yl0 yl1
  replace kn := Aside0.mk (Kn.cons (Bx.new w1 (.slice A n c) (.slice B m d) 30).kn (kn.out.step (hb.out.alloc hb.out.size (.cells #[.slice A n c, .slice B m d] 30))))
  clear hb
  generalize w1.alloc (.cells #[.slice A n c, .slice B m d] 30) = W1 at kn ⊢
  generalize w1.heap.size = bg at kn ⊢
  have yp0 := kn.out.here.2.2.1.k0
  have yp1 := kn.out.here.2.2.1.k1
  go_upto_region 5 with (fail)
  clear yp0 yp1
  replace kn := Aside0.mk (Kn.cons (Bx.new W1 (.int .i64 ai) (.int .i64 aK) 32).kn (kn.out.step (bal W1 (.cells #[.int .i64 ai, .int .i64 aK] 32))))
  generalize W1.alloc (.cells #[.int .i64 ai, .int .i64 aK] 32) = W2 at kn ⊢
  generalize W1.heap.size = bx at kn ⊢
  have yl0 := kn.out.here.2.2.2.2.1.k0
  have yl1 := kn.out.here.2.2.2.2.1.k1
  have yp0 := kn.out.here.2.2.2.1.k0
  have yp1 := kn.out.here.2.2.2.1.k1
  go_upto_region 6 with (first | (go_at_call 13; (with_reducible refine (reserve_is n m A c B d L t ai aK S _ ⟨kn.out.here.2.2.2.2.2.1⟩ ha0 L1 k1 e1 h1.out).mono ?_); rintro e w3 ⟨S1, A1, c1, B1, d1, rfl, hl, hS, hb⟩; replace hb := Aside0.mk hb; replace hl := Aside0.mk hl))
  clear yl0 yl1 yp0 yp1
  replace kn := Aside0.mk (Kn.cons (Bx.new w3 (.slice A1 n c1) (.slice B1 m d1) 25).kn (Kn.cons (hl.out.below (bal w3 (.cells #[.slice A1 n c1, .slice B1 m d1] 25))).kn (kn.out.step (hb.out.alloc hb.out.size (.cells #[.slice A1 n c1, .slice B1 m d1] 25)))))
  clear hb hl
  generalize w3.alloc (.cells #[.slice A1 n c1, .slice B1 m d1] 25) = W3 at kn ⊢
  generalize w3.heap.size = b1 at kn ⊢
  have yg0 := kn.out.here.2.2.2.1.k0
  have yg1 := kn.out.here.2.2.2.1.k1
  have yx0 := kn.out.here.2.2.1.k0
  have yx1 := kn.out.here.2.2.1.k1
  go_upto_region 7 with (first | (go_at_call 14; (with_reducible refine (rreserve_is n m A c B d L t ai aK S _ ⟨kn.out.here.2.2.2.2.2.2.2.1⟩ ha0 L1 k1 e1 h1.out).mono ?_); rintro e w4 ⟨S2, A2, c2, B2, d2, rfl, hl, hS, hb⟩; replace hb := Aside0.mk hb; replace hl := Aside0.mk hl))
  clear yg0 yg1 yx0 yx1
  replace kn := Aside0.mk (Kn.cons (Bx.new w4 (.slice A2 n c2) (.slice B2 m d2) 30).kn (Kn.cons (hl.out.below (bal w4 (.cells #[.slice A2 n c2, .slice B2 m d2] 30))).kn (kn.out.step (hb.out.alloc hb.out.size (.cells #[.slice A2 n c2, .slice B2 m d2] 30)))))
  clear hb hl
  generalize w4.alloc (.cells #[.slice A2 n c2, .slice B2 m d2] 30) = W4 at kn ⊢
  generalize w4.heap.size = b2 at kn ⊢
  have yl0 := kn.out.here.2.2.2.2.2.2.2.2.1.k0
  have yl1 := kn.out.here.2.2.2.2.2.2.2.2.1.k1
  have yp0 := kn.out.here.2.2.2.2.2.2.2.1.k0
  have yp1 := kn.out.here.2.2.2.2.2.2.2.1.k1
  go_upto_region 8 with (first | (go_at_call 15; (with_reducible refine (some_is n m A c B d L t ai aK S _ ⟨kn.out.here.2.2.2.2.2.2.2.2.2.1⟩ ha0 L3 k3 e3 h2.out).mono ?_); rintro e w5 ⟨S3, A3, c3, B3, d3, rfl, hl, hS, hb⟩; replace hb := Aside0.mk hb; replace hl := Aside0.mk hl))
  clear yl0 yl1 yp0 yp1
  replace kn := Aside0.mk (Kn.cons (Bx.new w5 (.slice A3 n c3) (.slice B3 m d3) 25).kn (Kn.cons (hl.out.below (bal w5 (.cells #[.slice A3 n c3, .slice B3 m d3] 25))).kn (kn.out.step (hb.out.alloc hb.out.size (.cells #[.slice A3 n c3, .slice B3 m d3] 25)))))
  clear hb hl
  generalize w5.alloc (.cells #[.slice A3 n c3, .slice B3 m d3] 25) = W5 at kn ⊢
  generalize w5.heap.size = b3 at kn ⊢
  have yg0 := kn.out.here.2.2.2.2.2.2.2.1.k0
  have yg1 := kn.out.here.2.2.2.2.2.2.2.1.k1
  have yx0 := kn.out.here.2.2.2.2.2.2.1.k0
  have yx1 := kn.out.here.2.2.2.2.2.2.1.k1
  go_upto_region 9 with (first | (go_at_call 16; (with_reducible refine (rsome_is n m A c B d L t ai aK S _ ⟨kn.out.here.2.2.2.2.2.2.2.2.2.2.2.1⟩ ha0 L3 k3 e3 h2.out).mono ?_); rintro e w6 ⟨S4, A4, c4, B4, d4, rfl, hl, hS, hb⟩; replace hb := Aside0.mk hb; replace hl := Aside0.mk hl))
  clear yg0 yg1 yx0 yx1
  replace kn := Aside0.mk (Kn.cons (Bx.new w6 (.slice A4 n c4) (.slice B4 m d4) 30).kn (Kn.cons (hl.out.below (bal w6 (.cells #[.slice A4 n c4, .slice B4 m d4] 30))).kn (kn.out.step (hb.out.alloc hb.out.size (.cells #[.slice A4 n c4, .slice B4 m d4] 30)))))
  clear hb hl
  generalize w6.alloc (.cells #[.slice A4 n c4, .slice B4 m d4] 30) = W6 at kn ⊢
  generalize w6.heap.size = b4 at kn ⊢
  have yl0 := kn.out.here.2.2.2.2.2.2.2.2.2.2.2.2.1.k0
  have yl1 := kn.out.here.2.2.2.2.2.2.2.2.2.2.2.2.1.k1
  have yp0 := kn.out.here.2.2.2.2.2.2.2.2.2.2.2.1.k0
  have yp1 := kn.out.here.2.2.2.2.2.2.2.2.2.2.2.1.k1
  go_upto_region 10 with (first | (go_at_call 17; (with_reducible refine (release_is n m A c B d L t ai aK S _ ⟨kn.out.here.2.2.2.2.2.2.2.2.2.2.2.2.2.1⟩ ha0 L5 k5 e5 h3.out).mono ?_); rintro e w7 ⟨S5, A5, c5, B5, d5, rfl, hl, hS, hb⟩; replace hb := Aside0.mk hb; replace hl := Aside0.mk hl))
  clear yl0 yl1 yp0 yp1
  replace kn := Aside0.mk (Kn.cons (Bx.new w7 (.slice A5 n c5) (.slice B5 m d5) 25).kn (Kn.cons (hl.out.below (bal w7 (.cells #[.slice A5 n c5, .slice B5 m d5] 25))).kn (kn.out.step (hb.out.alloc hb.out.size (.cells #[.slice A5 n c5, .slice B5 m d5] 25)))))
  clear hb hl
  generalize w7.alloc (.cells #[.slice A5 n c5, .slice B5 m d5] 25) = W7 at kn ⊢
  generalize w7.heap.size = b5 at kn ⊢
  have yg0 := kn.out.here.2.2.2.2.2.2.2.2.2.2.2.1.k0
  have yg1 := kn.out.here.2.2.2.2.2.2.2.2.2.2.2.1.k1
  have yx0 := kn.out.here.2.2.2.2.2.2.2.2.2.2.1.k0
  have yx1 := kn.out.here.2.2.2.2.2.2.2.2.2.2.1.k1
  go_upto_region 11 with (first | (go_at_call 18; (with_reducible refine (rrelease_is n m A c B d L t ai aK S _ ⟨kn.out.here.2.2.2.2.2.2.2.2.2.2.2.2.2.2.2.1⟩ ha0 L5 k5 e5 h3.out).mono ?_); rintro e w8 ⟨S6, A6, c6, B6, d6, rfl, hl, hS, hb⟩; replace hb := Aside0.mk hb; replace hl := Aside0.mk hl))
  clear yg0 yg1 yx0 yx1
  replace kn := Aside0.mk (Kn.cons (Bx.new w8 (.slice A6 n c6) (.slice B6 m d6) 30).kn (Kn.cons (hl.out.below (bal w8 (.cells #[.slice A6 n c6, .slice B6 m d6] 30))).kn (kn.out.step (hb.out.alloc hb.out.size (.cells #[.slice A6 n c6, .slice B6 m d6] 30)))))
  clear hb hl
  generalize w8.alloc (.cells #[.slice A6 n c6, .slice B6 m d6] 30) = W8 at kn ⊢
  generalize w8.heap.size = b6 at kn ⊢
  have kd := Aside0.mk (kn.out.step (below_drew1 (Below.refl W8.heap.size W8)))
  clear kn
  refine start_ (n := 49) (S := fun w' => w'.cell? ⟨b1, 0, none⟩ = some (.slice A1 n c1) ∧ w'.cell? ⟨b1, 1, none⟩ = some (.slice B1 m d1) ∧ w'.cell? ⟨b2, 0, none⟩ = some (.slice A2 n c2) ∧ w'.cell? ⟨b2, 1, none⟩ = some (.slice B2 m d2) ∧ w'.cell? ⟨b3, 0, none⟩ = some (.slice A3 n c3) ∧ w'.cell? ⟨b3, 1, none⟩ = some (.slice B3 m d3) ∧ w'.cell? ⟨b4, 0, none⟩ = some (.slice A4 n c4) ∧ w'.cell? ⟨b4, 1, none⟩ = some (.slice B4 m d4) ∧ w'.cell? ⟨b5, 0, none⟩ = some (.slice A5 n c5) ∧ w'.cell? ⟨b5, 1, none⟩ = some (.slice B5 m d5) ∧ w'.cell? ⟨b6, 0, none⟩ = some (.slice A6 n c6) ∧ w'.cell? ⟨b6, 1, none⟩ = some (.slice B6 m d6) ∧ Aside0 (Kn (fun W => Bx b6 (.slice A6 n c6) (.slice B6 m d6) W ∧ LV S6 n m A6 c6 B6 d6 L5 W ∧ Bx b5 (.slice A5 n c5) (.slice B5 m d5) W ∧ LV S5 n m A5 c5 B5 d5 L5 W ∧ Bx b4 (.slice A4 n c4) (.slice B4 m d4) W ∧ LV S4 n m A4 c4 B4 d4 L3 W ∧ Bx b3 (.slice A3 n c3) (.slice B3 m d3) W ∧ LV S3 n m A3 c3 B3 d3 L3 W ∧ Bx b2 (.slice A2 n c2) (.slice B2 m d2) W ∧ LV S2 n m A2 c2 B2 d2 L1 W ∧ Bx b1 (.slice A1 n c1) (.slice B1 m d1) W ∧ LV S1 n m A1 c1 B1 d1 L1 W ∧ Bx bx (.int .i64 ai) (.int .i64 aK) W ∧ Bx bg (.slice A n c) (.slice B m d) W ∧ Bx bq (.int .i64 bi) (.int .i64 bK) W ∧ Bx bp (.int .i64 ai) (.int .i64 aK) W ∧ Bx bl (.slice A n c) (.slice B m d) W ∧ LV S n m A c B d L W ∧ Tb w W) w')) (ds := []) #[false, false, false, false, false, false, false, false, false, false, false, false, false, false, false, false, false, false, false, false, false, false, false, false, false, false, false, false, false, false, false, false, false, false, false, false, false, false, false, false, false, false, false, false, false, false, false, false, false] (by kernel_rfl) rfl rfl ⟨kd.out.here.2.2.2.2.2.2.2.2.2.2.1.k0, kd.out.here.2.2.2.2.2.2.2.2.2.2.1.k1, kd.out.here.2.2.2.2.2.2.2.2.1.k0, kd.out.here.2.2.2.2.2.2.2.2.1.k1, kd.out.here.2.2.2.2.2.2.1.k0, kd.out.here.2.2.2.2.2.2.1.k1, kd.out.here.2.2.2.2.1.k0, kd.out.here.2.2.2.2.1.k1, kd.out.here.2.2.1.k0, kd.out.here.2.2.1.k1, kd.out.here.1.k0, kd.out.here.1.k1, kd⟩ (fun hHeld => ?_)
  generalize W8.drew = V8 at kd hHeld ⊢
  refine take_ (i := 0) (N := some 98) (v := ?_) (a' := ?_) #[true, false, false, false, false, false, false, false, false, false, false, false, false, false, false, false, false, false, false, false, false, false, false, false, false, false, false, false, false, false, false, false, false, false, false, false, false, false, false, false, false, false, false, false, false, false, false, false, false] rfl rfl (by kernel_rfl) (fun _ _ _ h => h) (Or.inl ⟨by rfl, ?_⟩) hHeld ?_ ?_
  rotate_left
  · rintro w' ⟨s0, s1, s2, s3, s4, s5, s6, s7, s8, s9, s10, s11, s12⟩
    go_simp
    with_reducible rfl
  rotate_left
  · simp only [Act.put, List.setIfInBounds_toArray, List.set_cons_zero, List.set_cons_succ, i64_w, i32_w]
    rfl
  refine take_ (i := 2) (N := some 100) (v := ?_) (a' := ?_) #[true, false, true, false, false, false, false, false, false, false, false, false, false, false, false, false, false, false, false, false, false, false, false, false, false, false, false, false, false, false, false, false, false, false, false, false, false, false, false, false, false, false, false, false, false, false, false, false, false] rfl rfl (by kernel_rfl) (fun _ _ _ h => h) (Or.inl ⟨by rfl, ?_⟩) hHeld ?_ ?_
  rotate_left
  · rintro w' ⟨s0, s1, s2, s3, s4, s5, s6, s7, s8, s9, s10, s11, s12⟩
    go_simp
    with_reducible rfl
  rotate_left
  · simp only [Act.put, List.setIfInBounds_toArray, List.set_cons_zero, List.set_cons_succ, i64_w, i32_w]
    rfl
  refine one_ (i := 1) (N := some 99) #[true, true, true, false, false, false, false, false, false, false, false, false, false, false, false, false, false, false, false, false, false, false, false, false, false, false, false, false, false, false, false, false, false, false, false, false, false, false, false, false, false, false, false, false, false, false, false, false, false] rfl rfl (by kernel_rfl) (by decide) (fun K hK => ?_)
  refine goes_ Try.func12 (by kernel_rfl) rfl #[.agg #[.slice A1 n c1, .slice B1 m d1]] (by rfl) rfl rfl (by simp only [List.map_toArray, List.map_cons, List.map_nil]; rfl) ?_
  with_reducible refine (its_is A1 n c1 B1 m d1 _).mono ?_
  rintro e x1 ⟨rfl, hb⟩
  refine ⟨_, rfl, ?_⟩
  have kz := Aside0.mk (hHeld.2.2.2.2.2.2.2.2.2.2.2.2.out.step hb)
  clear hHeld hb
  refine hK.out _ _ ⟨kz.out.here.2.2.2.2.2.2.2.2.2.2.1.k0, kz.out.here.2.2.2.2.2.2.2.2.2.2.1.k1, kz.out.here.2.2.2.2.2.2.2.2.1.k0, kz.out.here.2.2.2.2.2.2.2.2.1.k1, kz.out.here.2.2.2.2.2.2.1.k0, kz.out.here.2.2.2.2.2.2.1.k1, kz.out.here.2.2.2.2.1.k0, kz.out.here.2.2.2.2.1.k1, kz.out.here.2.2.1.k0, kz.out.here.2.2.1.k1, kz.out.here.1.k0, kz.out.here.1.k1, kz⟩ (fun hHeld => ?_)
  clear hK K
  refine norm_ (a' := ?_) ?_ ?_
  rotate_left
  · show Act.put _ (some 99) _ = _
    simp only [Act.put, List.setIfInBounds_toArray, List.set_cons_zero, List.set_cons_succ, i64_w, i32_w]
    rfl
  refine one_ (i := 3) (N := some 101) #[true, true, true, true, false, false, false, false, false, false, false, false, false, false, false, false, false, false, false, false, false, false, false, false, false, false, false, false, false, false, false, false, false, false, false, false, false, false, false, false, false, false, false, false, false, false, false, false, false] rfl rfl (by kernel_rfl) (by decide) (fun K hK => ?_)
  refine goes_ Try.func19 (by kernel_rfl) rfl #[.agg #[.slice A1 n c1, .slice B1 m d1], .agg #[.slice A2 n c2, .slice B2 m d2]] (by rfl) rfl rfl (by simp only [List.map_toArray, List.map_cons, List.map_nil]; rfl) ?_
  with_reducible refine (same_is n m A1 c1 B1 d1 A2 c2 B2 d2 L1 S1 S2 _ (hHeld.2.2.2.2.2.2.2.2.2.2.2.2).out.here.2.2.2.2.2.2.2.2.2.2.2.1 (hHeld.2.2.2.2.2.2.2.2.2.2.2.2).out.here.2.2.2.2.2.2.2.2.2.1).mono ?_
  rintro e x3 ⟨rfl, hb⟩
  refine ⟨_, rfl, ?_⟩
  have kz := Aside0.mk (hHeld.2.2.2.2.2.2.2.2.2.2.2.2.out.step hb)
  clear hHeld hb
  refine hK.out _ _ ⟨kz.out.here.2.2.2.2.2.2.2.2.2.2.1.k0, kz.out.here.2.2.2.2.2.2.2.2.2.2.1.k1, kz.out.here.2.2.2.2.2.2.2.2.1.k0, kz.out.here.2.2.2.2.2.2.2.2.1.k1, kz.out.here.2.2.2.2.2.2.1.k0, kz.out.here.2.2.2.2.2.2.1.k1, kz.out.here.2.2.2.2.1.k0, kz.out.here.2.2.2.2.1.k1, kz.out.here.2.2.1.k0, kz.out.here.2.2.1.k1, kz.out.here.1.k0, kz.out.here.1.k1, kz⟩ (fun hHeld => ?_)
  clear hK K
  refine norm_ (a' := ?_) ?_ ?_
  rotate_left
  · show Act.put _ (some 101) _ = _
    simp only [Act.put, List.setIfInBounds_toArray, List.set_cons_zero, List.set_cons_succ, i64_w, i32_w]
    rfl
  refine pure_ (i := 4) (N := some 102) (v := ?_) (a' := ?_) #[true, true, true, true, true, false, false, false, false, false, false, false, false, false, false, false, false, false, false, false, false, false, false, false, false, false, false, false, false, false, false, false, false, false, false, false, false, false, false, false, false, false, false, false, false, false, false, false, false] rfl rfl (by kernel_rfl) (fun _ _ _ h => h) (Or.inl ⟨by rfl, ?_⟩) ?_ ?_
  rotate_left
  · intro w'
    go_simp
    with_reducible rfl
  rotate_left
  · simp only [Act.put, List.setIfInBounds_toArray, List.set_cons_zero, List.set_cons_succ, i64_w, i32_w]
    rfl
  refine pure_ (i := 5) (N := some 103) (v := ?_) (a' := ?_) #[true, true, true, true, true, true, false, false, false, false, false, false, false, false, false, false, false, false, false, false, false, false, false, false, false, false, false, false, false, false, false, false, false, false, false, false, false, false, false, false, false, false, false, false, false, false, false, false, false] rfl rfl (by kernel_rfl) (fun _ _ _ h => h) (Or.inl ⟨by rfl, ?_⟩) ?_ ?_
  rotate_left
  · intro w'
    go_simp
    with_reducible rfl
  rotate_left
  · simp only [Act.put, List.setIfInBounds_toArray, List.set_cons_zero, List.set_cons_succ, i64_w, i32_w]
    rfl
  refine pure_ (i := 6) (N := some 104) (v := ?_) (a' := ?_) #[true, true, true, true, true, true, true, false, false, false, false, false, false, false, false, false, false, false, false, false, false, false, false, false, false, false, false, false, false, false, false, false, false, false, false, false, false, false, false, false, false, false, false, false, false, false, false, false, false] rfl rfl (by kernel_rfl) (fun _ _ _ h => h) (Or.inl ⟨by rfl, ?_⟩) ?_ ?_
  rotate_left
  · intro w'
    go_simp
    with_reducible rfl
  rotate_left
  · simp only [Act.put, List.setIfInBounds_toArray, List.set_cons_zero, List.set_cons_succ, i64_w, i32_w]
    rfl
  refine pure_ (i := 7) (N := some 105) (v := ?_) (a' := ?_) #[true, true, true, true, true, true, true, true, false, false, false, false, false, false, false, false, false, false, false, false, false, false, false, false, false, false, false, false, false, false, false, false, false, false, false, false, false, false, false, false, false, false, false, false, false, false, false, false, false] rfl rfl (by kernel_rfl) (fun _ _ _ h => h) (Or.inl ⟨by rfl, ?_⟩) ?_ ?_
  rotate_left
  · intro w'
    go_simp
    with_reducible rfl
  rotate_left
  · simp only [Act.put, List.setIfInBounds_toArray, List.set_cons_zero, List.set_cons_succ, i64_w, i32_w]
    rfl
  refine pure_ (i := 8) (N := some 106) (v := ?_) (a' := ?_) #[true, true, true, true, true, true, true, true, true, false, false, false, false, false, false, false, false, false, false, false, false, false, false, false, false, false, false, false, false, false, false, false, false, false, false, false, false, false, false, false, false, false, false, false, false, false, false, false, false] rfl rfl (by kernel_rfl) (fun _ _ _ h => h) (Or.inl ⟨by rfl, ?_⟩) ?_ ?_
  rotate_left
  · intro w'
    go_simp
    with_reducible rfl
  rotate_left
  · simp only [Act.put, List.setIfInBounds_toArray, List.set_cons_zero, List.set_cons_succ, i64_w, i32_w]
    rfl
  refine pure_ (i := 9) (N := some 107) (v := ?_) (a' := ?_) #[true, true, true, true, true, true, true, true, true, true, false, false, false, false, false, false, false, false, false, false, false, false, false, false, false, false, false, false, false, false, false, false, false, false, false, false, false, false, false, false, false, false, false, false, false, false, false, false, false] rfl rfl (by kernel_rfl) (fun _ _ _ h => h) (Or.inl ⟨by rfl, ?_⟩) ?_ ?_
  rotate_left
  · intro w'
    go_simp
    with_reducible rfl
  rotate_left
  · simp only [Act.put, List.setIfInBounds_toArray, List.set_cons_zero, List.set_cons_succ, i64_w, i32_w]
    rfl
  refine pure_ (i := 10) (N := some 108) (v := ?_) (a' := ?_) #[true, true, true, true, true, true, true, true, true, true, true, false, false, false, false, false, false, false, false, false, false, false, false, false, false, false, false, false, false, false, false, false, false, false, false, false, false, false, false, false, false, false, false, false, false, false, false, false, false] rfl rfl (by kernel_rfl) (fun _ _ _ h => h) (Or.inl ⟨by rfl, ?_⟩) ?_ ?_
  rotate_left
  · intro w'
    go_simp
    with_reducible rfl
  rotate_left
  · simp only [Act.put, List.setIfInBounds_toArray, List.set_cons_zero, List.set_cons_succ, i64_w, i32_w]
    rfl
  refine pure_ (i := 11) (N := some 109) (v := ?_) (a' := ?_) #[true, true, true, true, true, true, true, true, true, true, true, true, false, false, false, false, false, false, false, false, false, false, false, false, false, false, false, false, false, false, false, false, false, false, false, false, false, false, false, false, false, false, false, false, false, false, false, false, false] rfl rfl (by kernel_rfl) (fun _ _ _ h => h) (Or.inl ⟨by rfl, ?_⟩) ?_ ?_
  rotate_left
  · intro w'
    go_simp
    with_reducible rfl
  rotate_left
  · simp only [Act.put, List.setIfInBounds_toArray, List.set_cons_zero, List.set_cons_succ, i64_w, i32_w]
    rfl
  refine pure_ (i := 12) (N := some 110) (v := ?_) (a' := ?_) #[true, true, true, true, true, true, true, true, true, true, true, true, true, false, false, false, false, false, false, false, false, false, false, false, false, false, false, false, false, false, false, false, false, false, false, false, false, false, false, false, false, false, false, false, false, false, false, false, false] rfl rfl (by kernel_rfl) (fun _ _ _ h => h) (Or.inl ⟨by rfl, ?_⟩) ?_ ?_
  rotate_left
  · intro w'
    go_simp
    with_reducible rfl
  rotate_left
  · simp only [Act.put, List.setIfInBounds_toArray, List.set_cons_zero, List.set_cons_succ, i64_w, i32_w]
    rfl
  refine pure_ (i := 13) (N := some 111) (v := ?_) (a' := ?_) #[true, true, true, true, true, true, true, true, true, true, true, true, true, true, false, false, false, false, false, false, false, false, false, false, false, false, false, false, false, false, false, false, false, false, false, false, false, false, false, false, false, false, false, false, false, false, false, false, false] rfl rfl (by kernel_rfl) (fun _ _ _ h => h) (Or.inl ⟨by rfl, ?_⟩) ?_ ?_
  rotate_left
  · intro w'
    go_simp
    with_reducible rfl
  rotate_left
  · simp only [Act.put, List.setIfInBounds_toArray, List.set_cons_zero, List.set_cons_succ, i64_w, i32_w]
    rfl
  refine pure_ (i := 14) (N := some 112) (v := ?_) (a' := ?_) #[true, true, true, true, true, true, true, true, true, true, true, true, true, true, true, false, false, false, false, false, false, false, false, false, false, false, false, false, false, false, false, false, false, false, false, false, false, false, false, false, false, false, false, false, false, false, false, false, false] rfl rfl (by kernel_rfl) (fun _ _ _ h => h) (Or.inl ⟨by rfl, ?_⟩) ?_ ?_
  rotate_left
  · intro w'
    go_simp
    with_reducible rfl
  rotate_left
  · simp only [Act.put, List.setIfInBounds_toArray, List.set_cons_zero, List.set_cons_succ, i64_w, i32_w]
    rfl
  refine pure_ (i := 15) (N := some 113) (v := ?_) (a' := ?_) #[true, true, true, true, true, true, true, true, true, true, true, true, true, true, true, true, false, false, false, false, false, false, false, false, false, false, false, false, false, false, false, false, false, false, false, false, false, false, false, false, false, false, false, false, false, false, false, false, false] rfl rfl (by kernel_rfl) (fun _ _ _ h => h) (Or.inl ⟨by rfl, ?_⟩) ?_ ?_
  rotate_left
  · intro w'
    go_simp
    with_reducible rfl
  rotate_left
  · simp only [Act.put, List.setIfInBounds_toArray, List.set_cons_zero, List.set_cons_succ, i64_w, i32_w]
    rfl
  refine take_ (i := 16) (N := some 114) (v := ?_) (a' := ?_) #[true, true, true, true, true, true, true, true, true, true, true, true, true, true, true, true, true, false, false, false, false, false, false, false, false, false, false, false, false, false, false, false, false, false, false, false, false, false, false, false, false, false, false, false, false, false, false, false, false] rfl rfl (by kernel_rfl) (fun _ _ _ h => h) (Or.inl ⟨by rfl, ?_⟩) hHeld ?_ ?_
  rotate_left
  · rintro w' ⟨s0, s1, s2, s3, s4, s5, s6, s7, s8, s9, s10, s11, s12⟩
    go_simp
    with_reducible rfl
  rotate_left
  · simp only [Act.put, List.setIfInBounds_toArray, List.set_cons_zero, List.set_cons_succ, i64_w, i32_w]
    rfl
  refine take_ (i := 18) (N := some 116) (v := ?_) (a' := ?_) #[true, true, true, true, true, true, true, true, true, true, true, true, true, true, true, true, true, false, true, false, false, false, false, false, false, false, false, false, false, false, false, false, false, false, false, false, false, false, false, false, false, false, false, false, false, false, false, false, false] rfl rfl (by kernel_rfl) (fun _ _ _ h => h) (Or.inl ⟨by rfl, ?_⟩) hHeld ?_ ?_
  rotate_left
  · rintro w' ⟨s0, s1, s2, s3, s4, s5, s6, s7, s8, s9, s10, s11, s12⟩
    go_simp
    with_reducible rfl
  rotate_left
  · simp only [Act.put, List.setIfInBounds_toArray, List.set_cons_zero, List.set_cons_succ, i64_w, i32_w]
    rfl
  refine one_ (i := 17) (N := some 115) #[true, true, true, true, true, true, true, true, true, true, true, true, true, true, true, true, true, true, true, false, false, false, false, false, false, false, false, false, false, false, false, false, false, false, false, false, false, false, false, false, false, false, false, false, false, false, false, false, false] rfl rfl (by kernel_rfl) (by decide) (fun K hK => ?_)
  refine goes_ Try.func12 (by kernel_rfl) rfl #[.agg #[.slice A3 n c3, .slice B3 m d3]] (by rfl) rfl rfl (by simp only [List.map_toArray, List.map_cons, List.map_nil]; rfl) ?_
  with_reducible refine (its_is A3 n c3 B3 m d3 _).mono ?_
  rintro e x17 ⟨rfl, hb⟩
  refine ⟨_, rfl, ?_⟩
  have kz := Aside0.mk (hHeld.2.2.2.2.2.2.2.2.2.2.2.2.out.step hb)
  clear hHeld hb
  refine hK.out _ _ ⟨kz.out.here.2.2.2.2.2.2.2.2.2.2.1.k0, kz.out.here.2.2.2.2.2.2.2.2.2.2.1.k1, kz.out.here.2.2.2.2.2.2.2.2.1.k0, kz.out.here.2.2.2.2.2.2.2.2.1.k1, kz.out.here.2.2.2.2.2.2.1.k0, kz.out.here.2.2.2.2.2.2.1.k1, kz.out.here.2.2.2.2.1.k0, kz.out.here.2.2.2.2.1.k1, kz.out.here.2.2.1.k0, kz.out.here.2.2.1.k1, kz.out.here.1.k0, kz.out.here.1.k1, kz⟩ (fun hHeld => ?_)
  clear hK K
  refine norm_ (a' := ?_) ?_ ?_
  rotate_left
  · show Act.put _ (some 115) _ = _
    simp only [Act.put, List.setIfInBounds_toArray, List.set_cons_zero, List.set_cons_succ, i64_w, i32_w]
    rfl
  refine one_ (i := 19) (N := some 117) #[true, true, true, true, true, true, true, true, true, true, true, true, true, true, true, true, true, true, true, true, false, false, false, false, false, false, false, false, false, false, false, false, false, false, false, false, false, false, false, false, false, false, false, false, false, false, false, false, false] rfl rfl (by kernel_rfl) (by decide) (fun K hK => ?_)
  refine goes_ Try.func19 (by kernel_rfl) rfl #[.agg #[.slice A3 n c3, .slice B3 m d3], .agg #[.slice A4 n c4, .slice B4 m d4]] (by rfl) rfl rfl (by simp only [List.map_toArray, List.map_cons, List.map_nil]; rfl) ?_
  with_reducible refine (same_is n m A3 c3 B3 d3 A4 c4 B4 d4 L3 S3 S4 _ (hHeld.2.2.2.2.2.2.2.2.2.2.2.2).out.here.2.2.2.2.2.2.2.1 (hHeld.2.2.2.2.2.2.2.2.2.2.2.2).out.here.2.2.2.2.2.1).mono ?_
  rintro e x19 ⟨rfl, hb⟩
  refine ⟨_, rfl, ?_⟩
  have kz := Aside0.mk (hHeld.2.2.2.2.2.2.2.2.2.2.2.2.out.step hb)
  clear hHeld hb
  refine hK.out _ _ ⟨kz.out.here.2.2.2.2.2.2.2.2.2.2.1.k0, kz.out.here.2.2.2.2.2.2.2.2.2.2.1.k1, kz.out.here.2.2.2.2.2.2.2.2.1.k0, kz.out.here.2.2.2.2.2.2.2.2.1.k1, kz.out.here.2.2.2.2.2.2.1.k0, kz.out.here.2.2.2.2.2.2.1.k1, kz.out.here.2.2.2.2.1.k0, kz.out.here.2.2.2.2.1.k1, kz.out.here.2.2.1.k0, kz.out.here.2.2.1.k1, kz.out.here.1.k0, kz.out.here.1.k1, kz⟩ (fun hHeld => ?_)
  clear hK K
  refine norm_ (a' := ?_) ?_ ?_
  rotate_left
  · show Act.put _ (some 117) _ = _
    simp only [Act.put, List.setIfInBounds_toArray, List.set_cons_zero, List.set_cons_succ, i64_w, i32_w]
    rfl
  refine pure_ (i := 20) (N := some 118) (v := ?_) (a' := ?_) #[true, true, true, true, true, true, true, true, true, true, true, true, true, true, true, true, true, true, true, true, true, false, false, false, false, false, false, false, false, false, false, false, false, false, false, false, false, false, false, false, false, false, false, false, false, false, false, false, false] rfl rfl (by kernel_rfl) (fun _ _ _ h => h) (Or.inl ⟨by rfl, ?_⟩) ?_ ?_
  rotate_left
  · intro w'
    go_simp
    with_reducible rfl
  rotate_left
  · simp only [Act.put, List.setIfInBounds_toArray, List.set_cons_zero, List.set_cons_succ, i64_w, i32_w]
    rfl
  refine pure_ (i := 21) (N := some 119) (v := ?_) (a' := ?_) #[true, true, true, true, true, true, true, true, true, true, true, true, true, true, true, true, true, true, true, true, true, true, false, false, false, false, false, false, false, false, false, false, false, false, false, false, false, false, false, false, false, false, false, false, false, false, false, false, false] rfl rfl (by kernel_rfl) (fun _ _ _ h => h) (Or.inl ⟨by rfl, ?_⟩) ?_ ?_
  rotate_left
  · intro w'
    go_simp
    with_reducible rfl
  rotate_left
  · simp only [Act.put, List.setIfInBounds_toArray, List.set_cons_zero, List.set_cons_succ, i64_w, i32_w]
    rfl
  refine pure_ (i := 22) (N := some 120) (v := ?_) (a' := ?_) #[true, true, true, true, true, true, true, true, true, true, true, true, true, true, true, true, true, true, true, true, true, true, true, false, false, false, false, false, false, false, false, false, false, false, false, false, false, false, false, false, false, false, false, false, false, false, false, false, false] rfl rfl (by kernel_rfl) (fun _ _ _ h => h) (Or.inl ⟨by rfl, ?_⟩) ?_ ?_
  rotate_left
  · intro w'
    go_simp
    with_reducible rfl
  rotate_left
  · simp only [Act.put, List.setIfInBounds_toArray, List.set_cons_zero, List.set_cons_succ, i64_w, i32_w]
    rfl
  refine pure_ (i := 23) (N := some 121) (v := ?_) (a' := ?_) #[true, true, true, true, true, true, true, true, true, true, true, true, true, true, true, true, true, true, true, true, true, true, true, true, false, false, false, false, false, false, false, false, false, false, false, false, false, false, false, false, false, false, false, false, false, false, false, false, false] rfl rfl (by kernel_rfl) (fun _ _ _ h => h) (Or.inl ⟨by rfl, ?_⟩) ?_ ?_
  rotate_left
  · intro w'
    go_simp
    with_reducible rfl
  rotate_left
  · simp only [Act.put, List.setIfInBounds_toArray, List.set_cons_zero, List.set_cons_succ, i64_w, i32_w]
    rfl
  refine pure_ (i := 24) (N := some 122) (v := ?_) (a' := ?_) #[true, true, true, true, true, true, true, true, true, true, true, true, true, true, true, true, true, true, true, true, true, true, true, true, true, false, false, false, false, false, false, false, false, false, false, false, false, false, false, false, false, false, false, false, false, false, false, false, false] rfl rfl (by kernel_rfl) (fun _ _ _ h => h) (Or.inl ⟨by rfl, ?_⟩) ?_ ?_
  rotate_left
  · intro w'
    go_simp
    with_reducible rfl
  rotate_left
  · simp only [Act.put, List.setIfInBounds_toArray, List.set_cons_zero, List.set_cons_succ, i64_w, i32_w]
    rfl
  refine pure_ (i := 25) (N := some 123) (v := ?_) (a' := ?_) #[true, true, true, true, true, true, true, true, true, true, true, true, true, true, true, true, true, true, true, true, true, true, true, true, true, true, false, false, false, false, false, false, false, false, false, false, false, false, false, false, false, false, false, false, false, false, false, false, false] rfl rfl (by kernel_rfl) (fun _ _ _ h => h) (Or.inl ⟨by rfl, ?_⟩) ?_ ?_
  rotate_left
  · intro w'
    go_simp
    with_reducible rfl
  rotate_left
  · simp only [Act.put, List.setIfInBounds_toArray, List.set_cons_zero, List.set_cons_succ, i64_w, i32_w]
    rfl
  refine pure_ (i := 26) (N := some 124) (v := ?_) (a' := ?_) #[true, true, true, true, true, true, true, true, true, true, true, true, true, true, true, true, true, true, true, true, true, true, true, true, true, true, true, false, false, false, false, false, false, false, false, false, false, false, false, false, false, false, false, false, false, false, false, false, false] rfl rfl (by kernel_rfl) (fun _ _ _ h => h) (Or.inl ⟨by rfl, ?_⟩) ?_ ?_
  rotate_left
  · intro w'
    go_simp
    with_reducible rfl
  rotate_left
  · simp only [Act.put, List.setIfInBounds_toArray, List.set_cons_zero, List.set_cons_succ, i64_w, i32_w]
    rfl
  refine pure_ (i := 27) (N := some 125) (v := ?_) (a' := ?_) #[true, true, true, true, true, true, true, true, true, true, true, true, true, true, true, true, true, true, true, true, true, true, true, true, true, true, true, true, false, false, false, false, false, false, false, false, false, false, false, false, false, false, false, false, false, false, false, false, false] rfl rfl (by kernel_rfl) (fun _ _ _ h => h) (Or.inl ⟨by rfl, ?_⟩) ?_ ?_
  rotate_left
  · intro w'
    go_simp
    with_reducible rfl
  rotate_left
  · simp only [Act.put, List.setIfInBounds_toArray, List.set_cons_zero, List.set_cons_succ, i64_w, i32_w]
    rfl
  refine pure_ (i := 28) (N := some 126) (v := ?_) (a' := ?_) #[true, true, true, true, true, true, true, true, true, true, true, true, true, true, true, true, true, true, true, true, true, true, true, true, true, true, true, true, true, false, false, false, false, false, false, false, false, false, false, false, false, false, false, false, false, false, false, false, false] rfl rfl (by kernel_rfl) (fun _ _ _ h => h) (Or.inl ⟨by rfl, ?_⟩) ?_ ?_
  rotate_left
  · intro w'
    go_simp
    with_reducible rfl
  rotate_left
  · simp only [Act.put, List.setIfInBounds_toArray, List.set_cons_zero, List.set_cons_succ, i64_w, i32_w]
    rfl
  refine pure_ (i := 29) (N := some 127) (v := ?_) (a' := ?_) #[true, true, true, true, true, true, true, true, true, true, true, true, true, true, true, true, true, true, true, true, true, true, true, true, true, true, true, true, true, true, false, false, false, false, false, false, false, false, false, false, false, false, false, false, false, false, false, false, false] rfl rfl (by kernel_rfl) (fun _ _ _ h => h) (Or.inl ⟨by rfl, ?_⟩) ?_ ?_
  rotate_left
  · intro w'
    go_simp
    with_reducible rfl
  rotate_left
  · simp only [Act.put, List.setIfInBounds_toArray, List.set_cons_zero, List.set_cons_succ, i64_w, i32_w]
    rfl
  refine pure_ (i := 30) (N := some 128) (v := ?_) (a' := ?_) #[true, true, true, true, true, true, true, true, true, true, true, true, true, true, true, true, true, true, true, true, true, true, true, true, true, true, true, true, true, true, true, false, false, false, false, false, false, false, false, false, false, false, false, false, false, false, false, false, false] rfl rfl (by kernel_rfl) (fun _ _ _ h => h) (Or.inl ⟨by rfl, ?_⟩) ?_ ?_
  rotate_left
  · intro w'
    go_simp
    with_reducible rfl
  rotate_left
  · simp only [Act.put, List.setIfInBounds_toArray, List.set_cons_zero, List.set_cons_succ, i64_w, i32_w]
    rfl
  refine pure_ (i := 31) (N := some 129) (v := ?_) (a' := ?_) #[true, true, true, true, true, true, true, true, true, true, true, true, true, true, true, true, true, true, true, true, true, true, true, true, true, true, true, true, true, true, true, true, false, false, false, false, false, false, false, false, false, false, false, false, false, false, false, false, false] rfl rfl (by kernel_rfl) (fun _ _ _ h => h) (Or.inl ⟨by rfl, ?_⟩) ?_ ?_
  rotate_left
  · intro w'
    go_simp
    with_reducible rfl
  rotate_left
  · simp only [Act.put, List.setIfInBounds_toArray, List.set_cons_zero, List.set_cons_succ, i64_w, i32_w]
    rfl
  refine pure_ (i := 32) (N := some 130) (v := ?_) (a' := ?_) #[true, true, true, true, true, true, true, true, true, true, true, true, true, true, true, true, true, true, true, true, true, true, true, true, true, true, true, true, true, true, true, true, true, false, false, false, false, false, false, false, false, false, false, false, false, false, false, false, false] rfl rfl (by kernel_rfl) (fun _ _ _ h => h) (Or.inl ⟨by rfl, ?_⟩) ?_ ?_
  rotate_left
  · intro w'
    go_simp
    with_reducible rfl
  rotate_left
  · simp only [Act.put, List.setIfInBounds_toArray, List.set_cons_zero, List.set_cons_succ, i64_w, i32_w]
    rfl
  refine take_ (i := 33) (N := some 131) (v := ?_) (a' := ?_) #[true, true, true, true, true, true, true, true, true, true, true, true, true, true, true, true, true, true, true, true, true, true, true, true, true, true, true, true, true, true, true, true, true, true, false, false, false, false, false, false, false, false, false, false, false, false, false, false, false] rfl rfl (by kernel_rfl) (fun _ _ _ h => h) (Or.inl ⟨by rfl, ?_⟩) hHeld ?_ ?_
  rotate_left
  · rintro w' ⟨s0, s1, s2, s3, s4, s5, s6, s7, s8, s9, s10, s11, s12⟩
    go_simp
    with_reducible rfl
  rotate_left
  · simp only [Act.put, List.setIfInBounds_toArray, List.set_cons_zero, List.set_cons_succ, i64_w, i32_w]
    rfl
  refine take_ (i := 35) (N := some 133) (v := ?_) (a' := ?_) #[true, true, true, true, true, true, true, true, true, true, true, true, true, true, true, true, true, true, true, true, true, true, true, true, true, true, true, true, true, true, true, true, true, true, false, true, false, false, false, false, false, false, false, false, false, false, false, false, false] rfl rfl (by kernel_rfl) (fun _ _ _ h => h) (Or.inl ⟨by rfl, ?_⟩) hHeld ?_ ?_
  rotate_left
  · rintro w' ⟨s0, s1, s2, s3, s4, s5, s6, s7, s8, s9, s10, s11, s12⟩
    go_simp
    with_reducible rfl
  rotate_left
  · simp only [Act.put, List.setIfInBounds_toArray, List.set_cons_zero, List.set_cons_succ, i64_w, i32_w]
    rfl
  refine one_ (i := 34) (N := some 132) #[true, true, true, true, true, true, true, true, true, true, true, true, true, true, true, true, true, true, true, true, true, true, true, true, true, true, true, true, true, true, true, true, true, true, true, true, false, false, false, false, false, false, false, false, false, false, false, false, false] rfl rfl (by kernel_rfl) (by decide) (fun K hK => ?_)
  refine goes_ Try.func12 (by kernel_rfl) rfl #[.agg #[.slice A5 n c5, .slice B5 m d5]] (by rfl) rfl rfl (by simp only [List.map_toArray, List.map_cons, List.map_nil]; rfl) ?_
  with_reducible refine (its_is A5 n c5 B5 m d5 _).mono ?_
  rintro e x34 ⟨rfl, hb⟩
  refine ⟨_, rfl, ?_⟩
  have kz := Aside0.mk (hHeld.2.2.2.2.2.2.2.2.2.2.2.2.out.step hb)
  clear hHeld hb
  refine hK.out _ _ ⟨kz.out.here.2.2.2.2.2.2.2.2.2.2.1.k0, kz.out.here.2.2.2.2.2.2.2.2.2.2.1.k1, kz.out.here.2.2.2.2.2.2.2.2.1.k0, kz.out.here.2.2.2.2.2.2.2.2.1.k1, kz.out.here.2.2.2.2.2.2.1.k0, kz.out.here.2.2.2.2.2.2.1.k1, kz.out.here.2.2.2.2.1.k0, kz.out.here.2.2.2.2.1.k1, kz.out.here.2.2.1.k0, kz.out.here.2.2.1.k1, kz.out.here.1.k0, kz.out.here.1.k1, kz⟩ (fun hHeld => ?_)
  clear hK K
  refine norm_ (a' := ?_) ?_ ?_
  rotate_left
  · show Act.put _ (some 132) _ = _
    simp only [Act.put, List.setIfInBounds_toArray, List.set_cons_zero, List.set_cons_succ, i64_w, i32_w]
    rfl
  refine one_ (i := 36) (N := some 134) #[true, true, true, true, true, true, true, true, true, true, true, true, true, true, true, true, true, true, true, true, true, true, true, true, true, true, true, true, true, true, true, true, true, true, true, true, true, false, false, false, false, false, false, false, false, false, false, false, false] rfl rfl (by kernel_rfl) (by decide) (fun K hK => ?_)
  refine goes_ Try.func19 (by kernel_rfl) rfl #[.agg #[.slice A5 n c5, .slice B5 m d5], .agg #[.slice A6 n c6, .slice B6 m d6]] (by rfl) rfl rfl (by simp only [List.map_toArray, List.map_cons, List.map_nil]; rfl) ?_
  with_reducible refine (same_is n m A5 c5 B5 d5 A6 c6 B6 d6 L5 S5 S6 _ (hHeld.2.2.2.2.2.2.2.2.2.2.2.2).out.here.2.2.2.1 (hHeld.2.2.2.2.2.2.2.2.2.2.2.2).out.here.2.1).mono ?_
  rintro e x36 ⟨rfl, hb⟩
  refine ⟨_, rfl, ?_⟩
  have kz := Aside0.mk (hHeld.2.2.2.2.2.2.2.2.2.2.2.2.out.step hb)
  clear hHeld hb
  refine hK.out _ _ ⟨kz.out.here.2.2.2.2.2.2.2.2.2.2.1.k0, kz.out.here.2.2.2.2.2.2.2.2.2.2.1.k1, kz.out.here.2.2.2.2.2.2.2.2.1.k0, kz.out.here.2.2.2.2.2.2.2.2.1.k1, kz.out.here.2.2.2.2.2.2.1.k0, kz.out.here.2.2.2.2.2.2.1.k1, kz.out.here.2.2.2.2.1.k0, kz.out.here.2.2.2.2.1.k1, kz.out.here.2.2.1.k0, kz.out.here.2.2.1.k1, kz.out.here.1.k0, kz.out.here.1.k1, kz⟩ (fun hHeld => ?_)
  clear hK K
  refine norm_ (a' := ?_) ?_ ?_
  rotate_left
  · show Act.put _ (some 134) _ = _
    simp only [Act.put, List.setIfInBounds_toArray, List.set_cons_zero, List.set_cons_succ, i64_w, i32_w]
    rfl
  refine pure_ (i := 37) (N := some 135) (v := ?_) (a' := ?_) #[true, true, true, true, true, true, true, true, true, true, true, true, true, true, true, true, true, true, true, true, true, true, true, true, true, true, true, true, true, true, true, true, true, true, true, true, true, true, false, false, false, false, false, false, false, false, false, false, false] rfl rfl (by kernel_rfl) (fun _ _ _ h => h) (Or.inl ⟨by rfl, ?_⟩) ?_ ?_
  rotate_left
  · intro w'
    go_simp
    with_reducible rfl
  rotate_left
  · simp only [Act.put, List.setIfInBounds_toArray, List.set_cons_zero, List.set_cons_succ, i64_w, i32_w]
    rfl
  refine pure_ (i := 38) (N := some 136) (v := ?_) (a' := ?_) #[true, true, true, true, true, true, true, true, true, true, true, true, true, true, true, true, true, true, true, true, true, true, true, true, true, true, true, true, true, true, true, true, true, true, true, true, true, true, true, false, false, false, false, false, false, false, false, false, false] rfl rfl (by kernel_rfl) (fun _ _ _ h => h) (Or.inl ⟨by rfl, ?_⟩) ?_ ?_
  rotate_left
  · intro w'
    go_simp
    with_reducible rfl
  rotate_left
  · simp only [Act.put, List.setIfInBounds_toArray, List.set_cons_zero, List.set_cons_succ, i64_w, i32_w]
    rfl
  refine pure_ (i := 39) (N := some 137) (v := ?_) (a' := ?_) #[true, true, true, true, true, true, true, true, true, true, true, true, true, true, true, true, true, true, true, true, true, true, true, true, true, true, true, true, true, true, true, true, true, true, true, true, true, true, true, true, false, false, false, false, false, false, false, false, false] rfl rfl (by kernel_rfl) (fun _ _ _ h => h) (Or.inl ⟨by rfl, ?_⟩) ?_ ?_
  rotate_left
  · intro w'
    go_simp
    with_reducible rfl
  rotate_left
  · simp only [Act.put, List.setIfInBounds_toArray, List.set_cons_zero, List.set_cons_succ, i64_w, i32_w]
    rfl
  refine pure_ (i := 40) (N := some 138) (v := ?_) (a' := ?_) #[true, true, true, true, true, true, true, true, true, true, true, true, true, true, true, true, true, true, true, true, true, true, true, true, true, true, true, true, true, true, true, true, true, true, true, true, true, true, true, true, true, false, false, false, false, false, false, false, false] rfl rfl (by kernel_rfl) (fun _ _ _ h => h) (Or.inl ⟨by rfl, ?_⟩) ?_ ?_
  rotate_left
  · intro w'
    go_simp
    with_reducible rfl
  rotate_left
  · simp only [Act.put, List.setIfInBounds_toArray, List.set_cons_zero, List.set_cons_succ, i64_w, i32_w]
    rfl
  refine pure_ (i := 41) (N := some 139) (v := ?_) (a' := ?_) #[true, true, true, true, true, true, true, true, true, true, true, true, true, true, true, true, true, true, true, true, true, true, true, true, true, true, true, true, true, true, true, true, true, true, true, true, true, true, true, true, true, true, false, false, false, false, false, false, false] rfl rfl (by kernel_rfl) (fun _ _ _ h => h) (Or.inl ⟨by rfl, ?_⟩) ?_ ?_
  rotate_left
  · intro w'
    go_simp
    with_reducible rfl
  rotate_left
  · simp only [Act.put, List.setIfInBounds_toArray, List.set_cons_zero, List.set_cons_succ, i64_w, i32_w]
    rfl
  refine pure_ (i := 42) (N := some 140) (v := ?_) (a' := ?_) #[true, true, true, true, true, true, true, true, true, true, true, true, true, true, true, true, true, true, true, true, true, true, true, true, true, true, true, true, true, true, true, true, true, true, true, true, true, true, true, true, true, true, true, false, false, false, false, false, false] rfl rfl (by kernel_rfl) (fun _ _ _ h => h) (Or.inl ⟨by rfl, ?_⟩) ?_ ?_
  rotate_left
  · intro w'
    go_simp
    with_reducible rfl
  rotate_left
  · simp only [Act.put, List.setIfInBounds_toArray, List.set_cons_zero, List.set_cons_succ, i64_w, i32_w]
    rfl
  refine pure_ (i := 43) (N := some 141) (v := ?_) (a' := ?_) #[true, true, true, true, true, true, true, true, true, true, true, true, true, true, true, true, true, true, true, true, true, true, true, true, true, true, true, true, true, true, true, true, true, true, true, true, true, true, true, true, true, true, true, true, false, false, false, false, false] rfl rfl (by kernel_rfl) (fun _ _ _ h => h) (Or.inl ⟨by rfl, ?_⟩) ?_ ?_
  rotate_left
  · intro w'
    go_simp
    with_reducible rfl
  rotate_left
  · simp only [Act.put, List.setIfInBounds_toArray, List.set_cons_zero, List.set_cons_succ, i64_w, i32_w]
    rfl
  refine pure_ (i := 44) (N := some 142) (v := ?_) (a' := ?_) #[true, true, true, true, true, true, true, true, true, true, true, true, true, true, true, true, true, true, true, true, true, true, true, true, true, true, true, true, true, true, true, true, true, true, true, true, true, true, true, true, true, true, true, true, true, false, false, false, false] rfl rfl (by kernel_rfl) (fun _ _ _ h => h) (Or.inl ⟨by rfl, ?_⟩) ?_ ?_
  rotate_left
  · intro w'
    go_simp
    with_reducible rfl
  rotate_left
  · simp only [Act.put, List.setIfInBounds_toArray, List.set_cons_zero, List.set_cons_succ, i64_w, i32_w]
    rfl
  refine pure_ (i := 45) (N := some 143) (v := ?_) (a' := ?_) #[true, true, true, true, true, true, true, true, true, true, true, true, true, true, true, true, true, true, true, true, true, true, true, true, true, true, true, true, true, true, true, true, true, true, true, true, true, true, true, true, true, true, true, true, true, true, false, false, false] rfl rfl (by kernel_rfl) (fun _ _ _ h => h) (Or.inl ⟨by rfl, ?_⟩) ?_ ?_
  rotate_left
  · intro w'
    go_simp
    with_reducible rfl
  rotate_left
  · simp only [Act.put, List.setIfInBounds_toArray, List.set_cons_zero, List.set_cons_succ, i64_w, i32_w]
    rfl
  refine pure_ (i := 46) (N := some 144) (v := ?_) (a' := ?_) #[true, true, true, true, true, true, true, true, true, true, true, true, true, true, true, true, true, true, true, true, true, true, true, true, true, true, true, true, true, true, true, true, true, true, true, true, true, true, true, true, true, true, true, true, true, true, true, false, false] rfl rfl (by kernel_rfl) (fun _ _ _ h => h) (Or.inl ⟨by rfl, ?_⟩) ?_ ?_
  rotate_left
  · intro w'
    go_simp
    with_reducible rfl
  rotate_left
  · simp only [Act.put, List.setIfInBounds_toArray, List.set_cons_zero, List.set_cons_succ, i64_w, i32_w]
    rfl
  refine pure_ (i := 47) (N := some 145) (v := ?_) (a' := ?_) #[true, true, true, true, true, true, true, true, true, true, true, true, true, true, true, true, true, true, true, true, true, true, true, true, true, true, true, true, true, true, true, true, true, true, true, true, true, true, true, true, true, true, true, true, true, true, true, true, false] rfl rfl (by kernel_rfl) (fun _ _ _ h => h) (Or.inl ⟨by rfl, ?_⟩) ?_ ?_
  rotate_left
  · intro w'
    go_simp
    with_reducible rfl
  rotate_left
  · simp only [Act.put, List.setIfInBounds_toArray, List.set_cons_zero, List.set_cons_succ, i64_w, i32_w]
    rfl
  refine pure_ (i := 48) (N := some 146) (v := ?_) (a' := ?_) #[true, true, true, true, true, true, true, true, true, true, true, true, true, true, true, true, true, true, true, true, true, true, true, true, true, true, true, true, true, true, true, true, true, true, true, true, true, true, true, true, true, true, true, true, true, true, true, true, true] rfl rfl (by kernel_rfl) (fun _ _ _ h => h) (Or.inl ⟨by rfl, ?_⟩) ?_ ?_
  rotate_left
  · intro w'
    go_simp
    with_reducible rfl
  rotate_left
  · simp only [Act.put, List.setIfInBounds_toArray, List.set_cons_zero, List.set_cons_succ, i64_w, i32_w]
    rfl
  refine done_ (by kernel_rfl) ?_
  have kn := hHeld.2.2.2.2.2.2.2.2.2.2.2.2
  clear hHeld kd kz
  have yl0 := kn.out.here.2.2.2.2.2.2.2.2.2.2.2.2.2.2.2.2.1.k0
  have yl1 := kn.out.here.2.2.2.2.2.2.2.2.2.2.2.2.2.2.2.2.1.k1
  have yp0 := kn.out.here.2.2.2.2.2.2.2.2.2.2.2.2.2.2.2.1.k0
  have yp1 := kn.out.here.2.2.2.2.2.2.2.2.2.2.2.2.2.2.2.1.k1
  go_upto_region 14 with (first | (go_at_call 20; (with_reducible refine (restock_is n m A c B d L ai aK S _ ⟨kn.out.here.2.2.2.2.2.2.2.2.2.2.2.2.2.2.2.2.2.1⟩ ha0 L7 e7 h4.out).mono ?_); rintro e w9 ⟨S7, A7, c7, B7, d7, rfl, hl, hS, hb⟩; replace hb := Aside0.mk hb; replace hl := Aside0.mk hl))
  clear yl0 yl1 yp0 yp1
  replace kn := Aside0.mk (Kn.cons (Bx.new w9 (.slice A7 n c7) (.slice B7 m d7) 25).kn (Kn.cons (hl.out.below (bal w9 (.cells #[.slice A7 n c7, .slice B7 m d7] 25))).kn (kn.out.step (hb.out.alloc hb.out.size (.cells #[.slice A7 n c7, .slice B7 m d7] 25)))))
  clear hb hl
  generalize w9.alloc (.cells #[.slice A7 n c7, .slice B7 m d7] 25) = W9 at kn ⊢
  generalize w9.heap.size = b7 at kn ⊢
  have yg0 := kn.out.here.2.2.2.2.2.2.2.2.2.2.2.2.2.2.2.1.k0
  have yg1 := kn.out.here.2.2.2.2.2.2.2.2.2.2.2.2.2.2.2.1.k1
  have yx0 := kn.out.here.2.2.2.2.2.2.2.2.2.2.2.2.2.2.1.k0
  have yx1 := kn.out.here.2.2.2.2.2.2.2.2.2.2.2.2.2.2.1.k1
  go_upto_region 15 with (first | (go_at_call 21; (with_reducible refine (rrestock_is n m A c B d L ai aK S _ ⟨kn.out.here.2.2.2.2.2.2.2.2.2.2.2.2.2.2.2.2.2.2.2.1⟩ ha0 L7 e7 h4.out).mono ?_); rintro e w10 ⟨S8, A8, c8, B8, d8, rfl, hl, hS, hb⟩; replace hb := Aside0.mk hb; replace hl := Aside0.mk hl))
  clear yg0 yg1 yx0 yx1
  replace kn := Aside0.mk (Kn.cons (Bx.new w10 (.slice A8 n c8) (.slice B8 m d8) 30).kn (Kn.cons (hl.out.below (bal w10 (.cells #[.slice A8 n c8, .slice B8 m d8] 30))).kn (kn.out.step (hb.out.alloc hb.out.size (.cells #[.slice A8 n c8, .slice B8 m d8] 30)))))
  clear hb hl
  generalize w10.alloc (.cells #[.slice A8 n c8, .slice B8 m d8] 30) = W10 at kn ⊢
  generalize w10.heap.size = b8 at kn ⊢
  have yl0 := kn.out.here.2.2.2.2.2.2.2.2.2.2.2.2.2.2.2.2.2.2.2.2.1.k0
  have yl1 := kn.out.here.2.2.2.2.2.2.2.2.2.2.2.2.2.2.2.2.2.2.2.2.1.k1
  have yp0 := kn.out.here.2.2.2.2.2.2.2.2.2.2.2.2.2.2.2.2.2.2.2.1.k0
  have yp1 := kn.out.here.2.2.2.2.2.2.2.2.2.2.2.2.2.2.2.2.2.2.2.1.k1
  have yq0 := kn.out.here.2.2.2.2.2.2.2.2.2.2.2.2.2.2.2.2.2.2.1.k0
  have yq1 := kn.out.here.2.2.2.2.2.2.2.2.2.2.2.2.2.2.2.2.2.2.1.k1
  go_upto_region 16 with (first | (go_at_call 22; (with_reducible refine (both_is n m A c B d L t ai aK bi bK S _ ⟨kn.out.here.2.2.2.2.2.2.2.2.2.2.2.2.2.2.2.2.2.2.2.2.2.1⟩ ha0 hb0 L9 k9 e9 h5.out).mono ?_); rintro e w11 ⟨S9, A9, c9, B9, d9, rfl, hl, hS, hb⟩; replace hb := Aside0.mk hb; replace hl := Aside0.mk hl))
  clear yl0 yl1 yp0 yp1 yq0 yq1
  replace kn := Aside0.mk (Kn.cons (Bx.new w11 (.slice A9 n c9) (.slice B9 m d9) 25).kn (Kn.cons (hl.out.below (bal w11 (.cells #[.slice A9 n c9, .slice B9 m d9] 25))).kn (kn.out.step (hb.out.alloc hb.out.size (.cells #[.slice A9 n c9, .slice B9 m d9] 25)))))
  clear hb hl
  generalize w11.alloc (.cells #[.slice A9 n c9, .slice B9 m d9] 25) = W11 at kn ⊢
  generalize w11.heap.size = b9 at kn ⊢
  have yg0 := kn.out.here.2.2.2.2.2.2.2.2.2.2.2.2.2.2.2.2.2.2.2.1.k0
  have yg1 := kn.out.here.2.2.2.2.2.2.2.2.2.2.2.2.2.2.2.2.2.2.2.1.k1
  have yx0 := kn.out.here.2.2.2.2.2.2.2.2.2.2.2.2.2.2.2.2.2.2.1.k0
  have yx1 := kn.out.here.2.2.2.2.2.2.2.2.2.2.2.2.2.2.2.2.2.2.1.k1
  have yq0 := kn.out.here.2.2.2.2.2.2.2.2.2.2.2.2.2.2.2.2.2.2.2.2.1.k0
  have yq1 := kn.out.here.2.2.2.2.2.2.2.2.2.2.2.2.2.2.2.2.2.2.2.2.1.k1
  go_upto_region 17 with (first | (go_at_call 23; (with_reducible refine (rboth_is n m A c B d L t ai aK bi bK S _ ⟨kn.out.here.2.2.2.2.2.2.2.2.2.2.2.2.2.2.2.2.2.2.2.2.2.2.2.1⟩ ha0 hb0 L9 k9 e9 h5.out).mono ?_); rintro e w12 ⟨Sz, Az, cz, Bz, dz, rfl, hl, hS, hb⟩; replace hb := Aside0.mk hb; replace hl := Aside0.mk hl))
  clear yg0 yg1 yx0 yx1 yq0 yq1
  replace kn := Aside0.mk (Kn.cons (Bx.new w12 (.slice Az n cz) (.slice Bz m dz) 30).kn (Kn.cons (hl.out.below (bal w12 (.cells #[.slice Az n cz, .slice Bz m dz] 30))).kn (kn.out.step (hb.out.alloc hb.out.size (.cells #[.slice Az n cz, .slice Bz m dz] 30)))))
  clear hb hl
  generalize w12.alloc (.cells #[.slice Az n cz, .slice Bz m dz] 30) = W12 at kn ⊢
  generalize w12.heap.size = bz at kn ⊢
  have kd := Aside0.mk (kn.out.step (below_drew1 (Below.refl W12.heap.size W12)))
  clear kn
  refine start_ (n := 32) (S := fun w' => w'.cell? ⟨b7, 0, none⟩ = some (.slice A7 n c7) ∧ w'.cell? ⟨b7, 1, none⟩ = some (.slice B7 m d7) ∧ w'.cell? ⟨b8, 0, none⟩ = some (.slice A8 n c8) ∧ w'.cell? ⟨b8, 1, none⟩ = some (.slice B8 m d8) ∧ w'.cell? ⟨b9, 0, none⟩ = some (.slice A9 n c9) ∧ w'.cell? ⟨b9, 1, none⟩ = some (.slice B9 m d9) ∧ w'.cell? ⟨bz, 0, none⟩ = some (.slice Az n cz) ∧ w'.cell? ⟨bz, 1, none⟩ = some (.slice Bz m dz) ∧ w'.cell? ⟨bl, 0, none⟩ = some (.slice A n c) ∧ w'.cell? ⟨bl, 1, none⟩ = some (.slice B m d) ∧ w'.cell? ⟨bg, 0, none⟩ = some (.slice A n c) ∧ w'.cell? ⟨bg, 1, none⟩ = some (.slice B m d) ∧ Aside0 (Kn (fun W => Bx bz (.slice Az n cz) (.slice Bz m dz) W ∧ LV Sz n m Az cz Bz dz L9 W ∧ Bx b9 (.slice A9 n c9) (.slice B9 m d9) W ∧ LV S9 n m A9 c9 B9 d9 L9 W ∧ Bx b8 (.slice A8 n c8) (.slice B8 m d8) W ∧ LV S8 n m A8 c8 B8 d8 L7 W ∧ Bx b7 (.slice A7 n c7) (.slice B7 m d7) W ∧ LV S7 n m A7 c7 B7 d7 L7 W ∧ Bx b6 (.slice A6 n c6) (.slice B6 m d6) W ∧ LV S6 n m A6 c6 B6 d6 L5 W ∧ Bx b5 (.slice A5 n c5) (.slice B5 m d5) W ∧ LV S5 n m A5 c5 B5 d5 L5 W ∧ Bx b4 (.slice A4 n c4) (.slice B4 m d4) W ∧ LV S4 n m A4 c4 B4 d4 L3 W ∧ Bx b3 (.slice A3 n c3) (.slice B3 m d3) W ∧ LV S3 n m A3 c3 B3 d3 L3 W ∧ Bx b2 (.slice A2 n c2) (.slice B2 m d2) W ∧ LV S2 n m A2 c2 B2 d2 L1 W ∧ Bx b1 (.slice A1 n c1) (.slice B1 m d1) W ∧ LV S1 n m A1 c1 B1 d1 L1 W ∧ Bx bx (.int .i64 ai) (.int .i64 aK) W ∧ Bx bg (.slice A n c) (.slice B m d) W ∧ Bx bq (.int .i64 bi) (.int .i64 bK) W ∧ Bx bp (.int .i64 ai) (.int .i64 aK) W ∧ Bx bl (.slice A n c) (.slice B m d) W ∧ LV S n m A c B d L W ∧ Tb w W) w')) (ds := []) #[false, false, false, false, false, false, false, false, false, false, false, false, false, false, false, false, false, false, false, false, false, false, false, false, false, false, false, false, false, false, false, false] (by kernel_rfl) rfl rfl ⟨kd.out.here.2.2.2.2.2.2.1.k0, kd.out.here.2.2.2.2.2.2.1.k1, kd.out.here.2.2.2.2.1.k0, kd.out.here.2.2.2.2.1.k1, kd.out.here.2.2.1.k0, kd.out.here.2.2.1.k1, kd.out.here.1.k0, kd.out.here.1.k1, kd.out.here.2.2.2.2.2.2.2.2.2.2.2.2.2.2.2.2.2.2.2.2.2.2.2.2.1.k0, kd.out.here.2.2.2.2.2.2.2.2.2.2.2.2.2.2.2.2.2.2.2.2.2.2.2.2.1.k1, kd.out.here.2.2.2.2.2.2.2.2.2.2.2.2.2.2.2.2.2.2.2.2.2.1.k0, kd.out.here.2.2.2.2.2.2.2.2.2.2.2.2.2.2.2.2.2.2.2.2.2.1.k1, kd⟩ (fun hHeld => ?_)
  generalize W12.drew = V12 at kd hHeld ⊢
  refine take_ (i := 0) (N := some 177) (v := ?_) (a' := ?_) #[true, false, false, false, false, false, false, false, false, false, false, false, false, false, false, false, false, false, false, false, false, false, false, false, false, false, false, false, false, false, false, false] rfl rfl (by kernel_rfl) (fun _ _ _ h => h) (Or.inl ⟨by rfl, ?_⟩) hHeld ?_ ?_
  rotate_left
  · rintro w' ⟨s0, s1, s2, s3, s4, s5, s6, s7, s8, s9, s10, s11, s12⟩
    go_simp
    with_reducible rfl
  rotate_left
  · simp only [Act.put, List.setIfInBounds_toArray, List.set_cons_zero, List.set_cons_succ, i64_w, i32_w]
    rfl
  refine take_ (i := 2) (N := some 179) (v := ?_) (a' := ?_) #[true, false, true, false, false, false, false, false, false, false, false, false, false, false, false, false, false, false, false, false, false, false, false, false, false, false, false, false, false, false, false, false] rfl rfl (by kernel_rfl) (fun _ _ _ h => h) (Or.inl ⟨by rfl, ?_⟩) hHeld ?_ ?_
  rotate_left
  · rintro w' ⟨s0, s1, s2, s3, s4, s5, s6, s7, s8, s9, s10, s11, s12⟩
    go_simp
    with_reducible rfl
  rotate_left
  · simp only [Act.put, List.setIfInBounds_toArray, List.set_cons_zero, List.set_cons_succ, i64_w, i32_w]
    rfl
  refine one_ (i := 1) (N := some 178) #[true, true, true, false, false, false, false, false, false, false, false, false, false, false, false, false, false, false, false, false, false, false, false, false, false, false, false, false, false, false, false, false] rfl rfl (by kernel_rfl) (by decide) (fun K hK => ?_)
  refine goes_ Try.func12 (by kernel_rfl) rfl #[.agg #[.slice A7 n c7, .slice B7 m d7]] (by rfl) rfl rfl (by simp only [List.map_toArray, List.map_cons, List.map_nil]; rfl) ?_
  with_reducible refine (its_is A7 n c7 B7 m d7 _).mono ?_
  rintro e x1 ⟨rfl, hb⟩
  refine ⟨_, rfl, ?_⟩
  have kz := Aside0.mk (hHeld.2.2.2.2.2.2.2.2.2.2.2.2.out.step hb)
  clear hHeld hb
  refine hK.out _ _ ⟨kz.out.here.2.2.2.2.2.2.1.k0, kz.out.here.2.2.2.2.2.2.1.k1, kz.out.here.2.2.2.2.1.k0, kz.out.here.2.2.2.2.1.k1, kz.out.here.2.2.1.k0, kz.out.here.2.2.1.k1, kz.out.here.1.k0, kz.out.here.1.k1, kz.out.here.2.2.2.2.2.2.2.2.2.2.2.2.2.2.2.2.2.2.2.2.2.2.2.2.1.k0, kz.out.here.2.2.2.2.2.2.2.2.2.2.2.2.2.2.2.2.2.2.2.2.2.2.2.2.1.k1, kz.out.here.2.2.2.2.2.2.2.2.2.2.2.2.2.2.2.2.2.2.2.2.2.1.k0, kz.out.here.2.2.2.2.2.2.2.2.2.2.2.2.2.2.2.2.2.2.2.2.2.1.k1, kz⟩ (fun hHeld => ?_)
  clear hK K
  refine norm_ (a' := ?_) ?_ ?_
  rotate_left
  · show Act.put _ (some 178) _ = _
    simp only [Act.put, List.setIfInBounds_toArray, List.set_cons_zero, List.set_cons_succ, i64_w, i32_w]
    rfl
  refine one_ (i := 3) (N := some 180) #[true, true, true, true, false, false, false, false, false, false, false, false, false, false, false, false, false, false, false, false, false, false, false, false, false, false, false, false, false, false, false, false] rfl rfl (by kernel_rfl) (by decide) (fun K hK => ?_)
  refine goes_ Try.func19 (by kernel_rfl) rfl #[.agg #[.slice A7 n c7, .slice B7 m d7], .agg #[.slice A8 n c8, .slice B8 m d8]] (by rfl) rfl rfl (by simp only [List.map_toArray, List.map_cons, List.map_nil]; rfl) ?_
  with_reducible refine (same_is n m A7 c7 B7 d7 A8 c8 B8 d8 L7 S7 S8 _ (hHeld.2.2.2.2.2.2.2.2.2.2.2.2).out.here.2.2.2.2.2.2.2.1 (hHeld.2.2.2.2.2.2.2.2.2.2.2.2).out.here.2.2.2.2.2.1).mono ?_
  rintro e x3 ⟨rfl, hb⟩
  refine ⟨_, rfl, ?_⟩
  have kz := Aside0.mk (hHeld.2.2.2.2.2.2.2.2.2.2.2.2.out.step hb)
  clear hHeld hb
  refine hK.out _ _ ⟨kz.out.here.2.2.2.2.2.2.1.k0, kz.out.here.2.2.2.2.2.2.1.k1, kz.out.here.2.2.2.2.1.k0, kz.out.here.2.2.2.2.1.k1, kz.out.here.2.2.1.k0, kz.out.here.2.2.1.k1, kz.out.here.1.k0, kz.out.here.1.k1, kz.out.here.2.2.2.2.2.2.2.2.2.2.2.2.2.2.2.2.2.2.2.2.2.2.2.2.1.k0, kz.out.here.2.2.2.2.2.2.2.2.2.2.2.2.2.2.2.2.2.2.2.2.2.2.2.2.1.k1, kz.out.here.2.2.2.2.2.2.2.2.2.2.2.2.2.2.2.2.2.2.2.2.2.1.k0, kz.out.here.2.2.2.2.2.2.2.2.2.2.2.2.2.2.2.2.2.2.2.2.2.1.k1, kz⟩ (fun hHeld => ?_)
  clear hK K
  refine norm_ (a' := ?_) ?_ ?_
  rotate_left
  · show Act.put _ (some 180) _ = _
    simp only [Act.put, List.setIfInBounds_toArray, List.set_cons_zero, List.set_cons_succ, i64_w, i32_w]
    rfl
  refine pure_ (i := 4) (N := some 181) (v := ?_) (a' := ?_) #[true, true, true, true, true, false, false, false, false, false, false, false, false, false, false, false, false, false, false, false, false, false, false, false, false, false, false, false, false, false, false, false] rfl rfl (by kernel_rfl) (fun _ _ _ h => h) (Or.inl ⟨by rfl, ?_⟩) ?_ ?_
  rotate_left
  · intro w'
    go_simp
    with_reducible rfl
  rotate_left
  · simp only [Act.put, List.setIfInBounds_toArray, List.set_cons_zero, List.set_cons_succ, i64_w, i32_w]
    rfl
  refine pure_ (i := 5) (N := some 182) (v := ?_) (a' := ?_) #[true, true, true, true, true, true, false, false, false, false, false, false, false, false, false, false, false, false, false, false, false, false, false, false, false, false, false, false, false, false, false, false] rfl rfl (by kernel_rfl) (fun _ _ _ h => h) (Or.inl ⟨by rfl, ?_⟩) ?_ ?_
  rotate_left
  · intro w'
    go_simp
    with_reducible rfl
  rotate_left
  · simp only [Act.put, List.setIfInBounds_toArray, List.set_cons_zero, List.set_cons_succ, i64_w, i32_w]
    rfl
  refine pure_ (i := 6) (N := some 183) (v := ?_) (a' := ?_) #[true, true, true, true, true, true, true, false, false, false, false, false, false, false, false, false, false, false, false, false, false, false, false, false, false, false, false, false, false, false, false, false] rfl rfl (by kernel_rfl) (fun _ _ _ h => h) (Or.inl ⟨by rfl, ?_⟩) ?_ ?_
  rotate_left
  · intro w'
    go_simp
    with_reducible rfl
  rotate_left
  · simp only [Act.put, List.setIfInBounds_toArray, List.set_cons_zero, List.set_cons_succ, i64_w, i32_w]
    rfl
  refine pure_ (i := 7) (N := some 184) (v := ?_) (a' := ?_) #[true, true, true, true, true, true, true, true, false, false, false, false, false, false, false, false, false, false, false, false, false, false, false, false, false, false, false, false, false, false, false, false] rfl rfl (by kernel_rfl) (fun _ _ _ h => h) (Or.inl ⟨by rfl, ?_⟩) ?_ ?_
  rotate_left
  · intro w'
    go_simp
    with_reducible rfl
  rotate_left
  · simp only [Act.put, List.setIfInBounds_toArray, List.set_cons_zero, List.set_cons_succ, i64_w, i32_w]
    rfl
  refine pure_ (i := 8) (N := some 185) (v := ?_) (a' := ?_) #[true, true, true, true, true, true, true, true, true, false, false, false, false, false, false, false, false, false, false, false, false, false, false, false, false, false, false, false, false, false, false, false] rfl rfl (by kernel_rfl) (fun _ _ _ h => h) (Or.inl ⟨by rfl, ?_⟩) ?_ ?_
  rotate_left
  · intro w'
    go_simp
    with_reducible rfl
  rotate_left
  · simp only [Act.put, List.setIfInBounds_toArray, List.set_cons_zero, List.set_cons_succ, i64_w, i32_w]
    rfl
  refine pure_ (i := 9) (N := some 186) (v := ?_) (a' := ?_) #[true, true, true, true, true, true, true, true, true, true, false, false, false, false, false, false, false, false, false, false, false, false, false, false, false, false, false, false, false, false, false, false] rfl rfl (by kernel_rfl) (fun _ _ _ h => h) (Or.inl ⟨by rfl, ?_⟩) ?_ ?_
  rotate_left
  · intro w'
    go_simp
    with_reducible rfl
  rotate_left
  · simp only [Act.put, List.setIfInBounds_toArray, List.set_cons_zero, List.set_cons_succ, i64_w, i32_w]
    rfl
  refine take_ (i := 10) (N := some 187) (v := ?_) (a' := ?_) #[true, true, true, true, true, true, true, true, true, true, true, false, false, false, false, false, false, false, false, false, false, false, false, false, false, false, false, false, false, false, false, false] rfl rfl (by kernel_rfl) (fun _ _ _ h => h) (Or.inl ⟨by rfl, ?_⟩) hHeld ?_ ?_
  rotate_left
  · rintro w' ⟨s0, s1, s2, s3, s4, s5, s6, s7, s8, s9, s10, s11, s12⟩
    go_simp
    with_reducible rfl
  rotate_left
  · simp only [Act.put, List.setIfInBounds_toArray, List.set_cons_zero, List.set_cons_succ, i64_w, i32_w]
    rfl
  refine take_ (i := 12) (N := some 189) (v := ?_) (a' := ?_) #[true, true, true, true, true, true, true, true, true, true, true, false, true, false, false, false, false, false, false, false, false, false, false, false, false, false, false, false, false, false, false, false] rfl rfl (by kernel_rfl) (fun _ _ _ h => h) (Or.inl ⟨by rfl, ?_⟩) hHeld ?_ ?_
  rotate_left
  · rintro w' ⟨s0, s1, s2, s3, s4, s5, s6, s7, s8, s9, s10, s11, s12⟩
    go_simp
    with_reducible rfl
  rotate_left
  · simp only [Act.put, List.setIfInBounds_toArray, List.set_cons_zero, List.set_cons_succ, i64_w, i32_w]
    rfl
  refine one_ (i := 11) (N := some 188) #[true, true, true, true, true, true, true, true, true, true, true, true, true, false, false, false, false, false, false, false, false, false, false, false, false, false, false, false, false, false, false, false] rfl rfl (by kernel_rfl) (by decide) (fun K hK => ?_)
  refine goes_ Try.func12 (by kernel_rfl) rfl #[.agg #[.slice A9 n c9, .slice B9 m d9]] (by rfl) rfl rfl (by simp only [List.map_toArray, List.map_cons, List.map_nil]; rfl) ?_
  with_reducible refine (its_is A9 n c9 B9 m d9 _).mono ?_
  rintro e x11 ⟨rfl, hb⟩
  refine ⟨_, rfl, ?_⟩
  have kz := Aside0.mk (hHeld.2.2.2.2.2.2.2.2.2.2.2.2.out.step hb)
  clear hHeld hb
  refine hK.out _ _ ⟨kz.out.here.2.2.2.2.2.2.1.k0, kz.out.here.2.2.2.2.2.2.1.k1, kz.out.here.2.2.2.2.1.k0, kz.out.here.2.2.2.2.1.k1, kz.out.here.2.2.1.k0, kz.out.here.2.2.1.k1, kz.out.here.1.k0, kz.out.here.1.k1, kz.out.here.2.2.2.2.2.2.2.2.2.2.2.2.2.2.2.2.2.2.2.2.2.2.2.2.1.k0, kz.out.here.2.2.2.2.2.2.2.2.2.2.2.2.2.2.2.2.2.2.2.2.2.2.2.2.1.k1, kz.out.here.2.2.2.2.2.2.2.2.2.2.2.2.2.2.2.2.2.2.2.2.2.1.k0, kz.out.here.2.2.2.2.2.2.2.2.2.2.2.2.2.2.2.2.2.2.2.2.2.1.k1, kz⟩ (fun hHeld => ?_)
  clear hK K
  refine norm_ (a' := ?_) ?_ ?_
  rotate_left
  · show Act.put _ (some 188) _ = _
    simp only [Act.put, List.setIfInBounds_toArray, List.set_cons_zero, List.set_cons_succ, i64_w, i32_w]
    rfl
  refine one_ (i := 13) (N := some 190) #[true, true, true, true, true, true, true, true, true, true, true, true, true, true, false, false, false, false, false, false, false, false, false, false, false, false, false, false, false, false, false, false] rfl rfl (by kernel_rfl) (by decide) (fun K hK => ?_)
  refine goes_ Try.func19 (by kernel_rfl) rfl #[.agg #[.slice A9 n c9, .slice B9 m d9], .agg #[.slice Az n cz, .slice Bz m dz]] (by rfl) rfl rfl (by simp only [List.map_toArray, List.map_cons, List.map_nil]; rfl) ?_
  with_reducible refine (same_is n m A9 c9 B9 d9 Az cz Bz dz L9 S9 Sz _ (hHeld.2.2.2.2.2.2.2.2.2.2.2.2).out.here.2.2.2.1 (hHeld.2.2.2.2.2.2.2.2.2.2.2.2).out.here.2.1).mono ?_
  rintro e x13 ⟨rfl, hb⟩
  refine ⟨_, rfl, ?_⟩
  have kz := Aside0.mk (hHeld.2.2.2.2.2.2.2.2.2.2.2.2.out.step hb)
  clear hHeld hb
  refine hK.out _ _ ⟨kz.out.here.2.2.2.2.2.2.1.k0, kz.out.here.2.2.2.2.2.2.1.k1, kz.out.here.2.2.2.2.1.k0, kz.out.here.2.2.2.2.1.k1, kz.out.here.2.2.1.k0, kz.out.here.2.2.1.k1, kz.out.here.1.k0, kz.out.here.1.k1, kz.out.here.2.2.2.2.2.2.2.2.2.2.2.2.2.2.2.2.2.2.2.2.2.2.2.2.1.k0, kz.out.here.2.2.2.2.2.2.2.2.2.2.2.2.2.2.2.2.2.2.2.2.2.2.2.2.1.k1, kz.out.here.2.2.2.2.2.2.2.2.2.2.2.2.2.2.2.2.2.2.2.2.2.1.k0, kz.out.here.2.2.2.2.2.2.2.2.2.2.2.2.2.2.2.2.2.2.2.2.2.1.k1, kz⟩ (fun hHeld => ?_)
  clear hK K
  refine norm_ (a' := ?_) ?_ ?_
  rotate_left
  · show Act.put _ (some 190) _ = _
    simp only [Act.put, List.setIfInBounds_toArray, List.set_cons_zero, List.set_cons_succ, i64_w, i32_w]
    rfl
  refine pure_ (i := 14) (N := some 191) (v := ?_) (a' := ?_) #[true, true, true, true, true, true, true, true, true, true, true, true, true, true, true, false, false, false, false, false, false, false, false, false, false, false, false, false, false, false, false, false] rfl rfl (by kernel_rfl) (fun _ _ _ h => h) (Or.inl ⟨by rfl, ?_⟩) ?_ ?_
  rotate_left
  · intro w'
    go_simp
    with_reducible rfl
  rotate_left
  · simp only [Act.put, List.setIfInBounds_toArray, List.set_cons_zero, List.set_cons_succ, i64_w, i32_w]
    rfl
  refine pure_ (i := 15) (N := some 192) (v := ?_) (a' := ?_) #[true, true, true, true, true, true, true, true, true, true, true, true, true, true, true, true, false, false, false, false, false, false, false, false, false, false, false, false, false, false, false, false] rfl rfl (by kernel_rfl) (fun _ _ _ h => h) (Or.inl ⟨by rfl, ?_⟩) ?_ ?_
  rotate_left
  · intro w'
    go_simp
    with_reducible rfl
  rotate_left
  · simp only [Act.put, List.setIfInBounds_toArray, List.set_cons_zero, List.set_cons_succ, i64_w, i32_w]
    rfl
  refine pure_ (i := 16) (N := some 193) (v := ?_) (a' := ?_) #[true, true, true, true, true, true, true, true, true, true, true, true, true, true, true, true, true, false, false, false, false, false, false, false, false, false, false, false, false, false, false, false] rfl rfl (by kernel_rfl) (fun _ _ _ h => h) (Or.inl ⟨by rfl, ?_⟩) ?_ ?_
  rotate_left
  · intro w'
    go_simp
    with_reducible rfl
  rotate_left
  · simp only [Act.put, List.setIfInBounds_toArray, List.set_cons_zero, List.set_cons_succ, i64_w, i32_w]
    rfl
  refine pure_ (i := 17) (N := some 194) (v := ?_) (a' := ?_) #[true, true, true, true, true, true, true, true, true, true, true, true, true, true, true, true, true, true, false, false, false, false, false, false, false, false, false, false, false, false, false, false] rfl rfl (by kernel_rfl) (fun _ _ _ h => h) (Or.inl ⟨by rfl, ?_⟩) ?_ ?_
  rotate_left
  · intro w'
    go_simp
    with_reducible rfl
  rotate_left
  · simp only [Act.put, List.setIfInBounds_toArray, List.set_cons_zero, List.set_cons_succ, i64_w, i32_w]
    rfl
  refine pure_ (i := 18) (N := some 195) (v := ?_) (a' := ?_) #[true, true, true, true, true, true, true, true, true, true, true, true, true, true, true, true, true, true, true, false, false, false, false, false, false, false, false, false, false, false, false, false] rfl rfl (by kernel_rfl) (fun _ _ _ h => h) (Or.inl ⟨by rfl, ?_⟩) ?_ ?_
  rotate_left
  · intro w'
    go_simp
    with_reducible rfl
  rotate_left
  · simp only [Act.put, List.setIfInBounds_toArray, List.set_cons_zero, List.set_cons_succ, i64_w, i32_w]
    rfl
  refine pure_ (i := 19) (N := some 196) (v := ?_) (a' := ?_) #[true, true, true, true, true, true, true, true, true, true, true, true, true, true, true, true, true, true, true, true, false, false, false, false, false, false, false, false, false, false, false, false] rfl rfl (by kernel_rfl) (fun _ _ _ h => h) (Or.inl ⟨by rfl, ?_⟩) ?_ ?_
  rotate_left
  · intro w'
    go_simp
    with_reducible rfl
  rotate_left
  · simp only [Act.put, List.setIfInBounds_toArray, List.set_cons_zero, List.set_cons_succ, i64_w, i32_w]
    rfl
  refine pure_ (i := 20) (N := some 197) (v := ?_) (a' := ?_) #[true, true, true, true, true, true, true, true, true, true, true, true, true, true, true, true, true, true, true, true, true, false, false, false, false, false, false, false, false, false, false, false] rfl rfl (by kernel_rfl) (fun _ _ _ h => h) (Or.inl ⟨by rfl, ?_⟩) ?_ ?_
  rotate_left
  · intro w'
    go_simp
    with_reducible rfl
  rotate_left
  · simp only [Act.put, List.setIfInBounds_toArray, List.set_cons_zero, List.set_cons_succ, i64_w, i32_w]
    rfl
  refine pure_ (i := 21) (N := some 198) (v := ?_) (a' := ?_) #[true, true, true, true, true, true, true, true, true, true, true, true, true, true, true, true, true, true, true, true, true, true, false, false, false, false, false, false, false, false, false, false] rfl rfl (by kernel_rfl) (fun _ _ _ h => h) (Or.inl ⟨by rfl, ?_⟩) ?_ ?_
  rotate_left
  · intro w'
    go_simp
    with_reducible rfl
  rotate_left
  · simp only [Act.put, List.setIfInBounds_toArray, List.set_cons_zero, List.set_cons_succ, i64_w, i32_w]
    rfl
  refine pure_ (i := 22) (N := some 199) (v := ?_) (a' := ?_) #[true, true, true, true, true, true, true, true, true, true, true, true, true, true, true, true, true, true, true, true, true, true, true, false, false, false, false, false, false, false, false, false] rfl rfl (by kernel_rfl) (fun _ _ _ h => h) (Or.inl ⟨by rfl, ?_⟩) ?_ ?_
  rotate_left
  · intro w'
    go_simp
    with_reducible rfl
  rotate_left
  · simp only [Act.put, List.setIfInBounds_toArray, List.set_cons_zero, List.set_cons_succ, i64_w, i32_w]
    rfl
  refine pure_ (i := 23) (N := some 200) (v := ?_) (a' := ?_) #[true, true, true, true, true, true, true, true, true, true, true, true, true, true, true, true, true, true, true, true, true, true, true, true, false, false, false, false, false, false, false, false] rfl rfl (by kernel_rfl) (fun _ _ _ h => h) (Or.inl ⟨by rfl, ?_⟩) ?_ ?_
  rotate_left
  · intro w'
    go_simp
    with_reducible rfl
  rotate_left
  · simp only [Act.put, List.setIfInBounds_toArray, List.set_cons_zero, List.set_cons_succ, i64_w, i32_w]
    rfl
  refine pure_ (i := 24) (N := some 201) (v := ?_) (a' := ?_) #[true, true, true, true, true, true, true, true, true, true, true, true, true, true, true, true, true, true, true, true, true, true, true, true, true, false, false, false, false, false, false, false] rfl rfl (by kernel_rfl) (fun _ _ _ h => h) (Or.inl ⟨by rfl, ?_⟩) ?_ ?_
  rotate_left
  · intro w'
    go_simp
    with_reducible rfl
  rotate_left
  · simp only [Act.put, List.setIfInBounds_toArray, List.set_cons_zero, List.set_cons_succ, i64_w, i32_w]
    rfl
  refine pure_ (i := 25) (N := some 202) (v := ?_) (a' := ?_) #[true, true, true, true, true, true, true, true, true, true, true, true, true, true, true, true, true, true, true, true, true, true, true, true, true, true, false, false, false, false, false, false] rfl rfl (by kernel_rfl) (fun _ _ _ h => h) (Or.inl ⟨by rfl, ?_⟩) ?_ ?_
  rotate_left
  · intro w'
    go_simp
    with_reducible rfl
  rotate_left
  · simp only [Act.put, List.setIfInBounds_toArray, List.set_cons_zero, List.set_cons_succ, i64_w, i32_w]
    rfl
  refine take_ (i := 26) (N := some 203) (v := ?_) (a' := ?_) #[true, true, true, true, true, true, true, true, true, true, true, true, true, true, true, true, true, true, true, true, true, true, true, true, true, true, true, false, false, false, false, false] rfl rfl (by kernel_rfl) (fun _ _ _ h => h) (Or.inl ⟨by rfl, ?_⟩) hHeld ?_ ?_
  rotate_left
  · rintro w' ⟨s0, s1, s2, s3, s4, s5, s6, s7, s8, s9, s10, s11, s12⟩
    go_simp
    with_reducible rfl
  rotate_left
  · simp only [Act.put, List.setIfInBounds_toArray, List.set_cons_zero, List.set_cons_succ, i64_w, i32_w]
    rfl
  refine take_ (i := 28) (N := some 205) (v := ?_) (a' := ?_) #[true, true, true, true, true, true, true, true, true, true, true, true, true, true, true, true, true, true, true, true, true, true, true, true, true, true, true, false, true, false, false, false] rfl rfl (by kernel_rfl) (fun _ _ _ h => h) (Or.inl ⟨by rfl, ?_⟩) hHeld ?_ ?_
  rotate_left
  · rintro w' ⟨s0, s1, s2, s3, s4, s5, s6, s7, s8, s9, s10, s11, s12⟩
    go_simp
    with_reducible rfl
  rotate_left
  · simp only [Act.put, List.setIfInBounds_toArray, List.set_cons_zero, List.set_cons_succ, i64_w, i32_w]
    rfl
  refine one_ (i := 27) (N := some 204) #[true, true, true, true, true, true, true, true, true, true, true, true, true, true, true, true, true, true, true, true, true, true, true, true, true, true, true, true, true, false, false, false] rfl rfl (by kernel_rfl) (by decide) (fun K hK => ?_)
  refine goes_ Try.func12 (by kernel_rfl) rfl #[.agg #[.slice A n c, .slice B m d]] (by rfl) rfl rfl (by simp only [List.map_toArray, List.map_cons, List.map_nil]; rfl) ?_
  with_reducible refine (its_is A n c B m d _).mono ?_
  rintro e x27 ⟨rfl, hb⟩
  refine ⟨_, rfl, ?_⟩
  have kz := Aside0.mk (hHeld.2.2.2.2.2.2.2.2.2.2.2.2.out.step hb)
  clear hHeld hb
  refine hK.out _ _ ⟨kz.out.here.2.2.2.2.2.2.1.k0, kz.out.here.2.2.2.2.2.2.1.k1, kz.out.here.2.2.2.2.1.k0, kz.out.here.2.2.2.2.1.k1, kz.out.here.2.2.1.k0, kz.out.here.2.2.1.k1, kz.out.here.1.k0, kz.out.here.1.k1, kz.out.here.2.2.2.2.2.2.2.2.2.2.2.2.2.2.2.2.2.2.2.2.2.2.2.2.1.k0, kz.out.here.2.2.2.2.2.2.2.2.2.2.2.2.2.2.2.2.2.2.2.2.2.2.2.2.1.k1, kz.out.here.2.2.2.2.2.2.2.2.2.2.2.2.2.2.2.2.2.2.2.2.2.1.k0, kz.out.here.2.2.2.2.2.2.2.2.2.2.2.2.2.2.2.2.2.2.2.2.2.1.k1, kz⟩ (fun hHeld => ?_)
  clear hK K
  refine norm_ (a' := ?_) ?_ ?_
  rotate_left
  · show Act.put _ (some 204) _ = _
    simp only [Act.put, List.setIfInBounds_toArray, List.set_cons_zero, List.set_cons_succ, i64_w, i32_w]
    rfl
  refine one_ (i := 29) (N := some 206) #[true, true, true, true, true, true, true, true, true, true, true, true, true, true, true, true, true, true, true, true, true, true, true, true, true, true, true, true, true, true, false, false] rfl rfl (by kernel_rfl) (by decide) (fun K hK => ?_)
  refine goes_ Try.func19 (by kernel_rfl) rfl #[.agg #[.slice A n c, .slice B m d], .agg #[.slice A n c, .slice B m d]] (by rfl) rfl rfl (by simp only [List.map_toArray, List.map_cons, List.map_nil]; rfl) ?_
  with_reducible refine (same_is n m A c B d A c B d L S S _ (hHeld.2.2.2.2.2.2.2.2.2.2.2.2).out.here.2.2.2.2.2.2.2.2.2.2.2.2.2.2.2.2.2.2.2.2.2.2.2.2.2.1 (hHeld.2.2.2.2.2.2.2.2.2.2.2.2).out.here.2.2.2.2.2.2.2.2.2.2.2.2.2.2.2.2.2.2.2.2.2.2.2.2.2.1).mono ?_
  rintro e x29 ⟨rfl, hb⟩
  refine ⟨_, rfl, ?_⟩
  have kz := Aside0.mk (hHeld.2.2.2.2.2.2.2.2.2.2.2.2.out.step hb)
  clear hHeld hb
  refine hK.out _ _ ⟨kz.out.here.2.2.2.2.2.2.1.k0, kz.out.here.2.2.2.2.2.2.1.k1, kz.out.here.2.2.2.2.1.k0, kz.out.here.2.2.2.2.1.k1, kz.out.here.2.2.1.k0, kz.out.here.2.2.1.k1, kz.out.here.1.k0, kz.out.here.1.k1, kz.out.here.2.2.2.2.2.2.2.2.2.2.2.2.2.2.2.2.2.2.2.2.2.2.2.2.1.k0, kz.out.here.2.2.2.2.2.2.2.2.2.2.2.2.2.2.2.2.2.2.2.2.2.2.2.2.1.k1, kz.out.here.2.2.2.2.2.2.2.2.2.2.2.2.2.2.2.2.2.2.2.2.2.1.k0, kz.out.here.2.2.2.2.2.2.2.2.2.2.2.2.2.2.2.2.2.2.2.2.2.1.k1, kz⟩ (fun hHeld => ?_)
  clear hK K
  refine norm_ (a' := ?_) ?_ ?_
  rotate_left
  · show Act.put _ (some 206) _ = _
    simp only [Act.put, List.setIfInBounds_toArray, List.set_cons_zero, List.set_cons_succ, i64_w, i32_w]
    rfl
  refine pure_ (i := 30) (N := some 207) (v := ?_) (a' := ?_) #[true, true, true, true, true, true, true, true, true, true, true, true, true, true, true, true, true, true, true, true, true, true, true, true, true, true, true, true, true, true, true, false] rfl rfl (by kernel_rfl) (fun _ _ _ h => h) (Or.inl ⟨by rfl, ?_⟩) ?_ ?_
  rotate_left
  · intro w'
    go_simp
    with_reducible rfl
  rotate_left
  · simp only [Act.put, List.setIfInBounds_toArray, List.set_cons_zero, List.set_cons_succ, i64_w, i32_w]
    rfl
  refine pure_ (i := 31) (N := some 8) (v := ?_) (a' := ?_) #[true, true, true, true, true, true, true, true, true, true, true, true, true, true, true, true, true, true, true, true, true, true, true, true, true, true, true, true, true, true, true, true] rfl rfl (by kernel_rfl) (fun _ _ _ h => h) (Or.inl ⟨by rfl, ?_⟩) ?_ ?_
  rotate_left
  · intro w'
    go_simp
    with_reducible rfl
  rotate_left
  · simp only [Act.put, List.setIfInBounds_toArray, List.set_cons_zero, List.set_cons_succ, i64_w, i32_w]
    rfl
  refine done_ (by kernel_rfl) ?_
  have kn := hHeld.2.2.2.2.2.2.2.2.2.2.2.2
  clear hHeld kd kz
  go_wp2
  go_ret
  exact ⟨rfl, kn.out.here.2.2.2.2.2.2.2.2.2.2.2.2.2.2.2.2.2.2.2.2.2.2.2.2.2.2⟩
set_option maxHeartbeats 8000000 in
set_option maxRecDepth 100000 in
theorem acts_no (A : Option Addr) (c : Nat) (B : Option Addr) (d : Nat) (hv : List Int) (hd : List (List Int)) (t ai aK bi bK : Int) (w : World) (h : Aside0 (RD A c B d hv hd w)) (hf : fineS hv hd = false) :
    Calls Try.prog 3 #[.agg #[.slice A hv.length c, .slice B hd.length d], .int .i64 t, .agg #[.int .i64 ai, .int .i64 aK], .agg #[.int .i64 bi, .int .i64 bK]] w fun e w' => e = .returned (.bool true) ∧ Below w.heap.size w w' := by
  go_enter Try.func3, Try.ntmps3
  go_upto_region 1 with (fail)
  have kn := Aside0.mk (Kn.cons h.out.kn (tb_kn (Below.refl w.heap.size w)))
  replace kn := Aside0.mk (Kn.cons (Bx.new (w) (.slice A hv.length c) (.slice B hd.length d) 25).kn (kn.out.step (bal (w) (.cells #[.slice A hv.length c, .slice B hd.length d] 25))))
  replace kn := Aside0.mk (Kn.cons (Bx.new ((w).alloc (.cells #[.slice A hv.length c, .slice B hd.length d] 25)) (.int .i64 ai) (.int .i64 aK) 27).kn (kn.out.step (bal ((w).alloc (.cells #[.slice A hv.length c, .slice B hd.length d] 25)) (.cells #[.int .i64 ai, .int .i64 aK] 27))))
  replace kn := Aside0.mk (Kn.cons (Bx.new (((w).alloc (.cells #[.slice A hv.length c, .slice B hd.length d] 25)).alloc (.cells #[.int .i64 ai, .int .i64 aK] 27)) (.int .i64 bi) (.int .i64 bK) 27).kn (kn.out.step (bal (((w).alloc (.cells #[.slice A hv.length c, .slice B hd.length d] 25)).alloc (.cells #[.int .i64 ai, .int .i64 aK] 27)) (.cells #[.int .i64 bi, .int .i64 bK] 27))))
  simp only [World.size_alloc] at kn
  generalize (((w).alloc (.cells #[.slice A hv.length c, .slice B hd.length d] 25)).alloc (.cells #[.int .i64 ai, .int .i64 aK] 27)).alloc (.cells #[.int .i64 bi, .int .i64 bK] 27) = W0 at kn ⊢
  generalize w.heap.size + 1 + 1 = bq at kn ⊢
  generalize w.heap.size + 1 = bp at kn ⊢
  generalize hz : w.heap.size = bl at kn ⊢
  clear hz
  have yl0 := kn.out.here.2.2.1.k0
  have yl1 := kn.out.here.2.2.1.k1
  go_wp2_with (first | (go_at_call 10; (with_reducible refine (fine_no (kn.out.here.2.2.2.1) hf).mono ?_); rintro e wf ⟨rfl, hb⟩; have kf := Aside0.mk (kn.out.step hb); clear hb kn) | (go_at_call 11; (with_reducible refine (shown_is _).mono ?_); rintro e wg ⟨rfl, hb⟩; have kn := Aside0.mk (kf.out.step hb); clear hb))
  go_ret
  exact ⟨rfl, kn.out.here.2.2.2.2⟩
theorem acts_law (A : Option Addr) (c : Nat) (B : Option Addr) (d : Nat) (hv : List Int) (hd : List (List Int)) (t ai aK bi bK : Int) (w : World) (hr : RD A c B d hv hd w) (ia : ∀ x, x ∈ hv → I64 x) (ib : ∀ r, r ∈ hd → ∀ x, x ∈ r → I64 x) (ha0 : Aside0 (-9223372036854775808 ≤ aK ∧ aK ≤ 9223372036854775807)) (hb0 : Aside0 (-9223372036854775808 ≤ bK ∧ bK ≤ 9223372036854775807)) :
    Calls Try.prog 3 #[.agg #[.slice A hv.length c, .slice B hd.length d], .int .i64 t, .agg #[.int .i64 ai, .int .i64 aK], .agg #[.int .i64 bi, .int .i64 bK]] w fun e w' => e = .returned (.bool true) ∧ Below w.heap.size w w' := by
  cases hf : fineS hv hd with
  | false => exact acts_no A c B d hv hd t ai aK bi bK w ⟨hr⟩ hf
  | true =>
    have hl := lv_of_kd hr.a hr.ac hr.b hr.bd hf ia ib
    obtain ⟨⟨L1, k1, e1⟩, h1⟩ : ∃ x, resS hv.length hd.length ⟨hv, hd⟩ t ai aK = x := ⟨_, rfl⟩
    obtain ⟨⟨L3, k3, e3⟩, h2⟩ : ∃ x, someS hv.length hd.length ⟨hv, hd⟩ t ai aK = x := ⟨_, rfl⟩
    obtain ⟨⟨L5, k5, e5⟩, h3⟩ : ∃ x, relS hv.length hd.length ⟨hv, hd⟩ t ai aK = x := ⟨_, rfl⟩
    obtain ⟨⟨L7, e7⟩, h4⟩ : ∃ x, rsS hv.length ⟨hv, hd⟩ ai aK = x := ⟨_, rfl⟩
    obtain ⟨⟨L9, k9, e9⟩, h5⟩ : ∃ x, bothS hv.length hd.length ⟨hv, hd⟩ t ai aK bi bK = x := ⟨_, rfl⟩
    exact acts_ok hv.length hd.length A c B d ⟨hv, hd⟩ t ai aK bi bK _ w ⟨hl⟩ ha0 hb0 L1 L3 L5 L7 L9 k1 e1 k3 e3 k5 e5 e7 k9 e9 ⟨h1⟩ ⟨h2⟩ ⟨h3⟩ ⟨h4⟩ ⟨h5⟩
end Go.Proofs.Ytlgoincnopfnjaa.Led
