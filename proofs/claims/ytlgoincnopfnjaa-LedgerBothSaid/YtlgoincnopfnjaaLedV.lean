/- Both are granted just if each is, one behind the other; then the ledger is what that makes of it; else nothing changes. -/
import Derived.Test.YtlgoincnopfnjaaLedR
namespace Go.Proofs.Ytlgoincnopfnjaa.Led
open Go Go.RowKit Go.Proofs.YtlgoincnopfnjaaW.PrintWords Go.Proofs.YtlgoincnopfnjaaW.PrintMore Go.Proofs.YtlgoincnopfnjaaW.PrintLast
set_option linter.unusedSimpArgs false
set_option linter.unusedVariables false
attribute [local go_sem] max2_int min2_int max_two min_two eqA27
set_option maxHeartbeats 8000000 in
set_option maxRecDepth 100000 in
theorem both_lawA (n m : Nat) (A : Option Addr) (c : Nat) (B : Option Addr) (d : Nat) (L : LG) (t ai aK bi bK : Int) (S : Nat → Prop) (w : World) (h : Aside0 (LV S n m A c B d L w)) (ha0 : Aside0 (-9223372036854775808 ≤ aK ∧ aK ≤ 9223372036854775807)) (hb0 : Aside0 (-9223372036854775808 ≤ bK ∧ bK ≤ 9223372036854775807)) (LX LY : LG) (i1 e1 j1 f1 : Int) (he : (e1 == 0) = false) (he2 : (e1 != 0) = true) (h1 : Aside0 (resS n m L t ai aK = (LX, i1, e1))) (h2 : Aside0 (resS n m LX t bi bK = (LY, j1, f1))) (h3 : Aside0 (Hid (bothS n m L t ai aK bi bK = (L, 0, e1)))) :
    Calls Try.prog 7 #[.agg #[.slice A n c, .slice B m d], .int .i64 t, .agg #[.int .i64 ai, .int .i64 aK], .agg #[.int .i64 bi, .int .i64 bK]] w fun e w' => e = .returned (.bool true) ∧ Below w.heap.size w w' := by
  go_enter Try.func7, Try.ntmps7
  go_upto_region 1 with (fail)
  have kn := Aside0.mk (Kn.cons h.out.kn (tb_kn (Below.refl w.heap.size w)))
  replace kn := Aside0.mk (Kn.cons (Bx.new (w) (.slice A n c) (.slice B m d) 25).kn (kn.out.step (bal (w) (.cells #[.slice A n c, .slice B m d] 25))))
  replace kn := Aside0.mk (Kn.cons (Bx.new ((w).alloc (.cells #[.slice A n c, .slice B m d] 25)) (.int .i64 ai) (.int .i64 aK) 27).kn (kn.out.step (bal ((w).alloc (.cells #[.slice A n c, .slice B m d] 25)) (.cells #[.int .i64 ai, .int .i64 aK] 27))))
  replace kn := Aside0.mk (Kn.cons (Bx.new (((w).alloc (.cells #[.slice A n c, .slice B m d] 25)).alloc (.cells #[.int .i64 ai, .int .i64 aK] 27)) (.int .i64 bi) (.int .i64 bK) 27).kn (kn.out.step (bal (((w).alloc (.cells #[.slice A n c, .slice B m d] 25)).alloc (.cells #[.int .i64 ai, .int .i64 aK] 27)) (.cells #[.int .i64 bi, .int .i64 bK] 27))))
  simp only [World.size_alloc] at kn
  generalize (((w).alloc (.cells #[.slice A n c, .slice B m d] 25)).alloc (.cells #[.int .i64 ai, .int .i64 aK] 27)).alloc (.cells #[.int .i64 bi, .int .i64 bK] 27) = W0 at kn ⊢
  generalize w.heap.size + 1 + 1 = bq at kn ⊢
  generalize w.heap.size + 1 = bp at kn ⊢
  generalize hz : w.heap.size = bl at kn ⊢
  clear hz
  have yl0 := kn.out.here.2.2.1.k0
  have yl1 := kn.out.here.2.2.1.k1
  go_upto_region 3 with (first | (go_at_call 10; (with_reducible refine (fine_lv (kn.out.here.2.2.2.1)).mono ?_); rintro e wf ⟨rfl, hb⟩; have kf := Aside0.mk (kn.out.step hb); clear hb kn) | (go_at_call 11; (with_reducible refine (shown_is _).mono ?_); rintro e wg ⟨rfl, hb⟩; have kn := Aside0.mk (kf.out.step hb); clear hb kf))
  clear yl0 yl1
  have yl0 := kn.out.here.2.2.1.k0
  have yl1 := kn.out.here.2.2.1.k1
  have yp0 := kn.out.here.2.1.k0
  have yp1 := kn.out.here.2.1.k1
  go_upto_region 4 with (first | (go_at_call 13; (with_reducible refine (reserve_is n m A c B d L t ai aK S _ ⟨kn.out.here.2.2.2.1⟩ ha0 LX i1 e1 h1.out).mono ?_); rintro e w1 ⟨S1, A1, c1, B1, d1, rfl, hl, hS, hb⟩; replace hb := Aside0.mk hb; replace hl := Aside0.mk hl))
  clear yl0 yl1 yp0 yp1
  replace kn := Aside0.mk (Kn.cons (Bx.new w1 (.slice A1 n c1) (.slice B1 m d1) 25).kn (Kn.cons (hl.out.below (bal w1 (.cells #[.slice A1 n c1, .slice B1 m d1] 25))).kn (kn.out.step (hb.out.alloc hb.out.size (.cells #[.slice A1 n c1, .slice B1 m d1] 25)))))
  clear hb hl
  generalize w1.alloc (.cells #[.slice A1 n c1, .slice B1 m d1] 25) = W1 at kn ⊢
  generalize w1.heap.size = b1 at kn ⊢
  have y10 := kn.out.here.1.k0
  have y11 := kn.out.here.1.k1
  have yq0 := kn.out.here.2.2.1.k0
  have yq1 := kn.out.here.2.2.1.k1
  go_upto_region 5 with (first | (go_at_call 13; (with_reducible refine (reserve_is n m A1 c1 B1 d1 LX t bi bK S1 _ ⟨kn.out.here.2.1⟩ hb0 LY j1 f1 h2.out).mono ?_); rintro e w2 ⟨S2, A2, c2, B2, d2, rfl, hl, hS, hb⟩; replace hb := Aside0.mk hb; replace hl := Aside0.mk hl))
  clear y10 y11 yq0 yq1
  replace kn := Aside0.mk (Kn.cons (Bx.new w2 (.slice A2 n c2) (.slice B2 m d2) 25).kn (Kn.cons (hl.out.below (bal w2 (.cells #[.slice A2 n c2, .slice B2 m d2] 25))).kn (kn.out.step (hb.out.alloc hb.out.size (.cells #[.slice A2 n c2, .slice B2 m d2] 25)))))
  clear hb hl
  generalize w2.alloc (.cells #[.slice A2 n c2, .slice B2 m d2] 25) = W2 at kn ⊢
  generalize w2.heap.size = b2 at kn ⊢
  have yl0 := kn.out.here.2.2.2.2.2.2.1.k0
  have yl1 := kn.out.here.2.2.2.2.2.2.1.k1
  have yp0 := kn.out.here.2.2.2.2.2.1.k0
  have yp1 := kn.out.here.2.2.2.2.2.1.k1
  have yq0 := kn.out.here.2.2.2.2.1.k0
  have yq1 := kn.out.here.2.2.2.2.1.k1
  go_upto_region 6 with (first | (go_at_call 22; (with_reducible refine (both_is n m A c B d L t ai aK bi bK S _ ⟨kn.out.here.2.2.2.2.2.2.2.1⟩ ha0 hb0 L 0 e1 h3.out).mono ?_); rintro e w3 ⟨S3, A3, c3, B3, d3, rfl, hl, hS, hb⟩; replace hb := Aside0.mk hb; replace hl := Aside0.mk hl))
  clear yl0 yl1 yp0 yp1 yq0 yq1
  replace kn := Aside0.mk (Kn.cons (Bx.new w3 (.slice A3 n c3) (.slice B3 m d3) 25).kn (Kn.cons (hl.out.below (bal w3 (.cells #[.slice A3 n c3, .slice B3 m d3] 25))).kn (kn.out.step (hb.out.alloc hb.out.size (.cells #[.slice A3 n c3, .slice B3 m d3] 25)))))
  clear hb hl
  generalize w3.alloc (.cells #[.slice A3 n c3, .slice B3 m d3] 25) = W3 at kn ⊢
  generalize w3.heap.size = b3 at kn ⊢
  go_upto_region 7 with (fail)
  have kd := Aside0.mk (kn.out.step (below_drew1 (Below.refl W3.heap.size W3)))
  clear kn
  refine start_ (n := 15) (S := fun w' => w'.cell? ⟨b3, 0, none⟩ = some (.slice A3 n c3) ∧ w'.cell? ⟨b3, 1, none⟩ = some (.slice B3 m d3) ∧ w'.cell? ⟨bl, 0, none⟩ = some (.slice A n c) ∧ w'.cell? ⟨bl, 1, none⟩ = some (.slice B m d) ∧ Aside0 (Kn (fun W => Bx b3 (.slice A3 n c3) (.slice B3 m d3) W ∧ LV S3 n m A3 c3 B3 d3 L W ∧ Bx b2 (.slice A2 n c2) (.slice B2 m d2) W ∧ LV S2 n m A2 c2 B2 d2 LY W ∧ Bx b1 (.slice A1 n c1) (.slice B1 m d1) W ∧ LV S1 n m A1 c1 B1 d1 LX W ∧ Bx bq (.int .i64 bi) (.int .i64 bK) W ∧ Bx bp (.int .i64 ai) (.int .i64 aK) W ∧ Bx bl (.slice A n c) (.slice B m d) W ∧ LV S n m A c B d L W ∧ Tb w W) w')) (ds := []) #[false, false, false, false, false, false, false, false, false, false, false, false, false, false, false] (by kernel_rfl) rfl rfl ⟨kd.out.here.1.k0, kd.out.here.1.k1, kd.out.here.2.2.2.2.2.2.2.2.1.k0, kd.out.here.2.2.2.2.2.2.2.2.1.k1, kd⟩ (fun hHeld => ?_)
  generalize W3.drew = V3 at kd hHeld ⊢
  refine pure_ (i := 0) (N := some 53) (v := ?_) (a' := ?_) #[true, false, false, false, false, false, false, false, false, false, false, false, false, false, false] rfl rfl (by kernel_rfl) (fun _ _ _ h => h) (Or.inl ⟨by rfl, ?_⟩) ?_ ?_
  rotate_left
  · intro w'
    go_simp
    with_reducible rfl
  rotate_left
  · simp only [Act.put, List.setIfInBounds_toArray, List.set_cons_zero, List.set_cons_succ, i64_w, i32_w]
    rfl
  refine pure_ (i := 1) (N := some 54) (v := ?_) (a' := ?_) #[true, true, false, false, false, false, false, false, false, false, false, false, false, false, false] rfl rfl (by kernel_rfl) (fun _ _ _ h => h) (Or.inl ⟨by rfl, ?_⟩) ?_ ?_
  rotate_left
  · intro w'
    go_simp
    with_reducible rfl
  rotate_left
  · simp only [Act.put, List.setIfInBounds_toArray, List.set_cons_zero, List.set_cons_succ, i64_w, i32_w]
    rfl
  refine pure_ (i := 2) (N := some 55) (v := ?_) (a' := ?_) #[true, true, true, false, false, false, false, false, false, false, false, false, false, false, false] rfl rfl (by kernel_rfl) (fun _ _ _ h => h) (Or.inl ⟨by rfl, ?_⟩) ?_ ?_
  rotate_left
  · intro w'
    go_simp
    with_reducible rfl
  rotate_left
  · simp only [Act.put, List.setIfInBounds_toArray, List.set_cons_zero, List.set_cons_succ, i64_w, i32_w]
    rfl
  refine pure_ (i := 3) (N := some 56) (v := ?_) (a' := ?_) #[true, true, true, true, false, false, false, false, false, false, false, false, false, false, false] rfl rfl (by kernel_rfl) (fun _ _ _ h => h) (Or.inl ⟨by rfl, ?_⟩) ?_ ?_
  rotate_left
  · intro w'
    go_simp
    with_reducible rfl
  rotate_left
  · simp only [Act.put, List.setIfInBounds_toArray, List.set_cons_zero, List.set_cons_succ, i64_w, i32_w]
    rfl
  refine pure_ (i := 4) (N := some 57) (v := ?_) (a' := ?_) #[true, true, true, true, true, false, false, false, false, false, false, false, false, false, false] rfl rfl (by kernel_rfl) (fun _ _ _ h => h) (Or.inl ⟨by rfl, ?_⟩) ?_ ?_
  rotate_left
  · intro w'
    go_simp
    with_reducible rfl
  rotate_left
  · simp only [Act.put, List.setIfInBounds_toArray, List.set_cons_zero, List.set_cons_succ, i64_w, i32_w]
    rfl
  refine pure_ (i := 5) (N := some 58) (v := ?_) (a' := ?_) #[true, true, true, true, true, true, false, false, false, false, false, false, false, false, false] rfl rfl (by kernel_rfl) (fun _ _ _ h => h) (Or.inl ⟨by rfl, ?_⟩) ?_ ?_
  rotate_left
  · intro w'
    go_simp
    with_reducible rfl
  rotate_left
  · simp only [Act.put, List.setIfInBounds_toArray, List.set_cons_zero, List.set_cons_succ, i64_w, i32_w]
    rfl
  refine pure_ (i := 6) (N := some 59) (v := ?_) (a' := ?_) #[true, true, true, true, true, true, true, false, false, false, false, false, false, false, false] rfl rfl (by kernel_rfl) (fun _ _ _ h => h) (Or.inl ⟨by rfl, ?_⟩) ?_ ?_
  rotate_left
  · intro w'
    go_simp
    with_reducible rfl
  rotate_left
  · simp only [Act.put, List.setIfInBounds_toArray, List.set_cons_zero, List.set_cons_succ, i64_w, i32_w]
    rfl
  refine pure_ (i := 7) (N := some 60) (v := ?_) (a' := ?_) #[true, true, true, true, true, true, true, true, false, false, false, false, false, false, false] rfl rfl (by kernel_rfl) (fun _ _ _ h => h) (Or.inl ⟨by rfl, ?_⟩) ?_ ?_
  rotate_left
  · intro w'
    go_simp
    with_reducible rfl
  rotate_left
  · simp only [Act.put, List.setIfInBounds_toArray, List.set_cons_zero, List.set_cons_succ, i64_w, i32_w]
    rfl
  refine take_ (i := 8) (N := some 61) (v := ?_) (a' := ?_) #[true, true, true, true, true, true, true, true, true, false, false, false, false, false, false] rfl rfl (by kernel_rfl) (fun _ _ _ h => h) (Or.inl ⟨by rfl, ?_⟩) hHeld ?_ ?_
  rotate_left
  · rintro w' ⟨s0, s1, s2, s3, s4⟩
    go_simp
    with_reducible rfl
  rotate_left
  · simp only [Act.put, List.setIfInBounds_toArray, List.set_cons_zero, List.set_cons_succ, i64_w, i32_w]
    rfl
  refine take_ (i := 10) (N := some 63) (v := ?_) (a' := ?_) #[true, true, true, true, true, true, true, true, true, false, true, false, false, false, false] rfl rfl (by kernel_rfl) (fun _ _ _ h => h) (Or.inl ⟨by rfl, ?_⟩) hHeld ?_ ?_
  rotate_left
  · rintro w' ⟨s0, s1, s2, s3, s4⟩
    go_simp
    with_reducible rfl
  rotate_left
  · simp only [Act.put, List.setIfInBounds_toArray, List.set_cons_zero, List.set_cons_succ, i64_w, i32_w]
    rfl
  refine one_ (i := 9) (N := some 62) #[true, true, true, true, true, true, true, true, true, true, true, false, false, false, false] rfl rfl (by kernel_rfl) (by decide) (fun K hK => ?_)
  refine goes_ Try.func12 (by kernel_rfl) rfl #[.agg #[.slice A3 n c3, .slice B3 m d3]] (by rfl) rfl rfl (by simp only [List.map_toArray, List.map_cons, List.map_nil]; rfl) ?_
  with_reducible refine (its_is A3 n c3 B3 m d3 _).mono ?_
  rintro e x9 ⟨rfl, hb⟩
  refine ⟨_, rfl, ?_⟩
  have kz := Aside0.mk (hHeld.2.2.2.2.out.step hb)
  clear hHeld hb
  refine hK.out _ _ ⟨kz.out.here.1.k0, kz.out.here.1.k1, kz.out.here.2.2.2.2.2.2.2.2.1.k0, kz.out.here.2.2.2.2.2.2.2.2.1.k1, kz⟩ (fun hHeld => ?_)
  clear hK K
  refine norm_ (a' := ?_) ?_ ?_
  rotate_left
  · show Act.put _ (some 62) _ = _
    simp only [Act.put, List.setIfInBounds_toArray, List.set_cons_zero, List.set_cons_succ, i64_w, i32_w]
    rfl
  refine one_ (i := 11) (N := some 64) #[true, true, true, true, true, true, true, true, true, true, true, true, false, false, false] rfl rfl (by kernel_rfl) (by decide) (fun K hK => ?_)
  refine goes_ Try.func12 (by kernel_rfl) rfl #[.agg #[.slice A n c, .slice B m d]] (by rfl) rfl rfl (by simp only [List.map_toArray, List.map_cons, List.map_nil]; rfl) ?_
  with_reducible refine (its_is A n c B m d _).mono ?_
  rintro e x11 ⟨rfl, hb⟩
  refine ⟨_, rfl, ?_⟩
  have kz := Aside0.mk (hHeld.2.2.2.2.out.step hb)
  clear hHeld hb
  refine hK.out _ _ ⟨kz.out.here.1.k0, kz.out.here.1.k1, kz.out.here.2.2.2.2.2.2.2.2.1.k0, kz.out.here.2.2.2.2.2.2.2.2.1.k1, kz⟩ (fun hHeld => ?_)
  clear hK K
  refine norm_ (a' := ?_) ?_ ?_
  rotate_left
  · show Act.put _ (some 64) _ = _
    simp only [Act.put, List.setIfInBounds_toArray, List.set_cons_zero, List.set_cons_succ, i64_w, i32_w]
    rfl
  refine one_ (i := 12) (N := some 65) #[true, true, true, true, true, true, true, true, true, true, true, true, true, false, false] rfl rfl (by kernel_rfl) (by decide) (fun K hK => ?_)
  refine goes_ Try.func19 (by kernel_rfl) rfl #[.agg #[.slice A3 n c3, .slice B3 m d3], .agg #[.slice A n c, .slice B m d]] (by rfl) rfl rfl (by simp only [List.map_toArray, List.map_cons, List.map_nil]; rfl) ?_
  with_reducible refine (same_is n m A3 c3 B3 d3 A c B d L S3 S _ (hHeld.2.2.2.2).out.here.2.1 (hHeld.2.2.2.2).out.here.2.2.2.2.2.2.2.2.2.1).mono ?_
  rintro e x12 ⟨rfl, hb⟩
  refine ⟨_, rfl, ?_⟩
  have kz := Aside0.mk (hHeld.2.2.2.2.out.step hb)
  clear hHeld hb
  refine hK.out _ _ ⟨kz.out.here.1.k0, kz.out.here.1.k1, kz.out.here.2.2.2.2.2.2.2.2.1.k0, kz.out.here.2.2.2.2.2.2.2.2.1.k1, kz⟩ (fun hHeld => ?_)
  clear hK K
  refine norm_ (a' := ?_) ?_ ?_
  rotate_left
  · show Act.put _ (some 65) _ = _
    simp only [Act.put, List.setIfInBounds_toArray, List.set_cons_zero, List.set_cons_succ, i64_w, i32_w]
    rfl
  refine pure_ (i := 13) (N := some 66) (v := ?_) (a' := ?_) #[true, true, true, true, true, true, true, true, true, true, true, true, true, true, false] rfl rfl (by kernel_rfl) (fun _ _ _ h => h) (Or.inl ⟨by rfl, ?_⟩) ?_ ?_
  rotate_left
  · intro w'
    go_simp
    with_reducible rfl
  rotate_left
  · simp only [Act.put, List.setIfInBounds_toArray, List.set_cons_zero, List.set_cons_succ, i64_w, i32_w]
    rfl
  refine pure_ (i := 14) (N := some 8) (v := ?_) (a' := ?_) #[true, true, true, true, true, true, true, true, true, true, true, true, true, true, true] rfl rfl (by kernel_rfl) (fun _ _ _ h => h) (Or.inl ⟨by rfl, ?_⟩) ?_ ?_
  rotate_left
  · intro w'
    go_simp
    with_reducible rfl
  rotate_left
  · simp only [Act.put, List.setIfInBounds_toArray, List.set_cons_zero, List.set_cons_succ, i64_w, i32_w]
    rfl
  refine done_ (by kernel_rfl) ?_
  have kn := hHeld.2.2.2.2
  clear hHeld kd kz
  go_wp2
  go_ret
  exact ⟨rfl, kn.out.here.2.2.2.2.2.2.2.2.2.2⟩
set_option maxHeartbeats 8000000 in
set_option maxRecDepth 100000 in
theorem both_lawB (n m : Nat) (A : Option Addr) (c : Nat) (B : Option Addr) (d : Nat) (L : LG) (t ai aK bi bK : Int) (S : Nat → Prop) (w : World) (h : Aside0 (LV S n m A c B d L w)) (ha0 : Aside0 (-9223372036854775808 ≤ aK ∧ aK ≤ 9223372036854775807)) (hb0 : Aside0 (-9223372036854775808 ≤ bK ∧ bK ≤ 9223372036854775807)) (LX LY : LG) (i1 j1 f1 : Int) (he : (f1 == 0) = false) (he2 : (f1 != 0) = true) (h1 : Aside0 (resS n m L t ai aK = (LX, i1, 0))) (h2 : Aside0 (resS n m LX t bi bK = (LY, j1, f1))) (h3 : Aside0 (Hid (bothS n m L t ai aK bi bK = (L, 0, f1)))) :
    Calls Try.prog 7 #[.agg #[.slice A n c, .slice B m d], .int .i64 t, .agg #[.int .i64 ai, .int .i64 aK], .agg #[.int .i64 bi, .int .i64 bK]] w fun e w' => e = .returned (.bool true) ∧ Below w.heap.size w w' := by
  go_enter Try.func7, Try.ntmps7
  go_upto_region 1 with (fail)
  have kn := Aside0.mk (Kn.cons h.out.kn (tb_kn (Below.refl w.heap.size w)))
  replace kn := Aside0.mk (Kn.cons (Bx.new (w) (.slice A n c) (.slice B m d) 25).kn (kn.out.step (bal (w) (.cells #[.slice A n c, .slice B m d] 25))))
  replace kn := Aside0.mk (Kn.cons (Bx.new ((w).alloc (.cells #[.slice A n c, .slice B m d] 25)) (.int .i64 ai) (.int .i64 aK) 27).kn (kn.out.step (bal ((w).alloc (.cells #[.slice A n c, .slice B m d] 25)) (.cells #[.int .i64 ai, .int .i64 aK] 27))))
  replace kn := Aside0.mk (Kn.cons (Bx.new (((w).alloc (.cells #[.slice A n c, .slice B m d] 25)).alloc (.cells #[.int .i64 ai, .int .i64 aK] 27)) (.int .i64 bi) (.int .i64 bK) 27).kn (kn.out.step (bal (((w).alloc (.cells #[.slice A n c, .slice B m d] 25)).alloc (.cells #[.int .i64 ai, .int .i64 aK] 27)) (.cells #[.int .i64 bi, .int .i64 bK] 27))))
  simp only [World.size_alloc] at kn
  generalize (((w).alloc (.cells #[.slice A n c, .slice B m d] 25)).alloc (.cells #[.int .i64 ai, .int .i64 aK] 27)).alloc (.cells #[.int .i64 bi, .int .i64 bK] 27) = W0 at kn ⊢
  generalize w.heap.size + 1 + 1 = bq at kn ⊢
  generalize w.heap.size + 1 = bp at kn ⊢
  generalize hz : w.heap.size = bl at kn ⊢
  clear hz
  have yl0 := kn.out.here.2.2.1.k0
  have yl1 := kn.out.here.2.2.1.k1
  go_upto_region 3 with (first | (go_at_call 10; (with_reducible refine (fine_lv (kn.out.here.2.2.2.1)).mono ?_); rintro e wf ⟨rfl, hb⟩; have kf := Aside0.mk (kn.out.step hb); clear hb kn) | (go_at_call 11; (with_reducible refine (shown_is _).mono ?_); rintro e wg ⟨rfl, hb⟩; have kn := Aside0.mk (kf.out.step hb); clear hb kf))
  clear yl0 yl1
  have yl0 := kn.out.here.2.2.1.k0
  have yl1 := kn.out.here.2.2.1.k1
  have yp0 := kn.out.here.2.1.k0
  have yp1 := kn.out.here.2.1.k1
  go_upto_region 4 with (first | (go_at_call 13; (with_reducible refine (reserve_is n m A c B d L t ai aK S _ ⟨kn.out.here.2.2.2.1⟩ ha0 LX i1 0 h1.out).mono ?_); rintro e w1 ⟨S1, A1, c1, B1, d1, rfl, hl, hS, hb⟩; replace hb := Aside0.mk hb; replace hl := Aside0.mk hl))
  clear yl0 yl1 yp0 yp1
  replace kn := Aside0.mk (Kn.cons (Bx.new w1 (.slice A1 n c1) (.slice B1 m d1) 25).kn (Kn.cons (hl.out.below (bal w1 (.cells #[.slice A1 n c1, .slice B1 m d1] 25))).kn (kn.out.step (hb.out.alloc hb.out.size (.cells #[.slice A1 n c1, .slice B1 m d1] 25)))))
  clear hb hl
  generalize w1.alloc (.cells #[.slice A1 n c1, .slice B1 m d1] 25) = W1 at kn ⊢
  generalize w1.heap.size = b1 at kn ⊢
  have y10 := kn.out.here.1.k0
  have y11 := kn.out.here.1.k1
  have yq0 := kn.out.here.2.2.1.k0
  have yq1 := kn.out.here.2.2.1.k1
  go_upto_region 5 with (first | (go_at_call 13; (with_reducible refine (reserve_is n m A1 c1 B1 d1 LX t bi bK S1 _ ⟨kn.out.here.2.1⟩ hb0 LY j1 f1 h2.out).mono ?_); rintro e w2 ⟨S2, A2, c2, B2, d2, rfl, hl, hS, hb⟩; replace hb := Aside0.mk hb; replace hl := Aside0.mk hl))
  clear y10 y11 yq0 yq1
  replace kn := Aside0.mk (Kn.cons (Bx.new w2 (.slice A2 n c2) (.slice B2 m d2) 25).kn (Kn.cons (hl.out.below (bal w2 (.cells #[.slice A2 n c2, .slice B2 m d2] 25))).kn (kn.out.step (hb.out.alloc hb.out.size (.cells #[.slice A2 n c2, .slice B2 m d2] 25)))))
  clear hb hl
  generalize w2.alloc (.cells #[.slice A2 n c2, .slice B2 m d2] 25) = W2 at kn ⊢
  generalize w2.heap.size = b2 at kn ⊢
  have yl0 := kn.out.here.2.2.2.2.2.2.1.k0
  have yl1 := kn.out.here.2.2.2.2.2.2.1.k1
  have yp0 := kn.out.here.2.2.2.2.2.1.k0
  have yp1 := kn.out.here.2.2.2.2.2.1.k1
  have yq0 := kn.out.here.2.2.2.2.1.k0
  have yq1 := kn.out.here.2.2.2.2.1.k1
  go_upto_region 6 with (first | (go_at_call 22; (with_reducible refine (both_is n m A c B d L t ai aK bi bK S _ ⟨kn.out.here.2.2.2.2.2.2.2.1⟩ ha0 hb0 L 0 f1 h3.out).mono ?_); rintro e w3 ⟨S3, A3, c3, B3, d3, rfl, hl, hS, hb⟩; replace hb := Aside0.mk hb; replace hl := Aside0.mk hl))
  clear yl0 yl1 yp0 yp1 yq0 yq1
  replace kn := Aside0.mk (Kn.cons (Bx.new w3 (.slice A3 n c3) (.slice B3 m d3) 25).kn (Kn.cons (hl.out.below (bal w3 (.cells #[.slice A3 n c3, .slice B3 m d3] 25))).kn (kn.out.step (hb.out.alloc hb.out.size (.cells #[.slice A3 n c3, .slice B3 m d3] 25)))))
  clear hb hl
  generalize w3.alloc (.cells #[.slice A3 n c3, .slice B3 m d3] 25) = W3 at kn ⊢
  generalize w3.heap.size = b3 at kn ⊢
  go_upto_region 9 with (fail)
  have kd := Aside0.mk (kn.out.step (below_drew1 (Below.refl W3.heap.size W3)))
  clear kn
  refine start_ (n := 15) (S := fun w' => w'.cell? ⟨b3, 0, none⟩ = some (.slice A3 n c3) ∧ w'.cell? ⟨b3, 1, none⟩ = some (.slice B3 m d3) ∧ w'.cell? ⟨bl, 0, none⟩ = some (.slice A n c) ∧ w'.cell? ⟨bl, 1, none⟩ = some (.slice B m d) ∧ Aside0 (Kn (fun W => Bx b3 (.slice A3 n c3) (.slice B3 m d3) W ∧ LV S3 n m A3 c3 B3 d3 L W ∧ Bx b2 (.slice A2 n c2) (.slice B2 m d2) W ∧ LV S2 n m A2 c2 B2 d2 LY W ∧ Bx b1 (.slice A1 n c1) (.slice B1 m d1) W ∧ LV S1 n m A1 c1 B1 d1 LX W ∧ Bx bq (.int .i64 bi) (.int .i64 bK) W ∧ Bx bp (.int .i64 ai) (.int .i64 aK) W ∧ Bx bl (.slice A n c) (.slice B m d) W ∧ LV S n m A c B d L W ∧ Tb w W) w')) (ds := []) #[false, false, false, false, false, false, false, false, false, false, false, false, false, false, false] (by kernel_rfl) rfl rfl ⟨kd.out.here.1.k0, kd.out.here.1.k1, kd.out.here.2.2.2.2.2.2.2.2.1.k0, kd.out.here.2.2.2.2.2.2.2.2.1.k1, kd⟩ (fun hHeld => ?_)
  generalize W3.drew = V3 at kd hHeld ⊢
  refine pure_ (i := 0) (N := some 69) (v := ?_) (a' := ?_) #[true, false, false, false, false, false, false, false, false, false, false, false, false, false, false] rfl rfl (by kernel_rfl) (fun _ _ _ h => h) (Or.inl ⟨by rfl, ?_⟩) ?_ ?_
  rotate_left
  · intro w'
    go_simp
    with_reducible rfl
  rotate_left
  · simp only [Act.put, List.setIfInBounds_toArray, List.set_cons_zero, List.set_cons_succ, i64_w, i32_w]
    rfl
  refine pure_ (i := 1) (N := some 70) (v := ?_) (a' := ?_) #[true, true, false, false, false, false, false, false, false, false, false, false, false, false, false] rfl rfl (by kernel_rfl) (fun _ _ _ h => h) (Or.inl ⟨by rfl, ?_⟩) ?_ ?_
  rotate_left
  · intro w'
    go_simp
    with_reducible rfl
  rotate_left
  · simp only [Act.put, List.setIfInBounds_toArray, List.set_cons_zero, List.set_cons_succ, i64_w, i32_w]
    rfl
  refine pure_ (i := 2) (N := some 71) (v := ?_) (a' := ?_) #[true, true, true, false, false, false, false, false, false, false, false, false, false, false, false] rfl rfl (by kernel_rfl) (fun _ _ _ h => h) (Or.inl ⟨by rfl, ?_⟩) ?_ ?_
  rotate_left
  · intro w'
    go_simp
    with_reducible rfl
  rotate_left
  · simp only [Act.put, List.setIfInBounds_toArray, List.set_cons_zero, List.set_cons_succ, i64_w, i32_w]
    rfl
  refine pure_ (i := 3) (N := some 72) (v := ?_) (a' := ?_) #[true, true, true, true, false, false, false, false, false, false, false, false, false, false, false] rfl rfl (by kernel_rfl) (fun _ _ _ h => h) (Or.inl ⟨by rfl, ?_⟩) ?_ ?_
  rotate_left
  · intro w'
    go_simp
    with_reducible rfl
  rotate_left
  · simp only [Act.put, List.setIfInBounds_toArray, List.set_cons_zero, List.set_cons_succ, i64_w, i32_w]
    rfl
  refine pure_ (i := 4) (N := some 73) (v := ?_) (a' := ?_) #[true, true, true, true, true, false, false, false, false, false, false, false, false, false, false] rfl rfl (by kernel_rfl) (fun _ _ _ h => h) (Or.inl ⟨by rfl, ?_⟩) ?_ ?_
  rotate_left
  · intro w'
    go_simp
    with_reducible rfl
  rotate_left
  · simp only [Act.put, List.setIfInBounds_toArray, List.set_cons_zero, List.set_cons_succ, i64_w, i32_w]
    rfl
  refine pure_ (i := 5) (N := some 74) (v := ?_) (a' := ?_) #[true, true, true, true, true, true, false, false, false, false, false, false, false, false, false] rfl rfl (by kernel_rfl) (fun _ _ _ h => h) (Or.inl ⟨by rfl, ?_⟩) ?_ ?_
  rotate_left
  · intro w'
    go_simp
    with_reducible rfl
  rotate_left
  · simp only [Act.put, List.setIfInBounds_toArray, List.set_cons_zero, List.set_cons_succ, i64_w, i32_w]
    rfl
  refine pure_ (i := 6) (N := some 75) (v := ?_) (a' := ?_) #[true, true, true, true, true, true, true, false, false, false, false, false, false, false, false] rfl rfl (by kernel_rfl) (fun _ _ _ h => h) (Or.inl ⟨by rfl, ?_⟩) ?_ ?_
  rotate_left
  · intro w'
    go_simp
    with_reducible rfl
  rotate_left
  · simp only [Act.put, List.setIfInBounds_toArray, List.set_cons_zero, List.set_cons_succ, i64_w, i32_w]
    rfl
  refine pure_ (i := 7) (N := some 76) (v := ?_) (a' := ?_) #[true, true, true, true, true, true, true, true, false, false, false, false, false, false, false] rfl rfl (by kernel_rfl) (fun _ _ _ h => h) (Or.inl ⟨by rfl, ?_⟩) ?_ ?_
  rotate_left
  · intro w'
    go_simp
    with_reducible rfl
  rotate_left
  · simp only [Act.put, List.setIfInBounds_toArray, List.set_cons_zero, List.set_cons_succ, i64_w, i32_w]
    rfl
  refine take_ (i := 8) (N := some 77) (v := ?_) (a' := ?_) #[true, true, true, true, true, true, true, true, true, false, false, false, false, false, false] rfl rfl (by kernel_rfl) (fun _ _ _ h => h) (Or.inl ⟨by rfl, ?_⟩) hHeld ?_ ?_
  rotate_left
  · rintro w' ⟨s0, s1, s2, s3, s4⟩
    go_simp
    with_reducible rfl
  rotate_left
  · simp only [Act.put, List.setIfInBounds_toArray, List.set_cons_zero, List.set_cons_succ, i64_w, i32_w]
    rfl
  refine take_ (i := 10) (N := some 79) (v := ?_) (a' := ?_) #[true, true, true, true, true, true, true, true, true, false, true, false, false, false, false] rfl rfl (by kernel_rfl) (fun _ _ _ h => h) (Or.inl ⟨by rfl, ?_⟩) hHeld ?_ ?_
  rotate_left
  · rintro w' ⟨s0, s1, s2, s3, s4⟩
    go_simp
    with_reducible rfl
  rotate_left
  · simp only [Act.put, List.setIfInBounds_toArray, List.set_cons_zero, List.set_cons_succ, i64_w, i32_w]
    rfl
  refine one_ (i := 9) (N := some 78) #[true, true, true, true, true, true, true, true, true, true, true, false, false, false, false] rfl rfl (by kernel_rfl) (by decide) (fun K hK => ?_)
  refine goes_ Try.func12 (by kernel_rfl) rfl #[.agg #[.slice A3 n c3, .slice B3 m d3]] (by rfl) rfl rfl (by simp only [List.map_toArray, List.map_cons, List.map_nil]; rfl) ?_
  with_reducible refine (its_is A3 n c3 B3 m d3 _).mono ?_
  rintro e x9 ⟨rfl, hb⟩
  refine ⟨_, rfl, ?_⟩
  have kz := Aside0.mk (hHeld.2.2.2.2.out.step hb)
  clear hHeld hb
  refine hK.out _ _ ⟨kz.out.here.1.k0, kz.out.here.1.k1, kz.out.here.2.2.2.2.2.2.2.2.1.k0, kz.out.here.2.2.2.2.2.2.2.2.1.k1, kz⟩ (fun hHeld => ?_)
  clear hK K
  refine norm_ (a' := ?_) ?_ ?_
  rotate_left
  · show Act.put _ (some 78) _ = _
    simp only [Act.put, List.setIfInBounds_toArray, List.set_cons_zero, List.set_cons_succ, i64_w, i32_w]
    rfl
  refine one_ (i := 11) (N := some 80) #[true, true, true, true, true, true, true, true, true, true, true, true, false, false, false] rfl rfl (by kernel_rfl) (by decide) (fun K hK => ?_)
  refine goes_ Try.func12 (by kernel_rfl) rfl #[.agg #[.slice A n c, .slice B m d]] (by rfl) rfl rfl (by simp only [List.map_toArray, List.map_cons, List.map_nil]; rfl) ?_
  with_reducible refine (its_is A n c B m d _).mono ?_
  rintro e x11 ⟨rfl, hb⟩
  refine ⟨_, rfl, ?_⟩
  have kz := Aside0.mk (hHeld.2.2.2.2.out.step hb)
  clear hHeld hb
  refine hK.out _ _ ⟨kz.out.here.1.k0, kz.out.here.1.k1, kz.out.here.2.2.2.2.2.2.2.2.1.k0, kz.out.here.2.2.2.2.2.2.2.2.1.k1, kz⟩ (fun hHeld => ?_)
  clear hK K
  refine norm_ (a' := ?_) ?_ ?_
  rotate_left
  · show Act.put _ (some 80) _ = _
    simp only [Act.put, List.setIfInBounds_toArray, List.set_cons_zero, List.set_cons_succ, i64_w, i32_w]
    rfl
  refine one_ (i := 12) (N := some 81) #[true, true, true, true, true, true, true, true, true, true, true, true, true, false, false] rfl rfl (by kernel_rfl) (by decide) (fun K hK => ?_)
  refine goes_ Try.func19 (by kernel_rfl) rfl #[.agg #[.slice A3 n c3, .slice B3 m d3], .agg #[.slice A n c, .slice B m d]] (by rfl) rfl rfl (by simp only [List.map_toArray, List.map_cons, List.map_nil]; rfl) ?_
  with_reducible refine (same_is n m A3 c3 B3 d3 A c B d L S3 S _ (hHeld.2.2.2.2).out.here.2.1 (hHeld.2.2.2.2).out.here.2.2.2.2.2.2.2.2.2.1).mono ?_
  rintro e x12 ⟨rfl, hb⟩
  refine ⟨_, rfl, ?_⟩
  have kz := Aside0.mk (hHeld.2.2.2.2.out.step hb)
  clear hHeld hb
  refine hK.out _ _ ⟨kz.out.here.1.k0, kz.out.here.1.k1, kz.out.here.2.2.2.2.2.2.2.2.1.k0, kz.out.here.2.2.2.2.2.2.2.2.1.k1, kz⟩ (fun hHeld => ?_)
  clear hK K
  refine norm_ (a' := ?_) ?_ ?_
  rotate_left
  · show Act.put _ (some 81) _ = _
    simp only [Act.put, List.setIfInBounds_toArray, List.set_cons_zero, List.set_cons_succ, i64_w, i32_w]
    rfl
  refine pure_ (i := 13) (N := some 82) (v := ?_) (a' := ?_) #[true, true, true, true, true, true, true, true, true, true, true, true, true, true, false] rfl rfl (by kernel_rfl) (fun _ _ _ h => h) (Or.inl ⟨by rfl, ?_⟩) ?_ ?_
  rotate_left
  · intro w'
    go_simp
    with_reducible rfl
  rotate_left
  · simp only [Act.put, List.setIfInBounds_toArray, List.set_cons_zero, List.set_cons_succ, i64_w, i32_w]
    rfl
  refine pure_ (i := 14) (N := some 8) (v := ?_) (a' := ?_) #[true, true, true, true, true, true, true, true, true, true, true, true, true, true, true] rfl rfl (by kernel_rfl) (fun _ _ _ h => h) (Or.inl ⟨by rfl, ?_⟩) ?_ ?_
  rotate_left
  · intro w'
    go_simp
    with_reducible rfl
  rotate_left
  · simp only [Act.put, List.setIfInBounds_toArray, List.set_cons_zero, List.set_cons_succ, i64_w, i32_w]
    rfl
  refine done_ (by kernel_rfl) ?_
  have kn := hHeld.2.2.2.2
  clear hHeld kd kz
  go_wp2
  go_ret
  exact ⟨rfl, kn.out.here.2.2.2.2.2.2.2.2.2.2⟩
set_option maxHeartbeats 8000000 in
set_option maxRecDepth 100000 in
theorem both_lawC (n m : Nat) (A : Option Addr) (c : Nat) (B : Option Addr) (d : Nat) (L : LG) (t ai aK bi bK : Int) (S : Nat → Prop) (w : World) (h : Aside0 (LV S n m A c B d L w)) (ha0 : Aside0 (-9223372036854775808 ≤ aK ∧ aK ≤ 9223372036854775807)) (hb0 : Aside0 (-9223372036854775808 ≤ bK ∧ bK ≤ 9223372036854775807)) (LX LY : LG) (hk : aK > 0) (hk2 : bK > 0) (hkb : decide (aK > 0) = true) (hkb2 : decide (bK > 0) = true) (hw : wrap64 (aK + bK) = aK + bK) (h1 : Aside0 (resS n m L t ai aK = (LX, aK, 0))) (h2 : Aside0 (resS n m LX t bi bK = (LY, bK, 0))) (h3 : Aside0 (Hid (bothS n m L t ai aK bi bK = (LY, (aK + bK), 0)))) :
    Calls Try.prog 7 #[.agg #[.slice A n c, .slice B m d], .int .i64 t, .agg #[.int .i64 ai, .int .i64 aK], .agg #[.int .i64 bi, .int .i64 bK]] w fun e w' => e = .returned (.bool true) ∧ Below w.heap.size w w' := by
  go_enter Try.func7, Try.ntmps7
  go_upto_region 1 with (fail)
  have kn := Aside0.mk (Kn.cons h.out.kn (tb_kn (Below.refl w.heap.size w)))
  replace kn := Aside0.mk (Kn.cons (Bx.new (w) (.slice A n c) (.slice B m d) 25).kn (kn.out.step (bal (w) (.cells #[.slice A n c, .slice B m d] 25))))
  replace kn := Aside0.mk (Kn.cons (Bx.new ((w).alloc (.cells #[.slice A n c, .slice B m d] 25)) (.int .i64 ai) (.int .i64 aK) 27).kn (kn.out.step (bal ((w).alloc (.cells #[.slice A n c, .slice B m d] 25)) (.cells #[.int .i64 ai, .int .i64 aK] 27))))
  replace kn := Aside0.mk (Kn.cons (Bx.new (((w).alloc (.cells #[.slice A n c, .slice B m d] 25)).alloc (.cells #[.int .i64 ai, .int .i64 aK] 27)) (.int .i64 bi) (.int .i64 bK) 27).kn (kn.out.step (bal (((w).alloc (.cells #[.slice A n c, .slice B m d] 25)).alloc (.cells #[.int .i64 ai, .int .i64 aK] 27)) (.cells #[.int .i64 bi, .int .i64 bK] 27))))
  simp only [World.size_alloc] at kn
  generalize (((w).alloc (.cells #[.slice A n c, .slice B m d] 25)).alloc (.cells #[.int .i64 ai, .int .i64 aK] 27)).alloc (.cells #[.int .i64 bi, .int .i64 bK] 27) = W0 at kn ⊢
  generalize w.heap.size + 1 + 1 = bq at kn ⊢
  generalize w.heap.size + 1 = bp at kn ⊢
  generalize hz : w.heap.size = bl at kn ⊢
  clear hz
  have yl0 := kn.out.here.2.2.1.k0
  have yl1 := kn.out.here.2.2.1.k1
  go_upto_region 3 with (first | (go_at_call 10; (with_reducible refine (fine_lv (kn.out.here.2.2.2.1)).mono ?_); rintro e wf ⟨rfl, hb⟩; have kf := Aside0.mk (kn.out.step hb); clear hb kn) | (go_at_call 11; (with_reducible refine (shown_is _).mono ?_); rintro e wg ⟨rfl, hb⟩; have kn := Aside0.mk (kf.out.step hb); clear hb kf))
  clear yl0 yl1
  have yl0 := kn.out.here.2.2.1.k0
  have yl1 := kn.out.here.2.2.1.k1
  have yp0 := kn.out.here.2.1.k0
  have yp1 := kn.out.here.2.1.k1
  go_upto_region 4 with (first | (go_at_call 13; (with_reducible refine (reserve_is n m A c B d L t ai aK S _ ⟨kn.out.here.2.2.2.1⟩ ha0 LX aK 0 h1.out).mono ?_); rintro e w1 ⟨S1, A1, c1, B1, d1, rfl, hl, hS, hb⟩; replace hb := Aside0.mk hb; replace hl := Aside0.mk hl))
  clear yl0 yl1 yp0 yp1
  replace kn := Aside0.mk (Kn.cons (Bx.new w1 (.slice A1 n c1) (.slice B1 m d1) 25).kn (Kn.cons (hl.out.below (bal w1 (.cells #[.slice A1 n c1, .slice B1 m d1] 25))).kn (kn.out.step (hb.out.alloc hb.out.size (.cells #[.slice A1 n c1, .slice B1 m d1] 25)))))
  clear hb hl
  generalize w1.alloc (.cells #[.slice A1 n c1, .slice B1 m d1] 25) = W1 at kn ⊢
  generalize w1.heap.size = b1 at kn ⊢
  have y10 := kn.out.here.1.k0
  have y11 := kn.out.here.1.k1
  have yq0 := kn.out.here.2.2.1.k0
  have yq1 := kn.out.here.2.2.1.k1
  go_upto_region 5 with (first | (go_at_call 13; (with_reducible refine (reserve_is n m A1 c1 B1 d1 LX t bi bK S1 _ ⟨kn.out.here.2.1⟩ hb0 LY bK 0 h2.out).mono ?_); rintro e w2 ⟨S2, A2, c2, B2, d2, rfl, hl, hS, hb⟩; replace hb := Aside0.mk hb; replace hl := Aside0.mk hl))
  clear y10 y11 yq0 yq1
  replace kn := Aside0.mk (Kn.cons (Bx.new w2 (.slice A2 n c2) (.slice B2 m d2) 25).kn (Kn.cons (hl.out.below (bal w2 (.cells #[.slice A2 n c2, .slice B2 m d2] 25))).kn (kn.out.step (hb.out.alloc hb.out.size (.cells #[.slice A2 n c2, .slice B2 m d2] 25)))))
  clear hb hl
  generalize w2.alloc (.cells #[.slice A2 n c2, .slice B2 m d2] 25) = W2 at kn ⊢
  generalize w2.heap.size = b2 at kn ⊢
  have yl0 := kn.out.here.2.2.2.2.2.2.1.k0
  have yl1 := kn.out.here.2.2.2.2.2.2.1.k1
  have yp0 := kn.out.here.2.2.2.2.2.1.k0
  have yp1 := kn.out.here.2.2.2.2.2.1.k1
  have yq0 := kn.out.here.2.2.2.2.1.k0
  have yq1 := kn.out.here.2.2.2.2.1.k1
  go_upto_region 6 with (first | (go_at_call 22; (with_reducible refine (both_is n m A c B d L t ai aK bi bK S _ ⟨kn.out.here.2.2.2.2.2.2.2.1⟩ ha0 hb0 LY (aK + bK) 0 h3.out).mono ?_); rintro e w3 ⟨S3, A3, c3, B3, d3, rfl, hl, hS, hb⟩; replace hb := Aside0.mk hb; replace hl := Aside0.mk hl))
  clear yl0 yl1 yp0 yp1 yq0 yq1
  replace kn := Aside0.mk (Kn.cons (Bx.new w3 (.slice A3 n c3) (.slice B3 m d3) 25).kn (Kn.cons (hl.out.below (bal w3 (.cells #[.slice A3 n c3, .slice B3 m d3] 25))).kn (kn.out.step (hb.out.alloc hb.out.size (.cells #[.slice A3 n c3, .slice B3 m d3] 25)))))
  clear hb hl
  generalize w3.alloc (.cells #[.slice A3 n c3, .slice B3 m d3] 25) = W3 at kn ⊢
  generalize w3.heap.size = b3 at kn ⊢
  go_upto_region 11 with (fail)
  have kd := Aside0.mk (kn.out.step (below_drew1 (Below.refl W3.heap.size W3)))
  clear kn
  refine start_ (n := 19) (S := fun w' => w'.cell? ⟨b3, 0, none⟩ = some (.slice A3 n c3) ∧ w'.cell? ⟨b3, 1, none⟩ = some (.slice B3 m d3) ∧ w'.cell? ⟨b2, 0, none⟩ = some (.slice A2 n c2) ∧ w'.cell? ⟨b2, 1, none⟩ = some (.slice B2 m d2) ∧ w'.cell? ⟨bp, 0, none⟩ = some (.int .i64 ai) ∧ w'.cell? ⟨bp, 1, none⟩ = some (.int .i64 aK) ∧ w'.cell? ⟨bq, 0, none⟩ = some (.int .i64 bi) ∧ w'.cell? ⟨bq, 1, none⟩ = some (.int .i64 bK) ∧ Aside0 (Kn (fun W => Bx b3 (.slice A3 n c3) (.slice B3 m d3) W ∧ LV S3 n m A3 c3 B3 d3 LY W ∧ Bx b2 (.slice A2 n c2) (.slice B2 m d2) W ∧ LV S2 n m A2 c2 B2 d2 LY W ∧ Bx b1 (.slice A1 n c1) (.slice B1 m d1) W ∧ LV S1 n m A1 c1 B1 d1 LX W ∧ Bx bq (.int .i64 bi) (.int .i64 bK) W ∧ Bx bp (.int .i64 ai) (.int .i64 aK) W ∧ Bx bl (.slice A n c) (.slice B m d) W ∧ LV S n m A c B d L W ∧ Tb w W) w')) (ds := []) #[false, false, false, false, false, false, false, false, false, false, false, false, false, false, false, false, false, false, false] (by kernel_rfl) rfl rfl ⟨kd.out.here.1.k0, kd.out.here.1.k1, kd.out.here.2.2.1.k0, kd.out.here.2.2.1.k1, kd.out.here.2.2.2.2.2.2.2.1.k0, kd.out.here.2.2.2.2.2.2.2.1.k1, kd.out.here.2.2.2.2.2.2.1.k0, kd.out.here.2.2.2.2.2.2.1.k1, kd⟩ (fun hHeld => ?_)
  generalize W3.drew = V3 at kd hHeld ⊢
  refine pure_ (i := 0) (N := some 89) (v := ?_) (a' := ?_) #[true, false, false, false, false, false, false, false, false, false, false, false, false, false, false, false, false, false, false] rfl rfl (by kernel_rfl) (fun _ _ _ h => h) (Or.inl ⟨by rfl, ?_⟩) ?_ ?_
  rotate_left
  · intro w'
    go_simp
    with_reducible rfl
  rotate_left
  · simp only [Act.put, List.setIfInBounds_toArray, List.set_cons_zero, List.set_cons_succ, i64_w, i32_w]
    rfl
  refine pure_ (i := 1) (N := some 90) (v := ?_) (a' := ?_) #[true, true, false, false, false, false, false, false, false, false, false, false, false, false, false, false, false, false, false] rfl rfl (by kernel_rfl) (fun _ _ _ h => h) (Or.inl ⟨by rfl, ?_⟩) ?_ ?_
  rotate_left
  · intro w'
    go_simp
    with_reducible rfl
  rotate_left
  · simp only [Act.put, List.setIfInBounds_toArray, List.set_cons_zero, List.set_cons_succ, i64_w, i32_w]
    rfl
  refine pure_ (i := 2) (N := some 91) (v := ?_) (a' := ?_) #[true, true, true, false, false, false, false, false, false, false, false, false, false, false, false, false, false, false, false] rfl rfl (by kernel_rfl) (fun _ _ _ h => h) (Or.inl ⟨by rfl, ?_⟩) ?_ ?_
  rotate_left
  · intro w'
    go_simp
    with_reducible rfl
  rotate_left
  · simp only [Act.put, List.setIfInBounds_toArray, List.set_cons_zero, List.set_cons_succ, i64_w, i32_w]
    rfl
  refine pure_ (i := 3) (N := some 92) (v := ?_) (a' := ?_) #[true, true, true, true, false, false, false, false, false, false, false, false, false, false, false, false, false, false, false] rfl rfl (by kernel_rfl) (fun _ _ _ h => h) (Or.inl ⟨by rfl, ?_⟩) ?_ ?_
  rotate_left
  · intro w'
    go_simp
    with_reducible rfl
  rotate_left
  · simp only [Act.put, List.setIfInBounds_toArray, List.set_cons_zero, List.set_cons_succ, i64_w, i32_w]
    rfl
  refine pure_ (i := 4) (N := some 93) (v := ?_) (a' := ?_) #[true, true, true, true, true, false, false, false, false, false, false, false, false, false, false, false, false, false, false] rfl rfl (by kernel_rfl) (fun _ _ _ h => h) (Or.inl ⟨by rfl, ?_⟩) ?_ ?_
  rotate_left
  · intro w'
    go_simp
    with_reducible rfl
  rotate_left
  · simp only [Act.put, List.setIfInBounds_toArray, List.set_cons_zero, List.set_cons_succ, i64_w, i32_w]
    rfl
  refine pure_ (i := 6) (N := some 95) (v := ?_) (a' := ?_) #[true, true, true, true, true, false, true, false, false, false, false, false, false, false, false, false, false, false, false] rfl rfl (by kernel_rfl) (fun _ _ _ h => h) (Or.inl ⟨by rfl, ?_⟩) ?_ ?_
  rotate_left
  · intro w'
    go_simp
    with_reducible rfl
  rotate_left
  · simp only [Act.put, List.setIfInBounds_toArray, List.set_cons_zero, List.set_cons_succ, i64_w, i32_w]
    rfl
  refine take_ (i := 5) (N := some 94) (v := ?_) (a' := ?_) #[true, true, true, true, true, true, true, false, false, false, false, false, false, false, false, false, false, false, false] rfl rfl (by kernel_rfl) (fun _ _ _ h => h) (Or.inl ⟨by rfl, ?_⟩) hHeld ?_ ?_
  rotate_left
  · rintro w' ⟨s0, s1, s2, s3, s4, s5, s6, s7, s8⟩
    go_simp
    with_reducible rfl
  rotate_left
  · simp only [Act.put, List.setIfInBounds_toArray, List.set_cons_zero, List.set_cons_succ, i64_w, i32_w]
    rfl
  refine take_ (i := 7) (N := some 96) (v := ?_) (a' := ?_) #[true, true, true, true, true, true, true, true, false, false, false, false, false, false, false, false, false, false, false] rfl rfl (by kernel_rfl) (fun _ _ _ h => h) (Or.inl ⟨by rfl, ?_⟩) hHeld ?_ ?_
  rotate_left
  · rintro w' ⟨s0, s1, s2, s3, s4, s5, s6, s7, s8⟩
    go_simp
    with_reducible rfl
  rotate_left
  · simp only [Act.put, List.setIfInBounds_toArray, List.set_cons_zero, List.set_cons_succ, i64_w, i32_w]
    rfl
  refine pure_ (i := 8) (N := some 97) (v := ?_) (a' := ?_) #[true, true, true, true, true, true, true, true, true, false, false, false, false, false, false, false, false, false, false] rfl rfl (by kernel_rfl) (fun _ _ _ h => h) (Or.inl ⟨by rfl, ?_⟩) ?_ ?_
  rotate_left
  · intro w'
    go_simp
    with_reducible rfl
  rotate_left
  · simp only [Act.put, List.setIfInBounds_toArray, List.set_cons_zero, List.set_cons_succ, i64_w, i32_w]
    rfl
  refine pure_ (i := 9) (N := some 98) (v := ?_) (a' := ?_) #[true, true, true, true, true, true, true, true, true, true, false, false, false, false, false, false, false, false, false] rfl rfl (by kernel_rfl) (fun _ _ _ h => h) (Or.inl ⟨by rfl, ?_⟩) ?_ ?_
  rotate_left
  · intro w'
    go_simp
    with_reducible rfl
  rotate_left
  · simp only [Act.put, List.setIfInBounds_toArray, List.set_cons_zero, List.set_cons_succ, i64_w, i32_w]
    rfl
  refine pure_ (i := 10) (N := some 99) (v := ?_) (a' := ?_) #[true, true, true, true, true, true, true, true, true, true, true, false, false, false, false, false, false, false, false] rfl rfl (by kernel_rfl) (fun _ _ _ h => h) (Or.inl ⟨by rfl, ?_⟩) ?_ ?_
  rotate_left
  · intro w'
    go_simp
    with_reducible rfl
  rotate_left
  · simp only [Act.put, List.setIfInBounds_toArray, List.set_cons_zero, List.set_cons_succ, i64_w, i32_w]
    rfl
  refine pure_ (i := 11) (N := some 100) (v := ?_) (a' := ?_) #[true, true, true, true, true, true, true, true, true, true, true, true, false, false, false, false, false, false, false] rfl rfl (by kernel_rfl) (fun _ _ _ h => h) (Or.inl ⟨by rfl, ?_⟩) ?_ ?_
  rotate_left
  · intro w'
    go_simp
    with_reducible rfl
  rotate_left
  · simp only [Act.put, List.setIfInBounds_toArray, List.set_cons_zero, List.set_cons_succ, i64_w, i32_w]
    rfl
  refine take_ (i := 12) (N := some 101) (v := ?_) (a' := ?_) #[true, true, true, true, true, true, true, true, true, true, true, true, true, false, false, false, false, false, false] rfl rfl (by kernel_rfl) (fun _ _ _ h => h) (Or.inl ⟨by rfl, ?_⟩) hHeld ?_ ?_
  rotate_left
  · rintro w' ⟨s0, s1, s2, s3, s4, s5, s6, s7, s8⟩
    go_simp
    with_reducible rfl
  rotate_left
  · simp only [Act.put, List.setIfInBounds_toArray, List.set_cons_zero, List.set_cons_succ, i64_w, i32_w]
    rfl
  refine take_ (i := 14) (N := some 103) (v := ?_) (a' := ?_) #[true, true, true, true, true, true, true, true, true, true, true, true, true, false, true, false, false, false, false] rfl rfl (by kernel_rfl) (fun _ _ _ h => h) (Or.inl ⟨by rfl, ?_⟩) hHeld ?_ ?_
  rotate_left
  · rintro w' ⟨s0, s1, s2, s3, s4, s5, s6, s7, s8⟩
    go_simp
    with_reducible rfl
  rotate_left
  · simp only [Act.put, List.setIfInBounds_toArray, List.set_cons_zero, List.set_cons_succ, i64_w, i32_w]
    rfl
  refine one_ (i := 13) (N := some 102) #[true, true, true, true, true, true, true, true, true, true, true, true, true, true, true, false, false, false, false] rfl rfl (by kernel_rfl) (by decide) (fun K hK => ?_)
  refine goes_ Try.func12 (by kernel_rfl) rfl #[.agg #[.slice A3 n c3, .slice B3 m d3]] (by rfl) rfl rfl (by simp only [List.map_toArray, List.map_cons, List.map_nil]; rfl) ?_
  with_reducible refine (its_is A3 n c3 B3 m d3 _).mono ?_
  rintro e x13 ⟨rfl, hb⟩
  refine ⟨_, rfl, ?_⟩
  have kz := Aside0.mk (hHeld.2.2.2.2.2.2.2.2.out.step hb)
  clear hHeld hb
  refine hK.out _ _ ⟨kz.out.here.1.k0, kz.out.here.1.k1, kz.out.here.2.2.1.k0, kz.out.here.2.2.1.k1, kz.out.here.2.2.2.2.2.2.2.1.k0, kz.out.here.2.2.2.2.2.2.2.1.k1, kz.out.here.2.2.2.2.2.2.1.k0, kz.out.here.2.2.2.2.2.2.1.k1, kz⟩ (fun hHeld => ?_)
  clear hK K
  refine norm_ (a' := ?_) ?_ ?_
  rotate_left
  · show Act.put _ (some 102) _ = _
    simp only [Act.put, List.setIfInBounds_toArray, List.set_cons_zero, List.set_cons_succ, i64_w, i32_w]
    rfl
  refine one_ (i := 15) (N := some 104) #[true, true, true, true, true, true, true, true, true, true, true, true, true, true, true, true, false, false, false] rfl rfl (by kernel_rfl) (by decide) (fun K hK => ?_)
  refine goes_ Try.func12 (by kernel_rfl) rfl #[.agg #[.slice A2 n c2, .slice B2 m d2]] (by rfl) rfl rfl (by simp only [List.map_toArray, List.map_cons, List.map_nil]; rfl) ?_
  with_reducible refine (its_is A2 n c2 B2 m d2 _).mono ?_
  rintro e x15 ⟨rfl, hb⟩
  refine ⟨_, rfl, ?_⟩
  have kz := Aside0.mk (hHeld.2.2.2.2.2.2.2.2.out.step hb)
  clear hHeld hb
  refine hK.out _ _ ⟨kz.out.here.1.k0, kz.out.here.1.k1, kz.out.here.2.2.1.k0, kz.out.here.2.2.1.k1, kz.out.here.2.2.2.2.2.2.2.1.k0, kz.out.here.2.2.2.2.2.2.2.1.k1, kz.out.here.2.2.2.2.2.2.1.k0, kz.out.here.2.2.2.2.2.2.1.k1, kz⟩ (fun hHeld => ?_)
  clear hK K
  refine norm_ (a' := ?_) ?_ ?_
  rotate_left
  · show Act.put _ (some 104) _ = _
    simp only [Act.put, List.setIfInBounds_toArray, List.set_cons_zero, List.set_cons_succ, i64_w, i32_w]
    rfl
  refine one_ (i := 16) (N := some 105) #[true, true, true, true, true, true, true, true, true, true, true, true, true, true, true, true, true, false, false] rfl rfl (by kernel_rfl) (by decide) (fun K hK => ?_)
  refine goes_ Try.func19 (by kernel_rfl) rfl #[.agg #[.slice A3 n c3, .slice B3 m d3], .agg #[.slice A2 n c2, .slice B2 m d2]] (by rfl) rfl rfl (by simp only [List.map_toArray, List.map_cons, List.map_nil]; rfl) ?_
  with_reducible refine (same_is n m A3 c3 B3 d3 A2 c2 B2 d2 LY S3 S2 _ (hHeld.2.2.2.2.2.2.2.2).out.here.2.1 (hHeld.2.2.2.2.2.2.2.2).out.here.2.2.2.1).mono ?_
  rintro e x16 ⟨rfl, hb⟩
  refine ⟨_, rfl, ?_⟩
  have kz := Aside0.mk (hHeld.2.2.2.2.2.2.2.2.out.step hb)
  clear hHeld hb
  refine hK.out _ _ ⟨kz.out.here.1.k0, kz.out.here.1.k1, kz.out.here.2.2.1.k0, kz.out.here.2.2.1.k1, kz.out.here.2.2.2.2.2.2.2.1.k0, kz.out.here.2.2.2.2.2.2.2.1.k1, kz.out.here.2.2.2.2.2.2.1.k0, kz.out.here.2.2.2.2.2.2.1.k1, kz⟩ (fun hHeld => ?_)
  clear hK K
  refine norm_ (a' := ?_) ?_ ?_
  rotate_left
  · show Act.put _ (some 105) _ = _
    simp only [Act.put, List.setIfInBounds_toArray, List.set_cons_zero, List.set_cons_succ, i64_w, i32_w]
    rfl
  refine pure_ (i := 17) (N := some 106) (v := ?_) (a' := ?_) #[true, true, true, true, true, true, true, true, true, true, true, true, true, true, true, true, true, true, false] rfl rfl (by kernel_rfl) (fun _ _ _ h => h) (Or.inl ⟨by rfl, ?_⟩) ?_ ?_
  rotate_left
  · intro w'
    go_simp
    with_reducible rfl
  rotate_left
  · simp only [Act.put, List.setIfInBounds_toArray, List.set_cons_zero, List.set_cons_succ, i64_w, i32_w]
    rfl
  refine pure_ (i := 18) (N := some 8) (v := ?_) (a' := ?_) #[true, true, true, true, true, true, true, true, true, true, true, true, true, true, true, true, true, true, true] rfl rfl (by kernel_rfl) (fun _ _ _ h => h) (Or.inl ⟨by rfl, ?_⟩) ?_ ?_
  rotate_left
  · intro w'
    go_simp
    with_reducible rfl
  rotate_left
  · simp only [Act.put, List.setIfInBounds_toArray, List.set_cons_zero, List.set_cons_succ, i64_w, i32_w]
    rfl
  refine done_ (by kernel_rfl) ?_
  have kn := hHeld.2.2.2.2.2.2.2.2
  clear hHeld kd kz
  go_wp2
  go_ret
  exact ⟨rfl, kn.out.here.2.2.2.2.2.2.2.2.2.2⟩
set_option maxHeartbeats 8000000 in
set_option maxRecDepth 100000 in
theorem both_lawD1 (n m : Nat) (A : Option Addr) (c : Nat) (B : Option Addr) (d : Nat) (L : LG) (t ai aK bi bK : Int) (S : Nat → Prop) (w : World) (h : Aside0 (LV S n m A c B d L w)) (ha0 : Aside0 (-9223372036854775808 ≤ aK ∧ aK ≤ 9223372036854775807)) (hb0 : Aside0 (-9223372036854775808 ≤ bK ∧ bK ≤ 9223372036854775807)) (LX LY : LG) (i1 j1 : Int) (hk : ¬ i1 > 0) (hkb : decide (i1 > 0) = false) (h1 : Aside0 (resS n m L t ai aK = (LX, i1, 0))) (h2 : Aside0 (resS n m LX t bi bK = (LY, j1, 0))) (h3 : Aside0 (Hid (bothS n m L t ai aK bi bK = (L, 0, 0)))) :
    Calls Try.prog 7 #[.agg #[.slice A n c, .slice B m d], .int .i64 t, .agg #[.int .i64 ai, .int .i64 aK], .agg #[.int .i64 bi, .int .i64 bK]] w fun e w' => e = .returned (.bool true) ∧ Below w.heap.size w w' := by
  go_enter Try.func7, Try.ntmps7
  go_upto_region 1 with (fail)
  have kn := Aside0.mk (Kn.cons h.out.kn (tb_kn (Below.refl w.heap.size w)))
  replace kn := Aside0.mk (Kn.cons (Bx.new (w) (.slice A n c) (.slice B m d) 25).kn (kn.out.step (bal (w) (.cells #[.slice A n c, .slice B m d] 25))))
  replace kn := Aside0.mk (Kn.cons (Bx.new ((w).alloc (.cells #[.slice A n c, .slice B m d] 25)) (.int .i64 ai) (.int .i64 aK) 27).kn (kn.out.step (bal ((w).alloc (.cells #[.slice A n c, .slice B m d] 25)) (.cells #[.int .i64 ai, .int .i64 aK] 27))))
  replace kn := Aside0.mk (Kn.cons (Bx.new (((w).alloc (.cells #[.slice A n c, .slice B m d] 25)).alloc (.cells #[.int .i64 ai, .int .i64 aK] 27)) (.int .i64 bi) (.int .i64 bK) 27).kn (kn.out.step (bal (((w).alloc (.cells #[.slice A n c, .slice B m d] 25)).alloc (.cells #[.int .i64 ai, .int .i64 aK] 27)) (.cells #[.int .i64 bi, .int .i64 bK] 27))))
  simp only [World.size_alloc] at kn
  generalize (((w).alloc (.cells #[.slice A n c, .slice B m d] 25)).alloc (.cells #[.int .i64 ai, .int .i64 aK] 27)).alloc (.cells #[.int .i64 bi, .int .i64 bK] 27) = W0 at kn ⊢
  generalize w.heap.size + 1 + 1 = bq at kn ⊢
  generalize w.heap.size + 1 = bp at kn ⊢
  generalize hz : w.heap.size = bl at kn ⊢
  clear hz
  have yl0 := kn.out.here.2.2.1.k0
  have yl1 := kn.out.here.2.2.1.k1
  go_upto_region 3 with (first | (go_at_call 10; (with_reducible refine (fine_lv (kn.out.here.2.2.2.1)).mono ?_); rintro e wf ⟨rfl, hb⟩; have kf := Aside0.mk (kn.out.step hb); clear hb kn) | (go_at_call 11; (with_reducible refine (shown_is _).mono ?_); rintro e wg ⟨rfl, hb⟩; have kn := Aside0.mk (kf.out.step hb); clear hb kf))
  clear yl0 yl1
  have yl0 := kn.out.here.2.2.1.k0
  have yl1 := kn.out.here.2.2.1.k1
  have yp0 := kn.out.here.2.1.k0
  have yp1 := kn.out.here.2.1.k1
  go_upto_region 4 with (first | (go_at_call 13; (with_reducible refine (reserve_is n m A c B d L t ai aK S _ ⟨kn.out.here.2.2.2.1⟩ ha0 LX i1 0 h1.out).mono ?_); rintro e w1 ⟨S1, A1, c1, B1, d1, rfl, hl, hS, hb⟩; replace hb := Aside0.mk hb; replace hl := Aside0.mk hl))
  clear yl0 yl1 yp0 yp1
  replace kn := Aside0.mk (Kn.cons (Bx.new w1 (.slice A1 n c1) (.slice B1 m d1) 25).kn (Kn.cons (hl.out.below (bal w1 (.cells #[.slice A1 n c1, .slice B1 m d1] 25))).kn (kn.out.step (hb.out.alloc hb.out.size (.cells #[.slice A1 n c1, .slice B1 m d1] 25)))))
  clear hb hl
  generalize w1.alloc (.cells #[.slice A1 n c1, .slice B1 m d1] 25) = W1 at kn ⊢
  generalize w1.heap.size = b1 at kn ⊢
  have y10 := kn.out.here.1.k0
  have y11 := kn.out.here.1.k1
  have yq0 := kn.out.here.2.2.1.k0
  have yq1 := kn.out.here.2.2.1.k1
  go_upto_region 5 with (first | (go_at_call 13; (with_reducible refine (reserve_is n m A1 c1 B1 d1 LX t bi bK S1 _ ⟨kn.out.here.2.1⟩ hb0 LY j1 0 h2.out).mono ?_); rintro e w2 ⟨S2, A2, c2, B2, d2, rfl, hl, hS, hb⟩; replace hb := Aside0.mk hb; replace hl := Aside0.mk hl))
  clear y10 y11 yq0 yq1
  replace kn := Aside0.mk (Kn.cons (Bx.new w2 (.slice A2 n c2) (.slice B2 m d2) 25).kn (Kn.cons (hl.out.below (bal w2 (.cells #[.slice A2 n c2, .slice B2 m d2] 25))).kn (kn.out.step (hb.out.alloc hb.out.size (.cells #[.slice A2 n c2, .slice B2 m d2] 25)))))
  clear hb hl
  generalize w2.alloc (.cells #[.slice A2 n c2, .slice B2 m d2] 25) = W2 at kn ⊢
  generalize w2.heap.size = b2 at kn ⊢
  have yl0 := kn.out.here.2.2.2.2.2.2.1.k0
  have yl1 := kn.out.here.2.2.2.2.2.2.1.k1
  have yp0 := kn.out.here.2.2.2.2.2.1.k0
  have yp1 := kn.out.here.2.2.2.2.2.1.k1
  have yq0 := kn.out.here.2.2.2.2.1.k0
  have yq1 := kn.out.here.2.2.2.2.1.k1
  go_upto_region 6 with (first | (go_at_call 22; (with_reducible refine (both_is n m A c B d L t ai aK bi bK S _ ⟨kn.out.here.2.2.2.2.2.2.2.1⟩ ha0 hb0 L 0 0 h3.out).mono ?_); rintro e w3 ⟨S3, A3, c3, B3, d3, rfl, hl, hS, hb⟩; replace hb := Aside0.mk hb; replace hl := Aside0.mk hl))
  clear yl0 yl1 yp0 yp1 yq0 yq1
  replace kn := Aside0.mk (Kn.cons (Bx.new w3 (.slice A3 n c3) (.slice B3 m d3) 25).kn (Kn.cons (hl.out.below (bal w3 (.cells #[.slice A3 n c3, .slice B3 m d3] 25))).kn (kn.out.step (hb.out.alloc hb.out.size (.cells #[.slice A3 n c3, .slice B3 m d3] 25)))))
  clear hb hl
  generalize w3.alloc (.cells #[.slice A3 n c3, .slice B3 m d3] 25) = W3 at kn ⊢
  generalize w3.heap.size = b3 at kn ⊢
  go_upto_region 12 with (fail)
  have kd := Aside0.mk (kn.out.step (below_drew1 (Below.refl W3.heap.size W3)))
  clear kn
  refine start_ (n := 14) (S := fun w' => w'.cell? ⟨b3, 0, none⟩ = some (.slice A3 n c3) ∧ w'.cell? ⟨b3, 1, none⟩ = some (.slice B3 m d3) ∧ w'.cell? ⟨bl, 0, none⟩ = some (.slice A n c) ∧ w'.cell? ⟨bl, 1, none⟩ = some (.slice B m d) ∧ Aside0 (Kn (fun W => Bx b3 (.slice A3 n c3) (.slice B3 m d3) W ∧ LV S3 n m A3 c3 B3 d3 L W ∧ Bx b2 (.slice A2 n c2) (.slice B2 m d2) W ∧ LV S2 n m A2 c2 B2 d2 LY W ∧ Bx b1 (.slice A1 n c1) (.slice B1 m d1) W ∧ LV S1 n m A1 c1 B1 d1 LX W ∧ Bx bq (.int .i64 bi) (.int .i64 bK) W ∧ Bx bp (.int .i64 ai) (.int .i64 aK) W ∧ Bx bl (.slice A n c) (.slice B m d) W ∧ LV S n m A c B d L W ∧ Tb w W) w')) (ds := []) #[false, false, false, false, false, false, false, false, false, false, false, false, false, false] (by kernel_rfl) rfl rfl ⟨kd.out.here.1.k0, kd.out.here.1.k1, kd.out.here.2.2.2.2.2.2.2.2.1.k0, kd.out.here.2.2.2.2.2.2.2.2.1.k1, kd⟩ (fun hHeld => ?_)
  generalize W3.drew = V3 at kd hHeld ⊢
  refine pure_ (i := 0) (N := some 107) (v := ?_) (a' := ?_) #[true, false, false, false, false, false, false, false, false, false, false, false, false, false] rfl rfl (by kernel_rfl) (fun _ _ _ h => h) (Or.inl ⟨by rfl, ?_⟩) ?_ ?_
  rotate_left
  · intro w'
    go_simp
    with_reducible rfl
  rotate_left
  · simp only [Act.put, List.setIfInBounds_toArray, List.set_cons_zero, List.set_cons_succ, i64_w, i32_w]
    rfl
  refine pure_ (i := 1) (N := some 108) (v := ?_) (a' := ?_) #[true, true, false, false, false, false, false, false, false, false, false, false, false, false] rfl rfl (by kernel_rfl) (fun _ _ _ h => h) (Or.inl ⟨by rfl, ?_⟩) ?_ ?_
  rotate_left
  · intro w'
    go_simp
    with_reducible rfl
  rotate_left
  · simp only [Act.put, List.setIfInBounds_toArray, List.set_cons_zero, List.set_cons_succ, i64_w, i32_w]
    rfl
  refine pure_ (i := 2) (N := some 109) (v := ?_) (a' := ?_) #[true, true, true, false, false, false, false, false, false, false, false, false, false, false] rfl rfl (by kernel_rfl) (fun _ _ _ h => h) (Or.inl ⟨by rfl, ?_⟩) ?_ ?_
  rotate_left
  · intro w'
    go_simp
    with_reducible rfl
  rotate_left
  · simp only [Act.put, List.setIfInBounds_toArray, List.set_cons_zero, List.set_cons_succ, i64_w, i32_w]
    rfl
  refine pure_ (i := 3) (N := some 110) (v := ?_) (a' := ?_) #[true, true, true, true, false, false, false, false, false, false, false, false, false, false] rfl rfl (by kernel_rfl) (fun _ _ _ h => h) (Or.inl ⟨by rfl, ?_⟩) ?_ ?_
  rotate_left
  · intro w'
    go_simp
    with_reducible rfl
  rotate_left
  · simp only [Act.put, List.setIfInBounds_toArray, List.set_cons_zero, List.set_cons_succ, i64_w, i32_w]
    rfl
  refine pure_ (i := 4) (N := some 111) (v := ?_) (a' := ?_) #[true, true, true, true, true, false, false, false, false, false, false, false, false, false] rfl rfl (by kernel_rfl) (fun _ _ _ h => h) (Or.inl ⟨by rfl, ?_⟩) ?_ ?_
  rotate_left
  · intro w'
    go_simp
    with_reducible rfl
  rotate_left
  · simp only [Act.put, List.setIfInBounds_toArray, List.set_cons_zero, List.set_cons_succ, i64_w, i32_w]
    rfl
  refine pure_ (i := 5) (N := some 112) (v := ?_) (a' := ?_) #[true, true, true, true, true, true, false, false, false, false, false, false, false, false] rfl rfl (by kernel_rfl) (fun _ _ _ h => h) (Or.inl ⟨by rfl, ?_⟩) ?_ ?_
  rotate_left
  · intro w'
    go_simp
    with_reducible rfl
  rotate_left
  · simp only [Act.put, List.setIfInBounds_toArray, List.set_cons_zero, List.set_cons_succ, i64_w, i32_w]
    rfl
  refine pure_ (i := 6) (N := some 113) (v := ?_) (a' := ?_) #[true, true, true, true, true, true, true, false, false, false, false, false, false, false] rfl rfl (by kernel_rfl) (fun _ _ _ h => h) (Or.inl ⟨by rfl, ?_⟩) ?_ ?_
  rotate_left
  · intro w'
    go_simp
    with_reducible rfl
  rotate_left
  · simp only [Act.put, List.setIfInBounds_toArray, List.set_cons_zero, List.set_cons_succ, i64_w, i32_w]
    rfl
  refine take_ (i := 7) (N := some 114) (v := ?_) (a' := ?_) #[true, true, true, true, true, true, true, true, false, false, false, false, false, false] rfl rfl (by kernel_rfl) (fun _ _ _ h => h) (Or.inl ⟨by rfl, ?_⟩) hHeld ?_ ?_
  rotate_left
  · rintro w' ⟨s0, s1, s2, s3, s4⟩
    go_simp
    with_reducible rfl
  rotate_left
  · simp only [Act.put, List.setIfInBounds_toArray, List.set_cons_zero, List.set_cons_succ, i64_w, i32_w]
    rfl
  refine take_ (i := 9) (N := some 116) (v := ?_) (a' := ?_) #[true, true, true, true, true, true, true, true, false, true, false, false, false, false] rfl rfl (by kernel_rfl) (fun _ _ _ h => h) (Or.inl ⟨by rfl, ?_⟩) hHeld ?_ ?_
  rotate_left
  · rintro w' ⟨s0, s1, s2, s3, s4⟩
    go_simp
    with_reducible rfl
  rotate_left
  · simp only [Act.put, List.setIfInBounds_toArray, List.set_cons_zero, List.set_cons_succ, i64_w, i32_w]
    rfl
  refine one_ (i := 8) (N := some 115) #[true, true, true, true, true, true, true, true, true, true, false, false, false, false] rfl rfl (by kernel_rfl) (by decide) (fun K hK => ?_)
  refine goes_ Try.func12 (by kernel_rfl) rfl #[.agg #[.slice A3 n c3, .slice B3 m d3]] (by rfl) rfl rfl (by simp only [List.map_toArray, List.map_cons, List.map_nil]; rfl) ?_
  with_reducible refine (its_is A3 n c3 B3 m d3 _).mono ?_
  rintro e x8 ⟨rfl, hb⟩
  refine ⟨_, rfl, ?_⟩
  have kz := Aside0.mk (hHeld.2.2.2.2.out.step hb)
  clear hHeld hb
  refine hK.out _ _ ⟨kz.out.here.1.k0, kz.out.here.1.k1, kz.out.here.2.2.2.2.2.2.2.2.1.k0, kz.out.here.2.2.2.2.2.2.2.2.1.k1, kz⟩ (fun hHeld => ?_)
  clear hK K
  refine norm_ (a' := ?_) ?_ ?_
  rotate_left
  · show Act.put _ (some 115) _ = _
    simp only [Act.put, List.setIfInBounds_toArray, List.set_cons_zero, List.set_cons_succ, i64_w, i32_w]
    rfl
  refine one_ (i := 10) (N := some 117) #[true, true, true, true, true, true, true, true, true, true, true, false, false, false] rfl rfl (by kernel_rfl) (by decide) (fun K hK => ?_)
  refine goes_ Try.func12 (by kernel_rfl) rfl #[.agg #[.slice A n c, .slice B m d]] (by rfl) rfl rfl (by simp only [List.map_toArray, List.map_cons, List.map_nil]; rfl) ?_
  with_reducible refine (its_is A n c B m d _).mono ?_
  rintro e x10 ⟨rfl, hb⟩
  refine ⟨_, rfl, ?_⟩
  have kz := Aside0.mk (hHeld.2.2.2.2.out.step hb)
  clear hHeld hb
  refine hK.out _ _ ⟨kz.out.here.1.k0, kz.out.here.1.k1, kz.out.here.2.2.2.2.2.2.2.2.1.k0, kz.out.here.2.2.2.2.2.2.2.2.1.k1, kz⟩ (fun hHeld => ?_)
  clear hK K
  refine norm_ (a' := ?_) ?_ ?_
  rotate_left
  · show Act.put _ (some 117) _ = _
    simp only [Act.put, List.setIfInBounds_toArray, List.set_cons_zero, List.set_cons_succ, i64_w, i32_w]
    rfl
  refine one_ (i := 11) (N := some 118) #[true, true, true, true, true, true, true, true, true, true, true, true, false, false] rfl rfl (by kernel_rfl) (by decide) (fun K hK => ?_)
  refine goes_ Try.func19 (by kernel_rfl) rfl #[.agg #[.slice A3 n c3, .slice B3 m d3], .agg #[.slice A n c, .slice B m d]] (by rfl) rfl rfl (by simp only [List.map_toArray, List.map_cons, List.map_nil]; rfl) ?_
  with_reducible refine (same_is n m A3 c3 B3 d3 A c B d L S3 S _ (hHeld.2.2.2.2).out.here.2.1 (hHeld.2.2.2.2).out.here.2.2.2.2.2.2.2.2.2.1).mono ?_
  rintro e x11 ⟨rfl, hb⟩
  refine ⟨_, rfl, ?_⟩
  have kz := Aside0.mk (hHeld.2.2.2.2.out.step hb)
  clear hHeld hb
  refine hK.out _ _ ⟨kz.out.here.1.k0, kz.out.here.1.k1, kz.out.here.2.2.2.2.2.2.2.2.1.k0, kz.out.here.2.2.2.2.2.2.2.2.1.k1, kz⟩ (fun hHeld => ?_)
  clear hK K
  refine norm_ (a' := ?_) ?_ ?_
  rotate_left
  · show Act.put _ (some 118) _ = _
    simp only [Act.put, List.setIfInBounds_toArray, List.set_cons_zero, List.set_cons_succ, i64_w, i32_w]
    rfl
  refine pure_ (i := 12) (N := some 119) (v := ?_) (a' := ?_) #[true, true, true, true, true, true, true, true, true, true, true, true, true, false] rfl rfl (by kernel_rfl) (fun _ _ _ h => h) (Or.inl ⟨by rfl, ?_⟩) ?_ ?_
  rotate_left
  · intro w'
    go_simp
    with_reducible rfl
  rotate_left
  · simp only [Act.put, List.setIfInBounds_toArray, List.set_cons_zero, List.set_cons_succ, i64_w, i32_w]
    rfl
  refine pure_ (i := 13) (N := some 8) (v := ?_) (a' := ?_) #[true, true, true, true, true, true, true, true, true, true, true, true, true, true] rfl rfl (by kernel_rfl) (fun _ _ _ h => h) (Or.inl ⟨by rfl, ?_⟩) ?_ ?_
  rotate_left
  · intro w'
    go_simp
    with_reducible rfl
  rotate_left
  · simp only [Act.put, List.setIfInBounds_toArray, List.set_cons_zero, List.set_cons_succ, i64_w, i32_w]
    rfl
  refine done_ (by kernel_rfl) ?_
  have kn := hHeld.2.2.2.2
  clear hHeld kd kz
  go_wp2
  go_ret
  exact ⟨rfl, kn.out.here.2.2.2.2.2.2.2.2.2.2⟩
set_option maxHeartbeats 8000000 in
set_option maxRecDepth 100000 in
theorem both_lawD2 (n m : Nat) (A : Option Addr) (c : Nat) (B : Option Addr) (d : Nat) (L : LG) (t ai aK bi bK : Int) (S : Nat → Prop) (w : World) (h : Aside0 (LV S n m A c B d L w)) (ha0 : Aside0 (-9223372036854775808 ≤ aK ∧ aK ≤ 9223372036854775807)) (hb0 : Aside0 (-9223372036854775808 ≤ bK ∧ bK ≤ 9223372036854775807)) (LX LY : LG) (i1 j1 : Int) (hk : i1 > 0) (hkb : decide (i1 > 0) = true) (hk2 : ¬ j1 > 0) (hkb2 : decide (j1 > 0) = false) (h1 : Aside0 (resS n m L t ai aK = (LX, i1, 0))) (h2 : Aside0 (resS n m LX t bi bK = (LY, j1, 0))) (h3 : Aside0 (Hid (bothS n m L t ai aK bi bK = (L, 0, 0)))) :
    Calls Try.prog 7 #[.agg #[.slice A n c, .slice B m d], .int .i64 t, .agg #[.int .i64 ai, .int .i64 aK], .agg #[.int .i64 bi, .int .i64 bK]] w fun e w' => e = .returned (.bool true) ∧ Below w.heap.size w w' := by
  go_enter Try.func7, Try.ntmps7
  go_upto_region 1 with (fail)
  have kn := Aside0.mk (Kn.cons h.out.kn (tb_kn (Below.refl w.heap.size w)))
  replace kn := Aside0.mk (Kn.cons (Bx.new (w) (.slice A n c) (.slice B m d) 25).kn (kn.out.step (bal (w) (.cells #[.slice A n c, .slice B m d] 25))))
  replace kn := Aside0.mk (Kn.cons (Bx.new ((w).alloc (.cells #[.slice A n c, .slice B m d] 25)) (.int .i64 ai) (.int .i64 aK) 27).kn (kn.out.step (bal ((w).alloc (.cells #[.slice A n c, .slice B m d] 25)) (.cells #[.int .i64 ai, .int .i64 aK] 27))))
  replace kn := Aside0.mk (Kn.cons (Bx.new (((w).alloc (.cells #[.slice A n c, .slice B m d] 25)).alloc (.cells #[.int .i64 ai, .int .i64 aK] 27)) (.int .i64 bi) (.int .i64 bK) 27).kn (kn.out.step (bal (((w).alloc (.cells #[.slice A n c, .slice B m d] 25)).alloc (.cells #[.int .i64 ai, .int .i64 aK] 27)) (.cells #[.int .i64 bi, .int .i64 bK] 27))))
  simp only [World.size_alloc] at kn
  generalize (((w).alloc (.cells #[.slice A n c, .slice B m d] 25)).alloc (.cells #[.int .i64 ai, .int .i64 aK] 27)).alloc (.cells #[.int .i64 bi, .int .i64 bK] 27) = W0 at kn ⊢
  generalize w.heap.size + 1 + 1 = bq at kn ⊢
  generalize w.heap.size + 1 = bp at kn ⊢
  generalize hz : w.heap.size = bl at kn ⊢
  clear hz
  have yl0 := kn.out.here.2.2.1.k0
  have yl1 := kn.out.here.2.2.1.k1
  go_upto_region 3 with (first | (go_at_call 10; (with_reducible refine (fine_lv (kn.out.here.2.2.2.1)).mono ?_); rintro e wf ⟨rfl, hb⟩; have kf := Aside0.mk (kn.out.step hb); clear hb kn) | (go_at_call 11; (with_reducible refine (shown_is _).mono ?_); rintro e wg ⟨rfl, hb⟩; have kn := Aside0.mk (kf.out.step hb); clear hb kf))
  clear yl0 yl1
  have yl0 := kn.out.here.2.2.1.k0
  have yl1 := kn.out.here.2.2.1.k1
  have yp0 := kn.out.here.2.1.k0
  have yp1 := kn.out.here.2.1.k1
  go_upto_region 4 with (first | (go_at_call 13; (with_reducible refine (reserve_is n m A c B d L t ai aK S _ ⟨kn.out.here.2.2.2.1⟩ ha0 LX i1 0 h1.out).mono ?_); rintro e w1 ⟨S1, A1, c1, B1, d1, rfl, hl, hS, hb⟩; replace hb := Aside0.mk hb; replace hl := Aside0.mk hl))
  clear yl0 yl1 yp0 yp1
  replace kn := Aside0.mk (Kn.cons (Bx.new w1 (.slice A1 n c1) (.slice B1 m d1) 25).kn (Kn.cons (hl.out.below (bal w1 (.cells #[.slice A1 n c1, .slice B1 m d1] 25))).kn (kn.out.step (hb.out.alloc hb.out.size (.cells #[.slice A1 n c1, .slice B1 m d1] 25)))))
  clear hb hl
  generalize w1.alloc (.cells #[.slice A1 n c1, .slice B1 m d1] 25) = W1 at kn ⊢
  generalize w1.heap.size = b1 at kn ⊢
  have y10 := kn.out.here.1.k0
  have y11 := kn.out.here.1.k1
  have yq0 := kn.out.here.2.2.1.k0
  have yq1 := kn.out.here.2.2.1.k1
  go_upto_region 5 with (first | (go_at_call 13; (with_reducible refine (reserve_is n m A1 c1 B1 d1 LX t bi bK S1 _ ⟨kn.out.here.2.1⟩ hb0 LY j1 0 h2.out).mono ?_); rintro e w2 ⟨S2, A2, c2, B2, d2, rfl, hl, hS, hb⟩; replace hb := Aside0.mk hb; replace hl := Aside0.mk hl))
  clear y10 y11 yq0 yq1
  replace kn := Aside0.mk (Kn.cons (Bx.new w2 (.slice A2 n c2) (.slice B2 m d2) 25).kn (Kn.cons (hl.out.below (bal w2 (.cells #[.slice A2 n c2, .slice B2 m d2] 25))).kn (kn.out.step (hb.out.alloc hb.out.size (.cells #[.slice A2 n c2, .slice B2 m d2] 25)))))
  clear hb hl
  generalize w2.alloc (.cells #[.slice A2 n c2, .slice B2 m d2] 25) = W2 at kn ⊢
  generalize w2.heap.size = b2 at kn ⊢
  have yl0 := kn.out.here.2.2.2.2.2.2.1.k0
  have yl1 := kn.out.here.2.2.2.2.2.2.1.k1
  have yp0 := kn.out.here.2.2.2.2.2.1.k0
  have yp1 := kn.out.here.2.2.2.2.2.1.k1
  have yq0 := kn.out.here.2.2.2.2.1.k0
  have yq1 := kn.out.here.2.2.2.2.1.k1
  go_upto_region 6 with (first | (go_at_call 22; (with_reducible refine (both_is n m A c B d L t ai aK bi bK S _ ⟨kn.out.here.2.2.2.2.2.2.2.1⟩ ha0 hb0 L 0 0 h3.out).mono ?_); rintro e w3 ⟨S3, A3, c3, B3, d3, rfl, hl, hS, hb⟩; replace hb := Aside0.mk hb; replace hl := Aside0.mk hl))
  clear yl0 yl1 yp0 yp1 yq0 yq1
  replace kn := Aside0.mk (Kn.cons (Bx.new w3 (.slice A3 n c3) (.slice B3 m d3) 25).kn (Kn.cons (hl.out.below (bal w3 (.cells #[.slice A3 n c3, .slice B3 m d3] 25))).kn (kn.out.step (hb.out.alloc hb.out.size (.cells #[.slice A3 n c3, .slice B3 m d3] 25)))))
  clear hb hl
  generalize w3.alloc (.cells #[.slice A3 n c3, .slice B3 m d3] 25) = W3 at kn ⊢
  generalize w3.heap.size = b3 at kn ⊢
  go_upto_region 12 with (fail)
  have kd := Aside0.mk (kn.out.step (below_drew1 (Below.refl W3.heap.size W3)))
  clear kn
  refine start_ (n := 14) (S := fun w' => w'.cell? ⟨b3, 0, none⟩ = some (.slice A3 n c3) ∧ w'.cell? ⟨b3, 1, none⟩ = some (.slice B3 m d3) ∧ w'.cell? ⟨bl, 0, none⟩ = some (.slice A n c) ∧ w'.cell? ⟨bl, 1, none⟩ = some (.slice B m d) ∧ Aside0 (Kn (fun W => Bx b3 (.slice A3 n c3) (.slice B3 m d3) W ∧ LV S3 n m A3 c3 B3 d3 L W ∧ Bx b2 (.slice A2 n c2) (.slice B2 m d2) W ∧ LV S2 n m A2 c2 B2 d2 LY W ∧ Bx b1 (.slice A1 n c1) (.slice B1 m d1) W ∧ LV S1 n m A1 c1 B1 d1 LX W ∧ Bx bq (.int .i64 bi) (.int .i64 bK) W ∧ Bx bp (.int .i64 ai) (.int .i64 aK) W ∧ Bx bl (.slice A n c) (.slice B m d) W ∧ LV S n m A c B d L W ∧ Tb w W) w')) (ds := []) #[false, false, false, false, false, false, false, false, false, false, false, false, false, false] (by kernel_rfl) rfl rfl ⟨kd.out.here.1.k0, kd.out.here.1.k1, kd.out.here.2.2.2.2.2.2.2.2.1.k0, kd.out.here.2.2.2.2.2.2.2.2.1.k1, kd⟩ (fun hHeld => ?_)
  generalize W3.drew = V3 at kd hHeld ⊢
  refine pure_ (i := 0) (N := some 107) (v := ?_) (a' := ?_) #[true, false, false, false, false, false, false, false, false, false, false, false, false, false] rfl rfl (by kernel_rfl) (fun _ _ _ h => h) (Or.inl ⟨by rfl, ?_⟩) ?_ ?_
  rotate_left
  · intro w'
    go_simp
    with_reducible rfl
  rotate_left
  · simp only [Act.put, List.setIfInBounds_toArray, List.set_cons_zero, List.set_cons_succ, i64_w, i32_w]
    rfl
  refine pure_ (i := 1) (N := some 108) (v := ?_) (a' := ?_) #[true, true, false, false, false, false, false, false, false, false, false, false, false, false] rfl rfl (by kernel_rfl) (fun _ _ _ h => h) (Or.inl ⟨by rfl, ?_⟩) ?_ ?_
  rotate_left
  · intro w'
    go_simp
    with_reducible rfl
  rotate_left
  · simp only [Act.put, List.setIfInBounds_toArray, List.set_cons_zero, List.set_cons_succ, i64_w, i32_w]
    rfl
  refine pure_ (i := 2) (N := some 109) (v := ?_) (a' := ?_) #[true, true, true, false, false, false, false, false, false, false, false, false, false, false] rfl rfl (by kernel_rfl) (fun _ _ _ h => h) (Or.inl ⟨by rfl, ?_⟩) ?_ ?_
  rotate_left
  · intro w'
    go_simp
    with_reducible rfl
  rotate_left
  · simp only [Act.put, List.setIfInBounds_toArray, List.set_cons_zero, List.set_cons_succ, i64_w, i32_w]
    rfl
  refine pure_ (i := 3) (N := some 110) (v := ?_) (a' := ?_) #[true, true, true, true, false, false, false, false, false, false, false, false, false, false] rfl rfl (by kernel_rfl) (fun _ _ _ h => h) (Or.inl ⟨by rfl, ?_⟩) ?_ ?_
  rotate_left
  · intro w'
    go_simp
    with_reducible rfl
  rotate_left
  · simp only [Act.put, List.setIfInBounds_toArray, List.set_cons_zero, List.set_cons_succ, i64_w, i32_w]
    rfl
  refine pure_ (i := 4) (N := some 111) (v := ?_) (a' := ?_) #[true, true, true, true, true, false, false, false, false, false, false, false, false, false] rfl rfl (by kernel_rfl) (fun _ _ _ h => h) (Or.inl ⟨by rfl, ?_⟩) ?_ ?_
  rotate_left
  · intro w'
    go_simp
    with_reducible rfl
  rotate_left
  · simp only [Act.put, List.setIfInBounds_toArray, List.set_cons_zero, List.set_cons_succ, i64_w, i32_w]
    rfl
  refine pure_ (i := 5) (N := some 112) (v := ?_) (a' := ?_) #[true, true, true, true, true, true, false, false, false, false, false, false, false, false] rfl rfl (by kernel_rfl) (fun _ _ _ h => h) (Or.inl ⟨by rfl, ?_⟩) ?_ ?_
  rotate_left
  · intro w'
    go_simp
    with_reducible rfl
  rotate_left
  · simp only [Act.put, List.setIfInBounds_toArray, List.set_cons_zero, List.set_cons_succ, i64_w, i32_w]
    rfl
  refine pure_ (i := 6) (N := some 113) (v := ?_) (a' := ?_) #[true, true, true, true, true, true, true, false, false, false, false, false, false, false] rfl rfl (by kernel_rfl) (fun _ _ _ h => h) (Or.inl ⟨by rfl, ?_⟩) ?_ ?_
  rotate_left
  · intro w'
    go_simp
    with_reducible rfl
  rotate_left
  · simp only [Act.put, List.setIfInBounds_toArray, List.set_cons_zero, List.set_cons_succ, i64_w, i32_w]
    rfl
  refine take_ (i := 7) (N := some 114) (v := ?_) (a' := ?_) #[true, true, true, true, true, true, true, true, false, false, false, false, false, false] rfl rfl (by kernel_rfl) (fun _ _ _ h => h) (Or.inl ⟨by rfl, ?_⟩) hHeld ?_ ?_
  rotate_left
  · rintro w' ⟨s0, s1, s2, s3, s4⟩
    go_simp
    with_reducible rfl
  rotate_left
  · simp only [Act.put, List.setIfInBounds_toArray, List.set_cons_zero, List.set_cons_succ, i64_w, i32_w]
    rfl
  refine take_ (i := 9) (N := some 116) (v := ?_) (a' := ?_) #[true, true, true, true, true, true, true, true, false, true, false, false, false, false] rfl rfl (by kernel_rfl) (fun _ _ _ h => h) (Or.inl ⟨by rfl, ?_⟩) hHeld ?_ ?_
  rotate_left
  · rintro w' ⟨s0, s1, s2, s3, s4⟩
    go_simp
    with_reducible rfl
  rotate_left
  · simp only [Act.put, List.setIfInBounds_toArray, List.set_cons_zero, List.set_cons_succ, i64_w, i32_w]
    rfl
  refine one_ (i := 8) (N := some 115) #[true, true, true, true, true, true, true, true, true, true, false, false, false, false] rfl rfl (by kernel_rfl) (by decide) (fun K hK => ?_)
  refine goes_ Try.func12 (by kernel_rfl) rfl #[.agg #[.slice A3 n c3, .slice B3 m d3]] (by rfl) rfl rfl (by simp only [List.map_toArray, List.map_cons, List.map_nil]; rfl) ?_
  with_reducible refine (its_is A3 n c3 B3 m d3 _).mono ?_
  rintro e x8 ⟨rfl, hb⟩
  refine ⟨_, rfl, ?_⟩
  have kz := Aside0.mk (hHeld.2.2.2.2.out.step hb)
  clear hHeld hb
  refine hK.out _ _ ⟨kz.out.here.1.k0, kz.out.here.1.k1, kz.out.here.2.2.2.2.2.2.2.2.1.k0, kz.out.here.2.2.2.2.2.2.2.2.1.k1, kz⟩ (fun hHeld => ?_)
  clear hK K
  refine norm_ (a' := ?_) ?_ ?_
  rotate_left
  · show Act.put _ (some 115) _ = _
    simp only [Act.put, List.setIfInBounds_toArray, List.set_cons_zero, List.set_cons_succ, i64_w, i32_w]
    rfl
  refine one_ (i := 10) (N := some 117) #[true, true, true, true, true, true, true, true, true, true, true, false, false, false] rfl rfl (by kernel_rfl) (by decide) (fun K hK => ?_)
  refine goes_ Try.func12 (by kernel_rfl) rfl #[.agg #[.slice A n c, .slice B m d]] (by rfl) rfl rfl (by simp only [List.map_toArray, List.map_cons, List.map_nil]; rfl) ?_
  with_reducible refine (its_is A n c B m d _).mono ?_
  rintro e x10 ⟨rfl, hb⟩
  refine ⟨_, rfl, ?_⟩
  have kz := Aside0.mk (hHeld.2.2.2.2.out.step hb)
  clear hHeld hb
  refine hK.out _ _ ⟨kz.out.here.1.k0, kz.out.here.1.k1, kz.out.here.2.2.2.2.2.2.2.2.1.k0, kz.out.here.2.2.2.2.2.2.2.2.1.k1, kz⟩ (fun hHeld => ?_)
  clear hK K
  refine norm_ (a' := ?_) ?_ ?_
  rotate_left
  · show Act.put _ (some 117) _ = _
    simp only [Act.put, List.setIfInBounds_toArray, List.set_cons_zero, List.set_cons_succ, i64_w, i32_w]
    rfl
  refine one_ (i := 11) (N := some 118) #[true, true, true, true, true, true, true, true, true, true, true, true, false, false] rfl rfl (by kernel_rfl) (by decide) (fun K hK => ?_)
  refine goes_ Try.func19 (by kernel_rfl) rfl #[.agg #[.slice A3 n c3, .slice B3 m d3], .agg #[.slice A n c, .slice B m d]] (by rfl) rfl rfl (by simp only [List.map_toArray, List.map_cons, List.map_nil]; rfl) ?_
  with_reducible refine (same_is n m A3 c3 B3 d3 A c B d L S3 S _ (hHeld.2.2.2.2).out.here.2.1 (hHeld.2.2.2.2).out.here.2.2.2.2.2.2.2.2.2.1).mono ?_
  rintro e x11 ⟨rfl, hb⟩
  refine ⟨_, rfl, ?_⟩
  have kz := Aside0.mk (hHeld.2.2.2.2.out.step hb)
  clear hHeld hb
  refine hK.out _ _ ⟨kz.out.here.1.k0, kz.out.here.1.k1, kz.out.here.2.2.2.2.2.2.2.2.1.k0, kz.out.here.2.2.2.2.2.2.2.2.1.k1, kz⟩ (fun hHeld => ?_)
  clear hK K
  refine norm_ (a' := ?_) ?_ ?_
  rotate_left
  · show Act.put _ (some 118) _ = _
    simp only [Act.put, List.setIfInBounds_toArray, List.set_cons_zero, List.set_cons_succ, i64_w, i32_w]
    rfl
  refine pure_ (i := 12) (N := some 119) (v := ?_) (a' := ?_) #[true, true, true, true, true, true, true, true, true, true, true, true, true, false] rfl rfl (by kernel_rfl) (fun _ _ _ h => h) (Or.inl ⟨by rfl, ?_⟩) ?_ ?_
  rotate_left
  · intro w'
    go_simp
    with_reducible rfl
  rotate_left
  · simp only [Act.put, List.setIfInBounds_toArray, List.set_cons_zero, List.set_cons_succ, i64_w, i32_w]
    rfl
  refine pure_ (i := 13) (N := some 8) (v := ?_) (a' := ?_) #[true, true, true, true, true, true, true, true, true, true, true, true, true, true] rfl rfl (by kernel_rfl) (fun _ _ _ h => h) (Or.inl ⟨by rfl, ?_⟩) ?_ ?_
  rotate_left
  · intro w'
    go_simp
    with_reducible rfl
  rotate_left
  · simp only [Act.put, List.setIfInBounds_toArray, List.set_cons_zero, List.set_cons_succ, i64_w, i32_w]
    rfl
  refine done_ (by kernel_rfl) ?_
  have kn := hHeld.2.2.2.2
  clear hHeld kd kz
  go_wp2
  go_ret
  exact ⟨rfl, kn.out.here.2.2.2.2.2.2.2.2.2.2⟩
set_option maxHeartbeats 8000000 in
set_option maxRecDepth 100000 in
theorem both_no (A : Option Addr) (c : Nat) (B : Option Addr) (d : Nat) (hv : List Int) (hd : List (List Int)) (t ai aK bi bK : Int) (w : World) (h : Aside0 (RD A c B d hv hd w)) (hf : fineS hv hd = false) :
    Calls Try.prog 7 #[.agg #[.slice A hv.length c, .slice B hd.length d], .int .i64 t, .agg #[.int .i64 ai, .int .i64 aK], .agg #[.int .i64 bi, .int .i64 bK]] w fun e w' => e = .returned (.bool true) ∧ Below w.heap.size w w' := by
  go_enter Try.func7, Try.ntmps7
  go_upto_region 1 with (fail)
  have kn := Aside0.mk (Kn.cons h.out.kn (tb_kn (Below.refl w.heap.size w)))
  replace kn := Aside0.mk (Kn.cons (Bx.new (w) (.slice A hv.length c) (.slice B hd.length d) 25).kn (kn.out.step (bal (w) (.cells #[.slice A hv.length c, .slice B hd.length d] 25))))
  replace kn := Aside0.mk (Kn.cons (Bx.new ((w).alloc (.cells #[.slice A hv.length c, .slice B hd.length d] 25)) (.int .i64 ai) (.int .i64 aK) 27).kn (kn.out.step (bal ((w).alloc (.cells #[.slice A hv.length c, .slice B hd.length d] 25)) (.cells #[.int .i64 ai, .int .i64 aK] 27))))
  replace kn := Aside0.mk (Kn.cons (Bx.new (((w).alloc (.cells #[.slice A hv.length c, .slice B hd.length d] 25)).alloc (.cells #[.int .i64 ai, .int .i64 aK] 27)) (.int .i64 bi) (.int .i64 bK) 27).kn (kn.out.step (bal (((w).alloc (.cells #[.slice A hv.length c, .slice B hd.length d] 25)).alloc (.cells #[.int .i64 ai, .int .i64 aK] 27)) (.cells #[.int .i64 bi, .int .i64 bK] 27))))
  simp only [World.size_alloc] at kn
  generalize (((w).alloc (.cells #[.slice A hv.length c, .slice B hd.length d] 25)).alloc (.cells #[.int .i64 ai, .int .i64 aK] 27)).alloc (.cells #[.int .i64 bi, .int .i64 bK] 27) = W0 at kn ⊢
  generalize w.heap.size + 1 + 1 = bq at kn ⊢
  generalize w.heap.size + 1 = bp at kn ⊢
  generalize hz : w.heap.size = bl at kn ⊢
  clear hz
  have yl0 := kn.out.here.2.2.1.k0
  have yl1 := kn.out.here.2.2.1.k1
  go_wp2_with (first | (go_at_call 10; (with_reducible refine (fine_no (kn.out.here.2.2.2.1) hf).mono ?_); rintro e wf ⟨rfl, hb⟩; have kf := Aside0.mk (kn.out.step hb); clear hb kn) | (go_at_call 11; (with_reducible refine (shown_is _).mono ?_); rintro e wg ⟨rfl, hb⟩; have kn := Aside0.mk (kf.out.step hb); clear hb))
  go_ret
  exact ⟨rfl, kn.out.here.2.2.2.2⟩
theorem resS_zero {n m : Nat} {L L' : LG} {t i q k e : Int} (h : resS n m L t i q = (L', k, e)) : e = checkS n m t i q ∧ (0 < k → k = q) := by
  unfold resS at h
  by_cases hc : checkS n m t i q = 0
  · rw [if_pos hc] at h
    by_cases hl : rd L.hv i < q
    · rw [if_pos hl] at h; cases h; exact ⟨hc.symm, fun h => by omega⟩
    · rw [if_neg hl] at h; cases h; exact ⟨hc.symm, fun _ => rfl⟩
  · rw [if_neg hc] at h; cases h; exact ⟨rfl, fun h => by omega⟩
theorem both_law (A : Option Addr) (c : Nat) (B : Option Addr) (d : Nat) (hv : List Int) (hd : List (List Int)) (t ai aK bi bK : Int) (w : World) (hr : RD A c B d hv hd w) (ia : ∀ x, x ∈ hv → I64 x) (ib : ∀ r, r ∈ hd → ∀ x, x ∈ r → I64 x) (ha0 : Aside0 (-9223372036854775808 ≤ aK ∧ aK ≤ 9223372036854775807)) (hb0 : Aside0 (-9223372036854775808 ≤ bK ∧ bK ≤ 9223372036854775807)) :
    Calls Try.prog 7 #[.agg #[.slice A hv.length c, .slice B hd.length d], .int .i64 t, .agg #[.int .i64 ai, .int .i64 aK], .agg #[.int .i64 bi, .int .i64 bK]] w fun e w' => e = .returned (.bool true) ∧ Below w.heap.size w w' := by
  cases hf : fineS hv hd with
  | false => exact both_no A c B d hv hd t ai aK bi bK w ⟨hr⟩ hf
  | true =>
    have hl := lv_of_kd hr.a hr.ac hr.b hr.bd hf ia ib
    obtain ⟨⟨LX, i1, e1⟩, h1⟩ : ∃ x, resS hv.length hd.length ⟨hv, hd⟩ t ai aK = x := ⟨_, rfl⟩
    obtain ⟨⟨LY, j1, f1⟩, h2⟩ : ∃ x, resS hv.length hd.length LX t bi bK = x := ⟨_, rfl⟩
    have z1 := resS_zero h1
    have z2 := resS_zero h2
    have l1 := resS_le h1
    have l2 := resS_le h2
    have h3 : bothS hv.length hd.length ⟨hv, hd⟩ t ai aK bi bK = if e1 = 0 then if f1 = 0 then if i1 = 0 then (⟨hv, hd⟩, 0, 0) else if 0 < j1 then (LY, i1 + j1, 0) else (⟨hv, hd⟩, 0, 0) else (⟨hv, hd⟩, 0, f1) else (⟨hv, hd⟩, 0, e1) := by
      unfold bothS
      rw [h1]
      dsimp only
      rw [h2, z1.1, z2.1]
    by_cases he : e1 = 0
    · subst he
      rw [if_pos rfl] at h3
      by_cases hg : f1 = 0
      · subst hg
        rw [if_pos rfl] at h3
        by_cases hi : 0 < i1
        · rw [if_neg (by omega)] at h3
          by_cases hj : 0 < j1
          · rw [if_pos hj] at h3
            obtain rfl := z1.2 hi
            obtain rfl := z2.2 hj
            exact both_lawC hv.length hd.length A c B d ⟨hv, hd⟩ t ai i1 bi j1 _ w ⟨hl⟩ ha0 hb0 LX LY hi hj (decide_eq_true hi) (decide_eq_true hj) (by unfold wrap64; omega) ⟨h1⟩ ⟨h2⟩ ⟨h3⟩
          · rw [if_neg hj] at h3
            exact both_lawD2 hv.length hd.length A c B d ⟨hv, hd⟩ t ai aK bi bK _ w ⟨hl⟩ ha0 hb0 LX LY i1 j1 hi (decide_eq_true hi) hj (decide_eq_false hj) ⟨h1⟩ ⟨h2⟩ ⟨h3⟩
        · rw [if_pos (by omega)] at h3
          exact both_lawD1 hv.length hd.length A c B d ⟨hv, hd⟩ t ai aK bi bK _ w ⟨hl⟩ ha0 hb0 LX LY i1 j1 hi (decide_eq_false hi) ⟨h1⟩ ⟨h2⟩ ⟨h3⟩
      · rw [if_neg hg] at h3
        have hb : (f1 == 0) = false := by simpa using hg
        exact both_lawB hv.length hd.length A c B d ⟨hv, hd⟩ t ai aK bi bK _ w ⟨hl⟩ ha0 hb0 LX LY i1 j1 f1 hb (by simp [bne, hb]) ⟨h1⟩ ⟨h2⟩ ⟨h3⟩
    · rw [if_neg he] at h3
      have hb : (e1 == 0) = false := by simpa using he
      exact both_lawA hv.length hd.length A c B d ⟨hv, hd⟩ t ai aK bi bK _ w ⟨hl⟩ ha0 hb0 LX LY i1 e1 j1 f1 hb (by simp [bne, hb]) ⟨h1⟩ ⟨h2⟩ ⟨h3⟩
end Go.Proofs.Ytlgoincnopfnjaa.Led
