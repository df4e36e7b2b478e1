/- No call but Restock changes a total, and that one just its item's, by as much as was asked; no other client's row changes. -/
import Derived.Test.YtlgoincnopfnjaaLedR
import Derived.Test.YtlgoincnopfnjaaLedO2
namespace Go.Proofs.Ytlgoincnopfnjaa.Led
open Go Go.RowKit Go.Proofs.YtlgoincnopfnjaaW.PrintWords Go.Proofs.YtlgoincnopfnjaaW.PrintMore Go.Proofs.YtlgoincnopfnjaaW.PrintLast
set_option linter.unusedSimpArgs false
set_option linter.unusedVariables false
attribute [local go_sem] max2_int min2_int max_two min_two eqA27
theorem tot0_I64 (n : Nat) (L : LG) (i : Int) : I64 (tot0 n L i) := by
  unfold tot0
  split
  · exact wrap64_I64 _
  · unfold I64; omega
theorem Kn.tail {P Q : World → Prop} {W : World} (h : Kn (fun W => Q W ∧ P W) W) : Kn P W := fun W' hb => (h W' hb).2
theorem rw_kn {x n : Nat} {X : Nat → Value} {w : World} (h : RW x n X w) : Kn (RW x n X) w := fun _ hb => h.step hb
theorem cell_kn {a : Addr} {v : Value} {w : World} (h : w.cell? a = some v) : Kn (fun W => W.cell? a = some v) w := fun _ hb => (hb.cell (p := a) (cell_blk h)).trans h
theorem RW.eight (W : World) (z0 z1 z2 z3 z4 z5 z6 z7 : Value) (e : TypeId) : RW W.heap.size 8 (fun i => [z0, z1, z2, z3, z4, z5, z6, z7].getD i undef) (W.alloc (.cells #[z0, z1, z2, z3, z4, z5, z6, z7] e)) := by
  refine ⟨by simp, fun i hi => ?_, fun i => ?_⟩
  · unfold World.cell?
    rw [heap_alloc_new]
    match i, hi with
    | 0, _ => rfl
    | 1, _ => rfl
    | 2, _ => rfl
    | 3, _ => rfl
    | 4, _ => rfl
    | 5, _ => rfl
    | 6, _ => rfl
    | 7, _ => rfl
  · unfold World.frozen?
    rw [heap_alloc_new]
    simp
set_option maxHeartbeats 8000000 in
set_option maxRecDepth 100000 in
theorem keeps_ok (n m : Nat) (A : Option Addr) (c : Nat) (B : Option Addr) (d : Nat) (L : LG) (t ai aK bi bK : Int) (S : Nat → Prop) (w : World) (h : Aside0 (LV S n m A c B d L w)) (ha0 : Aside0 (-9223372036854775808 ≤ aK ∧ aK ≤ 9223372036854775807)) (hb0 : Aside0 (-9223372036854775808 ≤ bK ∧ bK ≤ 9223372036854775807)) (L1 L2 L3 L4 L5 : LG) (k1 e1 k2 e2 k3 e3 k4 e4 e5 : Int) (h1 : Aside0 (resS n m L t ai aK = (L1, k1, e1))) (h2 : Aside0 (someS n m L t ai aK = (L2, k2, e2))) (h3 : Aside0 (relS n m L t ai aK = (L3, k3, e3))) (h4 : Aside0 (Hid (bothS n m L t ai aK bi bK = (L4, k4, e4)))) (h5 : Aside0 (rsS n L ai aK = (L5, e5))) (hq1 : Aside0 (∀ j : Int, tot0 n L1 j = tot0 n L j)) (hr1 : Aside0 (∀ u : Int, 0 ≤ u → u ≠ t → row L1.hd u = row L.hd u)) (hq2 : Aside0 (∀ j : Int, tot0 n L2 j = tot0 n L j)) (hr2 : Aside0 (∀ u : Int, 0 ≤ u → u ≠ t → row L2.hd u = row L.hd u)) (hq3 : Aside0 (∀ j : Int, tot0 n L3 j = tot0 n L j)) (hr3 : Aside0 (∀ u : Int, 0 ≤ u → u ≠ t → row L3.hd u = row L.hd u)) (hq4 : Aside0 (∀ j : Int, tot0 n L4 j = tot0 n L j)) (hr4 : Aside0 (∀ u : Int, 0 ≤ u → u ≠ t → row L4.hd u = row L.hd u)) (hq5 : Aside0 (∀ i : Nat, i ≤ n → tot0 n L5 (i : Int) = if e5 = 0 ∧ (i : Int) = ai then wrap64 (tot0 n L (i : Int) + aK) else tot0 n L (i : Int))) :
    Calls Try.prog 5 #[.agg #[.slice A n c, .slice B m d], .int .i64 t, .agg #[.int .i64 ai, .int .i64 aK], .agg #[.int .i64 bi, .int .i64 bK]] w fun e w' => e = .returned (.bool true) ∧ Below w.heap.size w w' := by
  go_enter Try.func5, Try.ntmps5
  go_upto_region 1 with (fail)
  have kn := Aside0.mk (Kn.cons h.out.kn (tb_kn (Below.refl w.heap.size w)))
  replace kn := Aside0.mk (Kn.cons (Bx.new (w) (.slice A n c) (.slice B m d) 25).kn (kn.out.step (bal (w) (.cells #[.slice A n c, .slice B m d] 25))))
  replace kn := Aside0.mk (Kn.cons (Bx.new ((w).alloc (.cells #[.slice A n c, .slice B m d] 25)) (.int .i64 ai) (.int .i64 aK) 27).kn (kn.out.step (bal ((w).alloc (.cells #[.slice A n c, .slice B m d] 25)) (.cells #[.int .i64 ai, .int .i64 aK] 27))))
  replace kn := Aside0.mk (Kn.cons (Bx.new (((w).alloc (.cells #[.slice A n c, .slice B m d] 25)).alloc (.cells #[.int .i64 ai, .int .i64 aK] 27)) (.int .i64 bi) (.int .i64 bK) 27).kn (kn.out.step (bal (((w).alloc (.cells #[.slice A n c, .slice B m d] 25)).alloc (.cells #[.int .i64 ai, .int .i64 aK] 27)) (.cells #[.int .i64 bi, .int .i64 bK] 27))))
  simp only [World.size_alloc] at kn
  generalize (((w).alloc (.cells #[.slice A n c, .slice B m d] 25)).alloc (.cells #[.int .i64 ai, .int .i64 aK] 27)).alloc (.cells #[.int .i64 bi, .int .i64 bK] 27) = W0 at kn ⊢
  generalize w.heap.size + 1 + 1 = bq at kn ⊢
  generalize w.heap.size + 1 = bp at kn ⊢
  generalize hz : w.heap.size = bl at kn ⊢
  clear hz
  have yl0 := kn.out.here.2.2.1.k0
  have yl1 := kn.out.here.2.2.1.k1
  go_upto_region 3 with (first | (go_at_call 10; (with_reducible refine (fine_lv (kn.out.here.2.2.2.1)).mono ?_); rintro e wf ⟨rfl, hb⟩; have kf := Aside0.mk (kn.out.step hb); clear hb kn) | (go_at_call 11; (with_reducible refine (shown_is _).mono ?_); rintro e wg ⟨rfl, hb⟩; have kn := Aside0.mk (kf.out.step hb); clear hb kf))
  clear yl0 yl1
  have yl0 := kn.out.here.2.2.1.k0
  have yl1 := kn.out.here.2.2.1.k1
  have yp0 := kn.out.here.2.1.k0
  have yp1 := kn.out.here.2.1.k1
  go_upto_region 4 with (first | (go_at_call 13; (with_reducible refine (reserve_is n m A c B d L t ai aK S _ ⟨kn.out.here.2.2.2.1⟩ ha0 L1 k1 e1 h1.out).mono ?_); rintro e w1 ⟨S1, A1, c1, B1, d1, rfl, hl, hS, hb⟩; replace hb := Aside0.mk hb; replace hl := Aside0.mk hl))
  clear yl0 yl1 yp0 yp1
  replace kn := Aside0.mk (Kn.cons (Bx.new w1 (.slice A1 n c1) (.slice B1 m d1) 25).kn (Kn.cons (hl.out.below (bal w1 (.cells #[.slice A1 n c1, .slice B1 m d1] 25))).kn (kn.out.step (hb.out.alloc hb.out.size (.cells #[.slice A1 n c1, .slice B1 m d1] 25)))))
  clear hb hl
  generalize w1.alloc (.cells #[.slice A1 n c1, .slice B1 m d1] 25) = W1 at kn ⊢
  generalize w1.heap.size = b1 at kn ⊢
  have yl0 := kn.out.here.2.2.2.2.1.k0
  have yl1 := kn.out.here.2.2.2.2.1.k1
  have yp0 := kn.out.here.2.2.2.1.k0
  have yp1 := kn.out.here.2.2.2.1.k1
  go_upto_region 5 with (first | (go_at_call 15; (with_reducible refine (some_is n m A c B d L t ai aK S _ ⟨kn.out.here.2.2.2.2.2.1⟩ ha0 L2 k2 e2 h2.out).mono ?_); rintro e w2 ⟨S2, A2, c2, B2, d2, rfl, hl, hS, hb⟩; replace hb := Aside0.mk hb; replace hl := Aside0.mk hl))
  clear yl0 yl1 yp0 yp1
  replace kn := Aside0.mk (Kn.cons (Bx.new w2 (.slice A2 n c2) (.slice B2 m d2) 25).kn (Kn.cons (hl.out.below (bal w2 (.cells #[.slice A2 n c2, .slice B2 m d2] 25))).kn (kn.out.step (hb.out.alloc hb.out.size (.cells #[.slice A2 n c2, .slice B2 m d2] 25)))))
  clear hb hl
  generalize w2.alloc (.cells #[.slice A2 n c2, .slice B2 m d2] 25) = W2 at kn ⊢
  generalize w2.heap.size = b2 at kn ⊢
  have yl0 := kn.out.here.2.2.2.2.2.2.1.k0
  have yl1 := kn.out.here.2.2.2.2.2.2.1.k1
  have yp0 := kn.out.here.2.2.2.2.2.1.k0
  have yp1 := kn.out.here.2.2.2.2.2.1.k1
  go_upto_region 6 with (first | (go_at_call 17; (with_reducible refine (release_is n m A c B d L t ai aK S _ ⟨kn.out.here.2.2.2.2.2.2.2.1⟩ ha0 L3 k3 e3 h3.out).mono ?_); rintro e w3 ⟨S3, A3, c3, B3, d3, rfl, hl, hS, hb⟩; replace hb := Aside0.mk hb; replace hl := Aside0.mk hl))
  clear yl0 yl1 yp0 yp1
  replace kn := Aside0.mk (Kn.cons (Bx.new w3 (.slice A3 n c3) (.slice B3 m d3) 25).kn (Kn.cons (hl.out.below (bal w3 (.cells #[.slice A3 n c3, .slice B3 m d3] 25))).kn (kn.out.step (hb.out.alloc hb.out.size (.cells #[.slice A3 n c3, .slice B3 m d3] 25)))))
  clear hb hl
  generalize w3.alloc (.cells #[.slice A3 n c3, .slice B3 m d3] 25) = W3 at kn ⊢
  generalize w3.heap.size = b3 at kn ⊢
  have yl0 := kn.out.here.2.2.2.2.2.2.2.2.1.k0
  have yl1 := kn.out.here.2.2.2.2.2.2.2.2.1.k1
  have yp0 := kn.out.here.2.2.2.2.2.2.2.1.k0
  have yp1 := kn.out.here.2.2.2.2.2.2.2.1.k1
  have yq0 := kn.out.here.2.2.2.2.2.2.1.k0
  have yq1 := kn.out.here.2.2.2.2.2.2.1.k1
  go_upto_region 7 with (first | (go_at_call 22; (with_reducible refine (both_is n m A c B d L t ai aK bi bK S _ ⟨kn.out.here.2.2.2.2.2.2.2.2.2.1⟩ ha0 hb0 L4 k4 e4 h4.out).mono ?_); rintro e w4 ⟨S4, A4, c4, B4, d4, rfl, hl, hS, hb⟩; replace hb := Aside0.mk hb; replace hl := Aside0.mk hl))
  clear yl0 yl1 yp0 yp1 yq0 yq1
  replace kn := Aside0.mk (Kn.cons (Bx.new w4 (.slice A4 n c4) (.slice B4 m d4) 25).kn (Kn.cons (hl.out.below (bal w4 (.cells #[.slice A4 n c4, .slice B4 m d4] 25))).kn (kn.out.step (hb.out.alloc hb.out.size (.cells #[.slice A4 n c4, .slice B4 m d4] 25)))))
  clear hb hl
  generalize w4.alloc (.cells #[.slice A4 n c4, .slice B4 m d4] 25) = W4 at kn ⊢
  generalize w4.heap.size = b4 at kn ⊢
  have yl0 := kn.out.here.2.2.2.2.2.2.2.2.2.2.1.k0
  have yl1 := kn.out.here.2.2.2.2.2.2.2.2.2.2.1.k1
  have yp0 := kn.out.here.2.2.2.2.2.2.2.2.2.1.k0
  have yp1 := kn.out.here.2.2.2.2.2.2.2.2.2.1.k1
  go_upto_region 8 with (first | (go_at_call 20; (with_reducible refine (restock_is n m A c B d L ai aK S _ ⟨kn.out.here.2.2.2.2.2.2.2.2.2.2.2.1⟩ ha0 L5 e5 h5.out).mono ?_); rintro e w5 ⟨S5, A5, c5, B5, d5, rfl, hl, hS, hb⟩; replace hb := Aside0.mk hb; replace hl := Aside0.mk hl))
  clear yl0 yl1 yp0 yp1
  replace kn := Aside0.mk (Kn.cons (Bx.new w5 (.slice A5 n c5) (.slice B5 m d5) 25).kn (Kn.cons (hl.out.below (bal w5 (.cells #[.slice A5 n c5, .slice B5 m d5] 25))).kn (kn.out.step (hb.out.alloc hb.out.size (.cells #[.slice A5 n c5, .slice B5 m d5] 25)))))
  clear hb hl
  generalize w5.alloc (.cells #[.slice A5 n c5, .slice B5 m d5] 25) = W5 at kn ⊢
  generalize w5.heap.size = b5 at kn ⊢
  have y10 := kn.out.here.2.2.2.2.2.2.2.2.1.k0
  have y11 := kn.out.here.2.2.2.2.2.2.2.2.1.k1
  have y20 := kn.out.here.2.2.2.2.2.2.1.k0
  have y21 := kn.out.here.2.2.2.2.2.2.1.k1
  have y30 := kn.out.here.2.2.2.2.1.k0
  have y31 := kn.out.here.2.2.2.2.1.k1
  have y40 := kn.out.here.2.2.1.k0
  have y41 := kn.out.here.2.2.1.k1
  go_upto_region 10 with (fail)
  clear y10 y11 y20 y21 y30 y31 y40 y41
  replace kn := Aside0.mk (Kn.cons (rw_kn (RW.eight W5 (.slice A1 n c1) (.slice B1 m d1) (.slice A2 n c2) (.slice B2 m d2) (.slice A3 n c3) (.slice B3 m d3) (.slice A4 n c4) (.slice B4 m d4) 25)) (kn.out.step (bal W5 (.cells #[.slice A1 n c1, .slice B1 m d1, .slice A2 n c2, .slice B2 m d2, .slice A3 n c3, .slice B3 m d3, .slice A4 n c4, .slice B4 m d4] 25))))
  generalize W5.alloc (.cells #[.slice A1 n c1, .slice B1 m d1, .slice A2 n c2, .slice B2 m d2, .slice A3 n c3, .slice B3 m d3, .slice A4 n c4, .slice B4 m d4] 25) = W8 at kn ⊢
  generalize W5.heap.size = x8 at kn ⊢
  have hn20 := kn.out.here.2.2.2.2.2.2.2.2.2.2.2.2.2.2.1.g.n20
  have hm40 := kn.out.here.2.2.2.2.2.2.2.2.2.2.2.2.2.2.1.g.m40
  replace hn20 := Aside0.mk hn20
  replace hm40 := Aside0.mk hm40
  go_loopw [24, 25, 26] (fun v24 v25 v26 wr => ∃ i : Nat, i ≤ n ∧ v24 = .int .i64 i ∧ Aside0 (Kn (fun W => RW x8 8 (fun i => [.slice A1 n c1, .slice B1 m d1, .slice A2 n c2, .slice B2 m d2, .slice A3 n c3, .slice B3 m d3, .slice A4 n c4, .slice B4 m d4].getD i undef) W ∧ Bx b5 (.slice A5 n c5) (.slice B5 m d5) W ∧ LV S5 n m A5 c5 B5 d5 L5 W ∧ Bx b4 (.slice A4 n c4) (.slice B4 m d4) W ∧ LV S4 n m A4 c4 B4 d4 L4 W ∧ Bx b3 (.slice A3 n c3) (.slice B3 m d3) W ∧ LV S3 n m A3 c3 B3 d3 L3 W ∧ Bx b2 (.slice A2 n c2) (.slice B2 m d2) W ∧ LV S2 n m A2 c2 B2 d2 L2 W ∧ Bx b1 (.slice A1 n c1) (.slice B1 m d1) W ∧ LV S1 n m A1 c1 B1 d1 L1 W ∧ Bx bq (.int .i64 bi) (.int .i64 bK) W ∧ Bx bp (.int .i64 ai) (.int .i64 aK) W ∧ Bx bl (.slice A n c) (.slice B m d) W ∧ LV S n m A c B d L W ∧ Tb w W) wr)) (fun v _ _ _ => n - (intOf v).toNat)
  case atStart => exact ⟨0, by omega, rfl, kn⟩
  case round =>
    clear kn
    obtain ⟨i, hi, rfl, kn⟩ := hrel
    have hwi : IntKind.i64.wrap ((i : Int) + 1) = (i : Int) + 1 := by have := hn20.out; rw [Go.IntKind.wrap_i64]; omega
    by_cases hin : (i : Int) < n
    · obtain ⟨tl, htl⟩ : ∃ x, tot0 n L (i : Int) = x := ⟨_, rfl⟩
      obtain ⟨mo, hmo⟩ : ∃ x : Int, x = if e5 = 0 ∧ (i : Int) = ai then aK else 0 := ⟨_, rfl⟩
      obtain ⟨tz, hz⟩ : ∃ x, wrap64 (tl + mo) = x := ⟨_, rfl⟩
      have htz : Aside0 (tot0 n L5 (i : Int) = tz) := ⟨by
        have htI : I64 tl := by rw [← htl]; exact tot0_I64 _ _ _
        rw [hq5.out i (by omega), htl, ← hz, hmo]
        by_cases hc : e5 = 0 ∧ (i : Int) = ai
        · rw [if_pos hc, if_pos hc]
        · rw [if_neg hc, if_neg hc, Int.add_zero, wrap64_of htI]⟩
      have hz1 : IntKind.i64.wrap (tl + mo) = tz := by rw [← hz, Go.IntKind.wrap_i64]; unfold wrap64; rfl
      replace hmo := Aside0.mk hmo
      replace htl := Aside0.mk htl
      have yl0 := kn.out.here.2.2.2.2.2.2.2.2.2.2.2.2.2.1.k0
      have yl1 := kn.out.here.2.2.2.2.2.2.2.2.2.2.2.2.2.1.k1
      have yp0 := kn.out.here.2.2.2.2.2.2.2.2.2.2.2.2.1.k0
      have yp1 := kn.out.here.2.2.2.2.2.2.2.2.2.2.2.2.1.k1
      obtain ⟨bb, hbb⟩ : ∃ x : Bool, x = decide (e5 = 0 ∧ (i : Int) = ai) := ⟨_, rfl⟩
      replace hbb := Aside0.mk hbb
      go_upto_region 13 with (fail)
      go_cut [96, 25] from 82 to 133 (fun s96 s25 wx => s96 = .bool bb ∧ s25 = .int .i64 0 ∧ Aside0 (Kn (fun W => RW x8 8 (fun i => [.slice A1 n c1, .slice B1 m d1, .slice A2 n c2, .slice B2 m d2, .slice A3 n c3, .slice B3 m d3, .slice A4 n c4, .slice B4 m d4].getD i undef) W ∧ Bx b5 (.slice A5 n c5) (.slice B5 m d5) W ∧ LV S5 n m A5 c5 B5 d5 L5 W ∧ Bx b4 (.slice A4 n c4) (.slice B4 m d4) W ∧ LV S4 n m A4 c4 B4 d4 L4 W ∧ Bx b3 (.slice A3 n c3) (.slice B3 m d3) W ∧ LV S3 n m A3 c3 B3 d3 L3 W ∧ Bx b2 (.slice A2 n c2) (.slice B2 m d2) W ∧ LV S2 n m A2 c2 B2 d2 L2 W ∧ Bx b1 (.slice A1 n c1) (.slice B1 m d1) W ∧ LV S1 n m A1 c1 B1 d1 L1 W ∧ Bx bq (.int .i64 bi) (.int .i64 bK) W ∧ Bx bp (.int .i64 ai) (.int .i64 aK) W ∧ Bx bl (.slice A n c) (.slice B m d) W ∧ LV S n m A c B d L W ∧ Tb w W) wx))
      case first =>
        cases hE : (e5 == 0) with
        | false =>
          go_wp2
          go_meet
          exact ⟨by rw [hbb.out, decide_eq_false (fun h => by rw [h.1] at hE; simp at hE)], rfl, kn⟩
        | true =>
          cases hA : ((i : Int) == ai) with
          | false =>
            go_wp2
            go_meet
            exact ⟨by rw [hbb.out, decide_eq_false (fun h => by rw [h.2] at hA; simp at hA)], rfl, kn⟩
          | true =>
            go_wp2
            go_meet
            exact ⟨by rw [hbb.out, decide_eq_true ⟨by simpa using hE, by simpa using hA⟩], rfl, kn⟩
      case rest =>
        clear kn yl0 yl1 yp0 yp1
        obtain ⟨rfl, rfl, kn⟩ := hcut
        go_upto_if 96 with (fail)
        have yp0 := kn.out.here.2.2.2.2.2.2.2.2.2.2.2.2.1.k0
        have yp1 := kn.out.here.2.2.2.2.2.2.2.2.2.2.2.2.1.k1
        go_cut [25] from 82 to 133 (fun s25 wx => s25 = .int .i64 mo ∧ Aside0 (Kn (fun W => RW x8 8 (fun i => [.slice A1 n c1, .slice B1 m d1, .slice A2 n c2, .slice B2 m d2, .slice A3 n c3, .slice B3 m d3, .slice A4 n c4, .slice B4 m d4].getD i undef) W ∧ Bx b5 (.slice A5 n c5) (.slice B5 m d5) W ∧ LV S5 n m A5 c5 B5 d5 L5 W ∧ Bx b4 (.slice A4 n c4) (.slice B4 m d4) W ∧ LV S4 n m A4 c4 B4 d4 L4 W ∧ Bx b3 (.slice A3 n c3) (.slice B3 m d3) W ∧ LV S3 n m A3 c3 B3 d3 L3 W ∧ Bx b2 (.slice A2 n c2) (.slice B2 m d2) W ∧ LV S2 n m A2 c2 B2 d2 L2 W ∧ Bx b1 (.slice A1 n c1) (.slice B1 m d1) W ∧ LV S1 n m A1 c1 B1 d1 L1 W ∧ Bx bq (.int .i64 bi) (.int .i64 bK) W ∧ Bx bp (.int .i64 ai) (.int .i64 aK) W ∧ Bx bl (.slice A n c) (.slice B m d) W ∧ LV S n m A c B d L W ∧ Tb w W) wx))
        case first =>
          cases bb with
          | false =>
            go_wp2
            go_meet
            exact ⟨by rw [hmo.out, if_neg (of_decide_eq_false hbb.out.symm)], kn⟩
          | true =>
            go_wp2
            go_meet
            exact ⟨by rw [hmo.out, if_pos (of_decide_eq_true hbb.out.symm)], kn⟩
        case rest =>
          clear kn yp0 yp1
          obtain ⟨rfl, kn⟩ := hcut
          go_upto_region 15 with (fail)
          have kd := Aside0.mk (kn.out.step (below_drew1 (Below.refl wc.heap.size wc)))
          clear kn
          refine start_ (n := 10) (S := fun w' => w'.cell? ⟨b5, 0, none⟩ = some (.slice A5 n c5) ∧ w'.cell? ⟨b5, 1, none⟩ = some (.slice B5 m d5) ∧ w'.cell? ⟨bl, 0, none⟩ = some (.slice A n c) ∧ w'.cell? ⟨bl, 1, none⟩ = some (.slice B m d) ∧ Aside0 (Kn (fun W => RW x8 8 (fun i => [.slice A1 n c1, .slice B1 m d1, .slice A2 n c2, .slice B2 m d2, .slice A3 n c3, .slice B3 m d3, .slice A4 n c4, .slice B4 m d4].getD i undef) W ∧ Bx b5 (.slice A5 n c5) (.slice B5 m d5) W ∧ LV S5 n m A5 c5 B5 d5 L5 W ∧ Bx b4 (.slice A4 n c4) (.slice B4 m d4) W ∧ LV S4 n m A4 c4 B4 d4 L4 W ∧ Bx b3 (.slice A3 n c3) (.slice B3 m d3) W ∧ LV S3 n m A3 c3 B3 d3 L3 W ∧ Bx b2 (.slice A2 n c2) (.slice B2 m d2) W ∧ LV S2 n m A2 c2 B2 d2 L2 W ∧ Bx b1 (.slice A1 n c1) (.slice B1 m d1) W ∧ LV S1 n m A1 c1 B1 d1 L1 W ∧ Bx bq (.int .i64 bi) (.int .i64 bK) W ∧ Bx bp (.int .i64 ai) (.int .i64 aK) W ∧ Bx bl (.slice A n c) (.slice B m d) W ∧ LV S n m A c B d L W ∧ Tb w W) w')) (ds := []) #[false, false, false, false, false, false, false, false, false, false] (by kernel_rfl) rfl rfl ⟨kd.out.here.2.1.k0, kd.out.here.2.1.k1, kd.out.here.2.2.2.2.2.2.2.2.2.2.2.2.2.1.k0, kd.out.here.2.2.2.2.2.2.2.2.2.2.2.2.2.1.k1, kd⟩ (fun hHeld => ?_)
          generalize wc.drew = V5 at kd hHeld ⊢
          refine pure_ (i := 1) (N := some 100) (v := ?_) (a' := ?_) #[false, true, false, false, false, false, false, false, false, false] rfl rfl (by kernel_rfl) (fun _ _ _ h => h) (Or.inl ⟨by rfl, ?_⟩) ?_ ?_
          rotate_left
          · intro w'
            go_simp
            with_reducible rfl
          rotate_left
          · simp only [Act.put, List.setIfInBounds_toArray, List.set_cons_zero, List.set_cons_succ, i64_w, i32_w]
            rfl
          refine pure_ (i := 5) (N := some 104) (v := ?_) (a' := ?_) #[false, true, false, false, false, true, false, false, false, false] rfl rfl (by kernel_rfl) (fun _ _ _ h => h) (Or.inl ⟨by rfl, ?_⟩) ?_ ?_
          rotate_left
          · intro w'
            go_simp
            with_reducible rfl
          rotate_left
          · simp only [Act.put, List.setIfInBounds_toArray, List.set_cons_zero, List.set_cons_succ, i64_w, i32_w]
            rfl
          refine pure_ (i := 7) (N := some 106) (v := ?_) (a' := ?_) #[false, true, false, false, false, true, false, true, false, false] rfl rfl (by kernel_rfl) (fun _ _ _ h => h) (Or.inl ⟨by rfl, ?_⟩) ?_ ?_
          rotate_left
          · intro w'
            go_simp
            with_reducible rfl
          rotate_left
          · simp only [Act.put, List.setIfInBounds_toArray, List.set_cons_zero, List.set_cons_succ, i64_w, i32_w]
            rfl
          refine take_ (i := 0) (N := some 99) (v := ?_) (a' := ?_) #[true, true, false, false, false, true, false, true, false, false] rfl rfl (by kernel_rfl) (fun _ _ _ h => h) (Or.inl ⟨by rfl, ?_⟩) hHeld ?_ ?_
          rotate_left
          · rintro w' ⟨s0, s1, s2, s3, s4⟩
            go_simp
            with_reducible rfl
          rotate_left
          · simp only [Act.put, List.setIfInBounds_toArray, List.set_cons_zero, List.set_cons_succ, i64_w, i32_w]
            rfl
          refine take_ (i := 3) (N := some 102) (v := ?_) (a' := ?_) #[true, true, false, true, false, true, false, true, false, false] rfl rfl (by kernel_rfl) (fun _ _ _ h => h) (Or.inl ⟨by rfl, ?_⟩) hHeld ?_ ?_
          rotate_left
          · rintro w' ⟨s0, s1, s2, s3, s4⟩
            go_simp
            with_reducible rfl
          rotate_left
          · simp only [Act.put, List.setIfInBounds_toArray, List.set_cons_zero, List.set_cons_succ, i64_w, i32_w]
            rfl
          refine one_ (i := 2) (N := some 101) #[true, true, true, true, false, true, false, true, false, false] rfl rfl (by kernel_rfl) (by decide) (fun K hK => ?_)
          refine goes_ Try.func26 (by kernel_rfl) rfl #[.agg #[.slice A5 n c5, .slice B5 m d5], .int .i64 (i : Int)] (by rfl) rfl rfl (by simp only [List.map_toArray, List.map_cons, List.map_nil]; rfl) ?_
          with_reducible refine (total_v (i : Int) tz ((hHeld.2.2.2.2).out.here.2.2.1) htz.out).mono ?_
          rintro e x2 ⟨rfl, hb⟩
          refine ⟨_, rfl, ?_⟩
          have kz := Aside0.mk (hHeld.2.2.2.2.out.step hb)
          clear hHeld hb
          refine hK.out _ _ ⟨kz.out.here.2.1.k0, kz.out.here.2.1.k1, kz.out.here.2.2.2.2.2.2.2.2.2.2.2.2.2.1.k0, kz.out.here.2.2.2.2.2.2.2.2.2.2.2.2.2.1.k1, kz⟩ (fun hHeld => ?_)
          clear hK K
          refine norm_ (a' := ?_) ?_ ?_
          rotate_left
          · show Act.put _ (some 101) _ = _
            simp only [Act.put, List.setIfInBounds_toArray, List.set_cons_zero, List.set_cons_succ, i64_w, i32_w]
            rfl
          refine one_ (i := 4) (N := some 103) #[true, true, true, true, true, true, false, true, false, false] rfl rfl (by kernel_rfl) (by decide) (fun K hK => ?_)
          refine goes_ Try.func12 (by kernel_rfl) rfl #[.agg #[.slice A n c, .slice B m d]] (by rfl) rfl rfl (by simp only [List.map_toArray, List.map_cons, List.map_nil]; rfl) ?_
          with_reducible refine (its_is A n c B m d _).mono ?_
          rintro e x4 ⟨rfl, hb⟩
          refine ⟨_, rfl, ?_⟩
          have kz := Aside0.mk (hHeld.2.2.2.2.out.step hb)
          clear hHeld hb
          refine hK.out _ _ ⟨kz.out.here.2.1.k0, kz.out.here.2.1.k1, kz.out.here.2.2.2.2.2.2.2.2.2.2.2.2.2.1.k0, kz.out.here.2.2.2.2.2.2.2.2.2.2.2.2.2.1.k1, kz⟩ (fun hHeld => ?_)
          clear hK K
          refine norm_ (a' := ?_) ?_ ?_
          rotate_left
          · show Act.put _ (some 103) _ = _
            simp only [Act.put, List.setIfInBounds_toArray, List.set_cons_zero, List.set_cons_succ, i64_w, i32_w]
            rfl
          refine one_ (i := 6) (N := some 105) #[true, true, true, true, true, true, true, true, false, false] rfl rfl (by kernel_rfl) (by decide) (fun K hK => ?_)
          refine goes_ Try.func27 (by kernel_rfl) rfl #[.agg #[.slice A n c, .slice B m d], .int .i64 (i : Int)] (by rfl) rfl rfl (by simp only [List.map_toArray, List.map_cons, List.map_nil]; rfl) ?_
          with_reducible refine (rtotal_v (i : Int) tl ((hHeld.2.2.2.2).out.here.2.2.2.2.2.2.2.2.2.2.2.2.2.2.1) htl.out).mono ?_
          rintro e x6 ⟨rfl, hb⟩
          refine ⟨_, rfl, ?_⟩
          have kz := Aside0.mk (hHeld.2.2.2.2.out.step hb)
          clear hHeld hb
          refine hK.out _ _ ⟨kz.out.here.2.1.k0, kz.out.here.2.1.k1, kz.out.here.2.2.2.2.2.2.2.2.2.2.2.2.2.1.k0, kz.out.here.2.2.2.2.2.2.2.2.2.2.2.2.2.1.k1, kz⟩ (fun hHeld => ?_)
          clear hK K
          refine norm_ (a' := ?_) ?_ ?_
          rotate_left
          · show Act.put _ (some 105) _ = _
            simp only [Act.put, List.setIfInBounds_toArray, List.set_cons_zero, List.set_cons_succ, i64_w, i32_w]
            rfl
          refine pure_ (i := 8) (N := some 107) (v := ?_) (a' := ?_) #[true, true, true, true, true, true, true, true, true, false] rfl rfl (by kernel_rfl) (fun _ _ _ h => h) (Or.inl ⟨by rfl, ?_⟩) ?_ ?_
          rotate_left
          · intro w'
            go_simp
            with_reducible rfl
          rotate_left
          · simp only [Act.put, List.setIfInBounds_toArray, List.set_cons_zero, List.set_cons_succ, i64_w, i32_w]
            rfl
          refine pure_ (i := 9) (N := some 108) (v := ?_) (a' := ?_) #[true, true, true, true, true, true, true, true, true, true] rfl rfl (by kernel_rfl) (fun _ _ _ h => h) (Or.inl ⟨by rfl, ?_⟩) ?_ ?_
          rotate_left
          · intro w'
            go_simp
            with_reducible rfl
          rotate_left
          · simp only [Act.put, List.setIfInBounds_toArray, List.set_cons_zero, List.set_cons_succ, i64_w, i32_w]
            rfl
          refine done_ (by kernel_rfl) ?_
          have kn := hHeld.2.2.2.2
          clear hHeld kd kz
          go_upto_region 18 with (fail)
          go_loopw [26] (fun v26 wr2 => ∃ k : Nat, k ≤ 4 ∧ v26 = .int .i64 k ∧ Aside0 (Kn (fun W => RW x8 8 (fun i => [.slice A1 n c1, .slice B1 m d1, .slice A2 n c2, .slice B2 m d2, .slice A3 n c3, .slice B3 m d3, .slice A4 n c4, .slice B4 m d4].getD i undef) W ∧ Bx b5 (.slice A5 n c5) (.slice B5 m d5) W ∧ LV S5 n m A5 c5 B5 d5 L5 W ∧ Bx b4 (.slice A4 n c4) (.slice B4 m d4) W ∧ LV S4 n m A4 c4 B4 d4 L4 W ∧ Bx b3 (.slice A3 n c3) (.slice B3 m d3) W ∧ LV S3 n m A3 c3 B3 d3 L3 W ∧ Bx b2 (.slice A2 n c2) (.slice B2 m d2) W ∧ LV S2 n m A2 c2 B2 d2 L2 W ∧ Bx b1 (.slice A1 n c1) (.slice B1 m d1) W ∧ LV S1 n m A1 c1 B1 d1 L1 W ∧ Bx bq (.int .i64 bi) (.int .i64 bK) W ∧ Bx bp (.int .i64 ai) (.int .i64 aK) W ∧ Bx bl (.slice A n c) (.slice B m d) W ∧ LV S n m A c B d L W ∧ Tb w W) wr2)) (fun v _ => 4 - (intOf v).toNat)
          case atStart => exact ⟨0, by omega, rfl, kn⟩
          case round =>
            clear kn
            obtain ⟨k, hk, rfl, kn⟩ := hrel
            by_cases hk4 : k < 4
            · obtain rfl | rfl | rfl | rfl : k = 0 ∨ k = 1 ∨ k = 2 ∨ k = 3 := by omega
              · go_upto_region 20 with (fail)
                have kd := Aside0.mk (kn.out.step (below_drew1 (Below.refl wr.heap.size wr)))
                clear kn
                refine start_ (n := 19) (S := fun w' => w'.cell? ⟨bl, 0, none⟩ = some (.slice A n c) ∧ w'.cell? ⟨bl, 1, none⟩ = some (.slice B m d) ∧ w'.cell? ⟨x8, 0, none⟩ = some (.slice A1 n c1) ∧ w'.cell? ⟨x8, 1, none⟩ = some (.slice B1 m d1) ∧ Aside0 (Kn (fun W => RW x8 8 (fun i => [.slice A1 n c1, .slice B1 m d1, .slice A2 n c2, .slice B2 m d2, .slice A3 n c3, .slice B3 m d3, .slice A4 n c4, .slice B4 m d4].getD i undef) W ∧ Bx b5 (.slice A5 n c5) (.slice B5 m d5) W ∧ LV S5 n m A5 c5 B5 d5 L5 W ∧ Bx b4 (.slice A4 n c4) (.slice B4 m d4) W ∧ LV S4 n m A4 c4 B4 d4 L4 W ∧ Bx b3 (.slice A3 n c3) (.slice B3 m d3) W ∧ LV S3 n m A3 c3 B3 d3 L3 W ∧ Bx b2 (.slice A2 n c2) (.slice B2 m d2) W ∧ LV S2 n m A2 c2 B2 d2 L2 W ∧ Bx b1 (.slice A1 n c1) (.slice B1 m d1) W ∧ LV S1 n m A1 c1 B1 d1 L1 W ∧ Bx bq (.int .i64 bi) (.int .i64 bK) W ∧ Bx bp (.int .i64 ai) (.int .i64 aK) W ∧ Bx bl (.slice A n c) (.slice B m d) W ∧ LV S n m A c B d L W ∧ Tb w W) w')) (ds := []) #[false, false, false, false, false, false, false, false, false, false, false, false, false, false, false, false, false, false, false] (by kernel_rfl) rfl rfl ⟨kd.out.here.2.2.2.2.2.2.2.2.2.2.2.2.2.1.k0, kd.out.here.2.2.2.2.2.2.2.2.2.2.2.2.2.1.k1, kd.out.here.1.e 0 (by decide), kd.out.here.1.e 1 (by decide), kd⟩ (fun hHeld => ?_)
                generalize wr.drew = V5 at kd hHeld ⊢
                refine pure_ (i := 0) (N := some 115) (v := ?_) (a' := ?_) #[true, false, false, false, false, false, false, false, false, false, false, false, false, false, false, false, false, false, false] rfl rfl (by kernel_rfl) (fun _ _ _ h => h) (Or.inl ⟨by rfl, ?_⟩) ?_ ?_
                rotate_left
                · intro w'
                  go_simp
                  with_reducible rfl
                rotate_left
                · simp only [Act.put, List.setIfInBounds_toArray, List.set_cons_zero, List.set_cons_succ, i64_w, i32_w]
                  rfl
                refine pure_ (i := 1) (N := some 116) (v := ?_) (a' := ?_) #[true, true, false, false, false, false, false, false, false, false, false, false, false, false, false, false, false, false, false] rfl rfl (by kernel_rfl) (fun _ _ _ h => h) (Or.inl ⟨by rfl, ?_⟩) ?_ ?_
                rotate_left
                · intro w'
                  go_simp
                  with_reducible rfl
                rotate_left
                · simp only [Act.put, List.setIfInBounds_toArray, List.set_cons_zero, List.set_cons_succ, i64_w, i32_w]
                  rfl
                refine pure_ (i := 2) (N := some 117) (v := ?_) (a' := ?_) #[true, true, true, false, false, false, false, false, false, false, false, false, false, false, false, false, false, false, false] rfl rfl (by kernel_rfl) (fun _ _ _ h => h) (Or.inl ⟨by rfl, ?_⟩) ?_ ?_
                rotate_left
                · intro w'
                  go_simp
                  with_reducible rfl
                rotate_left
                · simp only [Act.put, List.setIfInBounds_toArray, List.set_cons_zero, List.set_cons_succ, i64_w, i32_w]
                  rfl
                refine take_ (i := 3) (N := some 118) (v := ?_) (a' := ?_) #[true, true, true, true, false, false, false, false, false, false, false, false, false, false, false, false, false, false, false] rfl rfl (by kernel_rfl) (fun _ _ _ h => h) (Or.inl ⟨by rfl, ?_⟩) hHeld ?_ ?_
                rotate_left
                · rintro w' ⟨s0, s1, s2, s3, s4⟩
                  go_simp
                  with_reducible rfl
                rotate_left
                · simp only [Act.put, List.setIfInBounds_toArray, List.set_cons_zero, List.set_cons_succ, i64_w, i32_w]
                  rfl
                refine one_ (i := 4) (N := some 119) #[true, true, true, true, true, false, false, false, false, false, false, false, false, false, false, false, false, false, false] rfl rfl (by kernel_rfl) (by decide) (fun K hK => ?_)
                refine goes_ Try.func10 (by kernel_rfl) rfl #[.agg #[.slice A1 n c1, .slice B1 m d1]] (by rfl) rfl rfl (by simp only [List.map_toArray, List.map_cons, List.map_nil]; rfl) ?_
                with_reducible refine (fine_lv ((hHeld.2.2.2.2).out.here.2.2.2.2.2.2.2.2.2.2.1)).mono ?_
                rintro e x4 ⟨rfl, hb⟩
                refine ⟨_, rfl, ?_⟩
                have kz := Aside0.mk (hHeld.2.2.2.2.out.step hb)
                clear hHeld hb
                refine hK.out _ _ ⟨kz.out.here.2.2.2.2.2.2.2.2.2.2.2.2.2.1.k0, kz.out.here.2.2.2.2.2.2.2.2.2.2.2.2.2.1.k1, kz.out.here.1.e 0 (by decide), kz.out.here.1.e 1 (by decide), kz⟩ (fun hHeld => ?_)
                clear hK K
                refine norm_ (a' := ?_) ?_ ?_
                rotate_left
                · show Act.put _ (some 119) _ = _
                  simp only [Act.put, List.setIfInBounds_toArray, List.set_cons_zero, List.set_cons_succ, i64_w, i32_w]
                  rfl
                refine pure_ (i := 5) (N := some 120) (v := ?_) (a' := ?_) #[true, true, true, true, true, true, false, false, false, false, false, false, false, false, false, false, false, false, false] rfl rfl (by kernel_rfl) (fun _ _ _ h => h) (Or.inl ⟨by rfl, ?_⟩) ?_ ?_
                rotate_left
                · intro w'
                  go_simp
                  with_reducible rfl
                rotate_left
                · simp only [Act.put, List.setIfInBounds_toArray, List.set_cons_zero, List.set_cons_succ, i64_w, i32_w]
                  rfl
                refine pure_ (i := 6) (N := some 121) (v := ?_) (a' := ?_) #[true, true, true, true, true, true, true, false, false, false, false, false, false, false, false, false, false, false, false] rfl rfl (by kernel_rfl) (fun _ _ _ h => h) (Or.inl ⟨by rfl, ?_⟩) ?_ ?_
                rotate_left
                · intro w'
                  go_simp
                  with_reducible rfl
                rotate_left
                · simp only [Act.put, List.setIfInBounds_toArray, List.set_cons_zero, List.set_cons_succ, i64_w, i32_w]
                  rfl
                refine pure_ (i := 7) (N := some 122) (v := ?_) (a' := ?_) #[true, true, true, true, true, true, true, true, false, false, false, false, false, false, false, false, false, false, false] rfl rfl (by kernel_rfl) (fun _ _ _ h => h) (Or.inl ⟨by rfl, ?_⟩) ?_ ?_
                rotate_left
                · intro w'
                  go_simp
                  with_reducible rfl
                rotate_left
                · simp only [Act.put, List.setIfInBounds_toArray, List.set_cons_zero, List.set_cons_succ, i64_w, i32_w]
                  rfl
                refine pure_ (i := 8) (N := some 123) (v := ?_) (a' := ?_) #[true, true, true, true, true, true, true, true, true, false, false, false, false, false, false, false, false, false, false] rfl rfl (by kernel_rfl) (fun _ _ _ h => h) (Or.inl ⟨by rfl, ?_⟩) ?_ ?_
                rotate_left
                · intro w'
                  go_simp
                  with_reducible rfl
                rotate_left
                · simp only [Act.put, List.setIfInBounds_toArray, List.set_cons_zero, List.set_cons_succ, i64_w, i32_w]
                  rfl
                refine pure_ (i := 9) (N := some 124) (v := ?_) (a' := ?_) #[true, true, true, true, true, true, true, true, true, true, false, false, false, false, false, false, false, false, false] rfl rfl (by kernel_rfl) (fun _ _ _ h => h) (Or.inl ⟨by rfl, ?_⟩) ?_ ?_
                rotate_left
                · intro w'
                  go_simp
                  with_reducible rfl
                rotate_left
                · simp only [Act.put, List.setIfInBounds_toArray, List.set_cons_zero, List.set_cons_succ, i64_w, i32_w]
                  rfl
                refine pure_ (i := 12) (N := some 127) (v := ?_) (a' := ?_) #[true, true, true, true, true, true, true, true, true, true, false, false, true, false, false, false, false, false, false] rfl rfl (by kernel_rfl) (fun _ _ _ h => h) (Or.inl ⟨by rfl, ?_⟩) ?_ ?_
                rotate_left
                · intro w'
                  go_simp
                  with_reducible rfl
                rotate_left
                · simp only [Act.put, List.setIfInBounds_toArray, List.set_cons_zero, List.set_cons_succ, i64_w, i32_w]
                  rfl
                refine pure_ (i := 15) (N := some 130) (v := ?_) (a' := ?_) #[true, true, true, true, true, true, true, true, true, true, false, false, true, false, false, true, false, false, false] rfl rfl (by kernel_rfl) (fun _ _ _ h => h) (Or.inl ⟨by rfl, ?_⟩) ?_ ?_
                rotate_left
                · intro w'
                  go_simp
                  with_reducible rfl
                rotate_left
                · simp only [Act.put, List.setIfInBounds_toArray, List.set_cons_zero, List.set_cons_succ, i64_w, i32_w]
                  rfl
                refine take_ (i := 10) (N := some 125) (v := ?_) (a' := ?_) #[true, true, true, true, true, true, true, true, true, true, true, false, true, false, false, true, false, false, false] rfl rfl (by kernel_rfl) (fun _ _ _ h => h) (Or.inl ⟨by rfl, ?_⟩) hHeld ?_ ?_
                rotate_left
                · rintro w' ⟨s0, s1, s2, s3, s4⟩
                  go_simp
                  with_reducible rfl
                rotate_left
                · simp only [Act.put, List.setIfInBounds_toArray, List.set_cons_zero, List.set_cons_succ, i64_w, i32_w]
                  rfl
                refine take_ (i := 14) (N := some 129) (v := ?_) (a' := ?_) #[true, true, true, true, true, true, true, true, true, true, true, false, true, false, true, true, false, false, false] rfl rfl (by kernel_rfl) (fun _ _ _ h => h) (Or.inl ⟨by rfl, ?_⟩) hHeld ?_ ?_
                rotate_left
                · rintro w' ⟨s0, s1, s2, s3, s4⟩
                  go_simp
                  with_reducible rfl
                rotate_left
                · simp only [Act.put, List.setIfInBounds_toArray, List.set_cons_zero, List.set_cons_succ, i64_w, i32_w]
                  rfl
                refine one_ (i := 11) (N := some 126) #[true, true, true, true, true, true, true, true, true, true, true, true, true, false, true, true, false, false, false] rfl rfl (by kernel_rfl) (by decide) (fun K hK => ?_)
                refine goes_ Try.func12 (by kernel_rfl) rfl #[.agg #[.slice A1 n c1, .slice B1 m d1]] (by rfl) rfl rfl (by simp only [List.map_toArray, List.map_cons, List.map_nil]; rfl) ?_
                with_reducible refine (its_is A1 n c1 B1 m d1 _).mono ?_
                rintro e x11 ⟨rfl, hb⟩
                refine ⟨_, rfl, ?_⟩
                have kz := Aside0.mk (hHeld.2.2.2.2.out.step hb)
                clear hHeld hb
                refine hK.out _ _ ⟨kz.out.here.2.2.2.2.2.2.2.2.2.2.2.2.2.1.k0, kz.out.here.2.2.2.2.2.2.2.2.2.2.2.2.2.1.k1, kz.out.here.1.e 0 (by decide), kz.out.here.1.e 1 (by decide), kz⟩ (fun hHeld => ?_)
                clear hK K
                refine norm_ (a' := ?_) ?_ ?_
                rotate_left
                · show Act.put _ (some 126) _ = _
                  simp only [Act.put, List.setIfInBounds_toArray, List.set_cons_zero, List.set_cons_succ, i64_w, i32_w]
                  rfl
                refine one_ (i := 13) (N := some 128) #[true, true, true, true, true, true, true, true, true, true, true, true, true, true, true, true, false, false, false] rfl rfl (by kernel_rfl) (by decide) (fun K hK => ?_)
                refine goes_ Try.func27 (by kernel_rfl) rfl #[.agg #[.slice A1 n c1, .slice B1 m d1], .int .i64 (i : Int)] (by rfl) rfl rfl (by simp only [List.map_toArray, List.map_cons, List.map_nil]; rfl) ?_
                with_reducible refine (rtotal_v (i : Int) tl ((hHeld.2.2.2.2).out.here.2.2.2.2.2.2.2.2.2.2.1) ((hq1.out (i : Int)).trans htl.out)).mono ?_
                rintro e x13 ⟨rfl, hb⟩
                refine ⟨_, rfl, ?_⟩
                have kz := Aside0.mk (hHeld.2.2.2.2.out.step hb)
                clear hHeld hb
                refine hK.out _ _ ⟨kz.out.here.2.2.2.2.2.2.2.2.2.2.2.2.2.1.k0, kz.out.here.2.2.2.2.2.2.2.2.2.2.2.2.2.1.k1, kz.out.here.1.e 0 (by decide), kz.out.here.1.e 1 (by decide), kz⟩ (fun hHeld => ?_)
                clear hK K
                refine norm_ (a' := ?_) ?_ ?_
                rotate_left
                · show Act.put _ (some 128) _ = _
                  simp only [Act.put, List.setIfInBounds_toArray, List.set_cons_zero, List.set_cons_succ, i64_w, i32_w]
                  rfl
                refine one_ (i := 16) (N := some 131) #[true, true, true, true, true, true, true, true, true, true, true, true, true, true, true, true, true, false, false] rfl rfl (by kernel_rfl) (by decide) (fun K hK => ?_)
                refine goes_ Try.func26 (by kernel_rfl) rfl #[.agg #[.slice A n c, .slice B m d], .int .i64 (i : Int)] (by rfl) rfl rfl (by simp only [List.map_toArray, List.map_cons, List.map_nil]; rfl) ?_
                with_reducible refine (total_v (i : Int) tl ((hHeld.2.2.2.2).out.here.2.2.2.2.2.2.2.2.2.2.2.2.2.2.1) htl.out).mono ?_
                rintro e x16 ⟨rfl, hb⟩
                refine ⟨_, rfl, ?_⟩
                have kz := Aside0.mk (hHeld.2.2.2.2.out.step hb)
                clear hHeld hb
                refine hK.out _ _ ⟨kz.out.here.2.2.2.2.2.2.2.2.2.2.2.2.2.1.k0, kz.out.here.2.2.2.2.2.2.2.2.2.2.2.2.2.1.k1, kz.out.here.1.e 0 (by decide), kz.out.here.1.e 1 (by decide), kz⟩ (fun hHeld => ?_)
                clear hK K
                refine norm_ (a' := ?_) ?_ ?_
                rotate_left
                · show Act.put _ (some 131) _ = _
                  simp only [Act.put, List.setIfInBounds_toArray, List.set_cons_zero, List.set_cons_succ, i64_w, i32_w]
                  rfl
                refine pure_ (i := 17) (N := some 132) (v := ?_) (a' := ?_) #[true, true, true, true, true, true, true, true, true, true, true, true, true, true, true, true, true, true, false] rfl rfl (by kernel_rfl) (fun _ _ _ h => h) (Or.inl ⟨by rfl, ?_⟩) ?_ ?_
                rotate_left
                · intro w'
                  go_simp
                  with_reducible rfl
                rotate_left
                · simp only [Act.put, List.setIfInBounds_toArray, List.set_cons_zero, List.set_cons_succ, i64_w, i32_w]
                  rfl
                refine pure_ (i := 18) (N := some 133) (v := ?_) (a' := ?_) #[true, true, true, true, true, true, true, true, true, true, true, true, true, true, true, true, true, true, true] rfl rfl (by kernel_rfl) (fun _ _ _ h => h) (Or.inl ⟨by rfl, ?_⟩) ?_ ?_
                rotate_left
                · intro w'
                  go_simp
                  with_reducible rfl
                rotate_left
                · simp only [Act.put, List.setIfInBounds_toArray, List.set_cons_zero, List.set_cons_succ, i64_w, i32_w]
                  rfl
                refine done_ (by kernel_rfl) ?_
                have kn := hHeld.2.2.2.2
                clear hHeld kd kz
                go_wp2
                go_roundw
                case rel => exact ⟨1, by omega, by rfl, kn⟩
                case measure => simp [intOf]
              · go_upto_region 20 with (fail)
                have kd := Aside0.mk (kn.out.step (below_drew1 (Below.refl wr.heap.size wr)))
                clear kn
                refine start_ (n := 19) (S := fun w' => w'.cell? ⟨bl, 0, none⟩ = some (.slice A n c) ∧ w'.cell? ⟨bl, 1, none⟩ = some (.slice B m d) ∧ w'.cell? ⟨x8, 2, none⟩ = some (.slice A2 n c2) ∧ w'.cell? ⟨x8, 3, none⟩ = some (.slice B2 m d2) ∧ Aside0 (Kn (fun W => RW x8 8 (fun i => [.slice A1 n c1, .slice B1 m d1, .slice A2 n c2, .slice B2 m d2, .slice A3 n c3, .slice B3 m d3, .slice A4 n c4, .slice B4 m d4].getD i undef) W ∧ Bx b5 (.slice A5 n c5) (.slice B5 m d5) W ∧ LV S5 n m A5 c5 B5 d5 L5 W ∧ Bx b4 (.slice A4 n c4) (.slice B4 m d4) W ∧ LV S4 n m A4 c4 B4 d4 L4 W ∧ Bx b3 (.slice A3 n c3) (.slice B3 m d3) W ∧ LV S3 n m A3 c3 B3 d3 L3 W ∧ Bx b2 (.slice A2 n c2) (.slice B2 m d2) W ∧ LV S2 n m A2 c2 B2 d2 L2 W ∧ Bx b1 (.slice A1 n c1) (.slice B1 m d1) W ∧ LV S1 n m A1 c1 B1 d1 L1 W ∧ Bx bq (.int .i64 bi) (.int .i64 bK) W ∧ Bx bp (.int .i64 ai) (.int .i64 aK) W ∧ Bx bl (.slice A n c) (.slice B m d) W ∧ LV S n m A c B d L W ∧ Tb w W) w')) (ds := []) #[false, false, false, false, false, false, false, false, false, false, false, false, false, false, false, false, false, false, false] (by kernel_rfl) rfl rfl ⟨kd.out.here.2.2.2.2.2.2.2.2.2.2.2.2.2.1.k0, kd.out.here.2.2.2.2.2.2.2.2.2.2.2.2.2.1.k1, kd.out.here.1.e 2 (by decide), kd.out.here.1.e 3 (by decide), kd⟩ (fun hHeld => ?_)
                generalize wr.drew = V5 at kd hHeld ⊢
                refine pure_ (i := 0) (N := some 115) (v := ?_) (a' := ?_) #[true, false, false, false, false, false, false, false, false, false, false, false, false, false, false, false, false, false, false] rfl rfl (by kernel_rfl) (fun _ _ _ h => h) (Or.inl ⟨by rfl, ?_⟩) ?_ ?_
                rotate_left
                · intro w'
                  go_simp
                  with_reducible rfl
                rotate_left
                · simp only [Act.put, List.setIfInBounds_toArray, List.set_cons_zero, List.set_cons_succ, i64_w, i32_w]
                  rfl
                refine pure_ (i := 1) (N := some 116) (v := ?_) (a' := ?_) #[true, true, false, false, false, false, false, false, false, false, false, false, false, false, false, false, false, false, false] rfl rfl (by kernel_rfl) (fun _ _ _ h => h) (Or.inl ⟨by rfl, ?_⟩) ?_ ?_
                rotate_left
                · intro w'
                  go_simp
                  with_reducible rfl
                rotate_left
                · simp only [Act.put, List.setIfInBounds_toArray, List.set_cons_zero, List.set_cons_succ, i64_w, i32_w]
                  rfl
                refine pure_ (i := 2) (N := some 117) (v := ?_) (a' := ?_) #[true, true, true, false, false, false, false, false, false, false, false, false, false, false, false, false, false, false, false] rfl rfl (by kernel_rfl) (fun _ _ _ h => h) (Or.inl ⟨by rfl, ?_⟩) ?_ ?_
                rotate_left
                · intro w'
                  go_simp
                  with_reducible rfl
                rotate_left
                · simp only [Act.put, List.setIfInBounds_toArray, List.set_cons_zero, List.set_cons_succ, i64_w, i32_w]
                  rfl
                refine take_ (i := 3) (N := some 118) (v := ?_) (a' := ?_) #[true, true, true, true, false, false, false, false, false, false, false, false, false, false, false, false, false, false, false] rfl rfl (by kernel_rfl) (fun _ _ _ h => h) (Or.inl ⟨by rfl, ?_⟩) hHeld ?_ ?_
                rotate_left
                · rintro w' ⟨s0, s1, s2, s3, s4⟩
                  go_simp
                  with_reducible rfl
                rotate_left
                · simp only [Act.put, List.setIfInBounds_toArray, List.set_cons_zero, List.set_cons_succ, i64_w, i32_w]
                  rfl
                refine one_ (i := 4) (N := some 119) #[true, true, true, true, true, false, false, false, false, false, false, false, false, false, false, false, false, false, false] rfl rfl (by kernel_rfl) (by decide) (fun K hK => ?_)
                refine goes_ Try.func10 (by kernel_rfl) rfl #[.agg #[.slice A2 n c2, .slice B2 m d2]] (by rfl) rfl rfl (by simp only [List.map_toArray, List.map_cons, List.map_nil]; rfl) ?_
                with_reducible refine (fine_lv ((hHeld.2.2.2.2).out.here.2.2.2.2.2.2.2.2.1)).mono ?_
                rintro e x4 ⟨rfl, hb⟩
                refine ⟨_, rfl, ?_⟩
                have kz := Aside0.mk (hHeld.2.2.2.2.out.step hb)
                clear hHeld hb
                refine hK.out _ _ ⟨kz.out.here.2.2.2.2.2.2.2.2.2.2.2.2.2.1.k0, kz.out.here.2.2.2.2.2.2.2.2.2.2.2.2.2.1.k1, kz.out.here.1.e 2 (by decide), kz.out.here.1.e 3 (by decide), kz⟩ (fun hHeld => ?_)
                clear hK K
                refine norm_ (a' := ?_) ?_ ?_
                rotate_left
                · show Act.put _ (some 119) _ = _
                  simp only [Act.put, List.setIfInBounds_toArray, List.set_cons_zero, List.set_cons_succ, i64_w, i32_w]
                  rfl
                refine pure_ (i := 5) (N := some 120) (v := ?_) (a' := ?_) #[true, true, true, true, true, true, false, false, false, false, false, false, false, false, false, false, false, false, false] rfl rfl (by kernel_rfl) (fun _ _ _ h => h) (Or.inl ⟨by rfl, ?_⟩) ?_ ?_
                rotate_left
                · intro w'
                  go_simp
                  with_reducible rfl
                rotate_left
                · simp only [Act.put, List.setIfInBounds_toArray, List.set_cons_zero, List.set_cons_succ, i64_w, i32_w]
                  rfl
                refine pure_ (i := 6) (N := some 121) (v := ?_) (a' := ?_) #[true, true, true, true, true, true, true, false, false, false, false, false, false, false, false, false, false, false, false] rfl rfl (by kernel_rfl) (fun _ _ _ h => h) (Or.inl ⟨by rfl, ?_⟩) ?_ ?_
                rotate_left
                · intro w'
                  go_simp
                  with_reducible rfl
                rotate_left
                · simp only [Act.put, List.setIfInBounds_toArray, List.set_cons_zero, List.set_cons_succ, i64_w, i32_w]
                  rfl
                refine pure_ (i := 7) (N := some 122) (v := ?_) (a' := ?_) #[true, true, true, true, true, true, true, true, false, false, false, false, false, false, false, false, false, false, false] rfl rfl (by kernel_rfl) (fun _ _ _ h => h) (Or.inl ⟨by rfl, ?_⟩) ?_ ?_
                rotate_left
                · intro w'
                  go_simp
                  with_reducible rfl
                rotate_left
                · simp only [Act.put, List.setIfInBounds_toArray, List.set_cons_zero, List.set_cons_succ, i64_w, i32_w]
                  rfl
                refine pure_ (i := 8) (N := some 123) (v := ?_) (a' := ?_) #[true, true, true, true, true, true, true, true, true, false, false, false, false, false, false, false, false, false, false] rfl rfl (by kernel_rfl) (fun _ _ _ h => h) (Or.inl ⟨by rfl, ?_⟩) ?_ ?_
                rotate_left
                · intro w'
                  go_simp
                  with_reducible rfl
                rotate_left
                · simp only [Act.put, List.setIfInBounds_toArray, List.set_cons_zero, List.set_cons_succ, i64_w, i32_w]
                  rfl
                refine pure_ (i := 9) (N := some 124) (v := ?_) (a' := ?_) #[true, true, true, true, true, true, true, true, true, true, false, false, false, false, false, false, false, false, false] rfl rfl (by kernel_rfl) (fun _ _ _ h => h) (Or.inl ⟨by rfl, ?_⟩) ?_ ?_
                rotate_left
                · intro w'
                  go_simp
                  with_reducible rfl
                rotate_left
                · simp only [Act.put, List.setIfInBounds_toArray, List.set_cons_zero, List.set_cons_succ, i64_w, i32_w]
                  rfl
                refine pure_ (i := 12) (N := some 127) (v := ?_) (a' := ?_) #[true, true, true, true, true, true, true, true, true, true, false, false, true, false, false, false, false, false, false] rfl rfl (by kernel_rfl) (fun _ _ _ h => h) (Or.inl ⟨by rfl, ?_⟩) ?_ ?_
                rotate_left
                · intro w'
                  go_simp
                  with_reducible rfl
                rotate_left
                · simp only [Act.put, List.setIfInBounds_toArray, List.set_cons_zero, List.set_cons_succ, i64_w, i32_w]
                  rfl
                refine pure_ (i := 15) (N := some 130) (v := ?_) (a' := ?_) #[true, true, true, true, true, true, true, true, true, true, false, false, true, false, false, true, false, false, false] rfl rfl (by kernel_rfl) (fun _ _ _ h => h) (Or.inl ⟨by rfl, ?_⟩) ?_ ?_
                rotate_left
                · intro w'
                  go_simp
                  with_reducible rfl
                rotate_left
                · simp only [Act.put, List.setIfInBounds_toArray, List.set_cons_zero, List.set_cons_succ, i64_w, i32_w]
                  rfl
                refine take_ (i := 10) (N := some 125) (v := ?_) (a' := ?_) #[true, true, true, true, true, true, true, true, true, true, true, false, true, false, false, true, false, false, false] rfl rfl (by kernel_rfl) (fun _ _ _ h => h) (Or.inl ⟨by rfl, ?_⟩) hHeld ?_ ?_
                rotate_left
                · rintro w' ⟨s0, s1, s2, s3, s4⟩
                  go_simp
                  with_reducible rfl
                rotate_left
                · simp only [Act.put, List.setIfInBounds_toArray, List.set_cons_zero, List.set_cons_succ, i64_w, i32_w]
                  rfl
                refine take_ (i := 14) (N := some 129) (v := ?_) (a' := ?_) #[true, true, true, true, true, true, true, true, true, true, true, false, true, false, true, true, false, false, false] rfl rfl (by kernel_rfl) (fun _ _ _ h => h) (Or.inl ⟨by rfl, ?_⟩) hHeld ?_ ?_
                rotate_left
                · rintro w' ⟨s0, s1, s2, s3, s4⟩
                  go_simp
                  with_reducible rfl
                rotate_left
                · simp only [Act.put, List.setIfInBounds_toArray, List.set_cons_zero, List.set_cons_succ, i64_w, i32_w]
                  rfl
                refine one_ (i := 11) (N := some 126) #[true, true, true, true, true, true, true, true, true, true, true, true, true, false, true, true, false, false, false] rfl rfl (by kernel_rfl) (by decide) (fun K hK => ?_)
                refine goes_ Try.func12 (by kernel_rfl) rfl #[.agg #[.slice A2 n c2, .slice B2 m d2]] (by rfl) rfl rfl (by simp only [List.map_toArray, List.map_cons, List.map_nil]; rfl) ?_
                with_reducible refine (its_is A2 n c2 B2 m d2 _).mono ?_
                rintro e x11 ⟨rfl, hb⟩
                refine ⟨_, rfl, ?_⟩
                have kz := Aside0.mk (hHeld.2.2.2.2.out.step hb)
                clear hHeld hb
                refine hK.out _ _ ⟨kz.out.here.2.2.2.2.2.2.2.2.2.2.2.2.2.1.k0, kz.out.here.2.2.2.2.2.2.2.2.2.2.2.2.2.1.k1, kz.out.here.1.e 2 (by decide), kz.out.here.1.e 3 (by decide), kz⟩ (fun hHeld => ?_)
                clear hK K
                refine norm_ (a' := ?_) ?_ ?_
                rotate_left
                · show Act.put _ (some 126) _ = _
                  simp only [Act.put, List.setIfInBounds_toArray, List.set_cons_zero, List.set_cons_succ, i64_w, i32_w]
                  rfl
                refine one_ (i := 13) (N := some 128) #[true, true, true, true, true, true, true, true, true, true, true, true, true, true, true, true, false, false, false] rfl rfl (by kernel_rfl) (by decide) (fun K hK => ?_)
                refine goes_ Try.func27 (by kernel_rfl) rfl #[.agg #[.slice A2 n c2, .slice B2 m d2], .int .i64 (i : Int)] (by rfl) rfl rfl (by simp only [List.map_toArray, List.map_cons, List.map_nil]; rfl) ?_
                with_reducible refine (rtotal_v (i : Int) tl ((hHeld.2.2.2.2).out.here.2.2.2.2.2.2.2.2.1) ((hq2.out (i : Int)).trans htl.out)).mono ?_
                rintro e x13 ⟨rfl, hb⟩
                refine ⟨_, rfl, ?_⟩
                have kz := Aside0.mk (hHeld.2.2.2.2.out.step hb)
                clear hHeld hb
                refine hK.out _ _ ⟨kz.out.here.2.2.2.2.2.2.2.2.2.2.2.2.2.1.k0, kz.out.here.2.2.2.2.2.2.2.2.2.2.2.2.2.1.k1, kz.out.here.1.e 2 (by decide), kz.out.here.1.e 3 (by decide), kz⟩ (fun hHeld => ?_)
                clear hK K
                refine norm_ (a' := ?_) ?_ ?_
                rotate_left
                · show Act.put _ (some 128) _ = _
                  simp only [Act.put, List.setIfInBounds_toArray, List.set_cons_zero, List.set_cons_succ, i64_w, i32_w]
                  rfl
                refine one_ (i := 16) (N := some 131) #[true, true, true, true, true, true, true, true, true, true, true, true, true, true, true, true, true, false, false] rfl rfl (by kernel_rfl) (by decide) (fun K hK => ?_)
                refine goes_ Try.func26 (by kernel_rfl) rfl #[.agg #[.slice A n c, .slice B m d], .int .i64 (i : Int)] (by rfl) rfl rfl (by simp only [List.map_toArray, List.map_cons, List.map_nil]; rfl) ?_
                with_reducible refine (total_v (i : Int) tl ((hHeld.2.2.2.2).out.here.2.2.2.2.2.2.2.2.2.2.2.2.2.2.1) htl.out).mono ?_
                rintro e x16 ⟨rfl, hb⟩
                refine ⟨_, rfl, ?_⟩
                have kz := Aside0.mk (hHeld.2.2.2.2.out.step hb)
                clear hHeld hb
                refine hK.out _ _ ⟨kz.out.here.2.2.2.2.2.2.2.2.2.2.2.2.2.1.k0, kz.out.here.2.2.2.2.2.2.2.2.2.2.2.2.2.1.k1, kz.out.here.1.e 2 (by decide), kz.out.here.1.e 3 (by decide), kz⟩ (fun hHeld => ?_)
                clear hK K
                refine norm_ (a' := ?_) ?_ ?_
                rotate_left
                · show Act.put _ (some 131) _ = _
                  simp only [Act.put, List.setIfInBounds_toArray, List.set_cons_zero, List.set_cons_succ, i64_w, i32_w]
                  rfl
                refine pure_ (i := 17) (N := some 132) (v := ?_) (a' := ?_) #[true, true, true, true, true, true, true, true, true, true, true, true, true, true, true, true, true, true, false] rfl rfl (by kernel_rfl) (fun _ _ _ h => h) (Or.inl ⟨by rfl, ?_⟩) ?_ ?_
                rotate_left
                · intro w'
                  go_simp
                  with_reducible rfl
                rotate_left
                · simp only [Act.put, List.setIfInBounds_toArray, List.set_cons_zero, List.set_cons_succ, i64_w, i32_w]
                  rfl
                refine pure_ (i := 18) (N := some 133) (v := ?_) (a' := ?_) #[true, true, true, true, true, true, true, true, true, true, true, true, true, true, true, true, true, true, true] rfl rfl (by kernel_rfl) (fun _ _ _ h => h) (Or.inl ⟨by rfl, ?_⟩) ?_ ?_
                rotate_left
                · intro w'
                  go_simp
                  with_reducible rfl
                rotate_left
                · simp only [Act.put, List.setIfInBounds_toArray, List.set_cons_zero, List.set_cons_succ, i64_w, i32_w]
                  rfl
                refine done_ (by kernel_rfl) ?_
                have kn := hHeld.2.2.2.2
                clear hHeld kd kz
                go_wp2
                go_roundw
                case rel => exact ⟨2, by omega, by rfl, kn⟩
                case measure => simp [intOf]
              · go_upto_region 20 with (fail)
                have kd := Aside0.mk (kn.out.step (below_drew1 (Below.refl wr.heap.size wr)))
                clear kn
                refine start_ (n := 19) (S := fun w' => w'.cell? ⟨bl, 0, none⟩ = some (.slice A n c) ∧ w'.cell? ⟨bl, 1, none⟩ = some (.slice B m d) ∧ w'.cell? ⟨x8, 4, none⟩ = some (.slice A3 n c3) ∧ w'.cell? ⟨x8, 5, none⟩ = some (.slice B3 m d3) ∧ Aside0 (Kn (fun W => RW x8 8 (fun i => [.slice A1 n c1, .slice B1 m d1, .slice A2 n c2, .slice B2 m d2, .slice A3 n c3, .slice B3 m d3, .slice A4 n c4, .slice B4 m d4].getD i undef) W ∧ Bx b5 (.slice A5 n c5) (.slice B5 m d5) W ∧ LV S5 n m A5 c5 B5 d5 L5 W ∧ Bx b4 (.slice A4 n c4) (.slice B4 m d4) W ∧ LV S4 n m A4 c4 B4 d4 L4 W ∧ Bx b3 (.slice A3 n c3) (.slice B3 m d3) W ∧ LV S3 n m A3 c3 B3 d3 L3 W ∧ Bx b2 (.slice A2 n c2) (.slice B2 m d2) W ∧ LV S2 n m A2 c2 B2 d2 L2 W ∧ Bx b1 (.slice A1 n c1) (.slice B1 m d1) W ∧ LV S1 n m A1 c1 B1 d1 L1 W ∧ Bx bq (.int .i64 bi) (.int .i64 bK) W ∧ Bx bp (.int .i64 ai) (.int .i64 aK) W ∧ Bx bl (.slice A n c) (.slice B m d) W ∧ LV S n m A c B d L W ∧ Tb w W) w')) (ds := []) #[false, false, false, false, false, false, false, false, false, false, false, false, false, false, false, false, false, false, false] (by kernel_rfl) rfl rfl ⟨kd.out.here.2.2.2.2.2.2.2.2.2.2.2.2.2.1.k0, kd.out.here.2.2.2.2.2.2.2.2.2.2.2.2.2.1.k1, kd.out.here.1.e 4 (by decide), kd.out.here.1.e 5 (by decide), kd⟩ (fun hHeld => ?_)
                generalize wr.drew = V5 at kd hHeld ⊢
                refine pure_ (i := 0) (N := some 115) (v := ?_) (a' := ?_) #[true, false, false, false, false, false, false, false, false, false, false, false, false, false, false, false, false, false, false] rfl rfl (by kernel_rfl) (fun _ _ _ h => h) (Or.inl ⟨by rfl, ?_⟩) ?_ ?_
                rotate_left
                · intro w'
                  go_simp
                  with_reducible rfl
                rotate_left
                · simp only [Act.put, List.setIfInBounds_toArray, List.set_cons_zero, List.set_cons_succ, i64_w, i32_w]
                  rfl
                refine pure_ (i := 1) (N := some 116) (v := ?_) (a' := ?_) #[true, true, false, false, false, false, false, false, false, false, false, false, false, false, false, false, false, false, false] rfl rfl (by kernel_rfl) (fun _ _ _ h => h) (Or.inl ⟨by rfl, ?_⟩) ?_ ?_
                rotate_left
                · intro w'
                  go_simp
                  with_reducible rfl
                rotate_left
                · simp only [Act.put, List.setIfInBounds_toArray, List.set_cons_zero, List.set_cons_succ, i64_w, i32_w]
                  rfl
                refine pure_ (i := 2) (N := some 117) (v := ?_) (a' := ?_) #[true, true, true, false, false, false, false, false, false, false, false, false, false, false, false, false, false, false, false] rfl rfl (by kernel_rfl) (fun _ _ _ h => h) (Or.inl ⟨by rfl, ?_⟩) ?_ ?_
                rotate_left
                · intro w'
                  go_simp
                  with_reducible rfl
                rotate_left
                · simp only [Act.put, List.setIfInBounds_toArray, List.set_cons_zero, List.set_cons_succ, i64_w, i32_w]
                  rfl
                refine take_ (i := 3) (N := some 118) (v := ?_) (a' := ?_) #[true, true, true, true, false, false, false, false, false, false, false, false, false, false, false, false, false, false, false] rfl rfl (by kernel_rfl) (fun _ _ _ h => h) (Or.inl ⟨by rfl, ?_⟩) hHeld ?_ ?_
                rotate_left
                · rintro w' ⟨s0, s1, s2, s3, s4⟩
                  go_simp
                  with_reducible rfl
                rotate_left
                · simp only [Act.put, List.setIfInBounds_toArray, List.set_cons_zero, List.set_cons_succ, i64_w, i32_w]
                  rfl
                refine one_ (i := 4) (N := some 119) #[true, true, true, true, true, false, false, false, false, false, false, false, false, false, false, false, false, false, false] rfl rfl (by kernel_rfl) (by decide) (fun K hK => ?_)
                refine goes_ Try.func10 (by kernel_rfl) rfl #[.agg #[.slice A3 n c3, .slice B3 m d3]] (by rfl) rfl rfl (by simp only [List.map_toArray, List.map_cons, List.map_nil]; rfl) ?_
                with_reducible refine (fine_lv ((hHeld.2.2.2.2).out.here.2.2.2.2.2.2.1)).mono ?_
                rintro e x4 ⟨rfl, hb⟩
                refine ⟨_, rfl, ?_⟩
                have kz := Aside0.mk (hHeld.2.2.2.2.out.step hb)
                clear hHeld hb
                refine hK.out _ _ ⟨kz.out.here.2.2.2.2.2.2.2.2.2.2.2.2.2.1.k0, kz.out.here.2.2.2.2.2.2.2.2.2.2.2.2.2.1.k1, kz.out.here.1.e 4 (by decide), kz.out.here.1.e 5 (by decide), kz⟩ (fun hHeld => ?_)
                clear hK K
                refine norm_ (a' := ?_) ?_ ?_
                rotate_left
                · show Act.put _ (some 119) _ = _
                  simp only [Act.put, List.setIfInBounds_toArray, List.set_cons_zero, List.set_cons_succ, i64_w, i32_w]
                  rfl
                refine pure_ (i := 5) (N := some 120) (v := ?_) (a' := ?_) #[true, true, true, true, true, true, false, false, false, false, false, false, false, false, false, false, false, false, false] rfl rfl (by kernel_rfl) (fun _ _ _ h => h) (Or.inl ⟨by rfl, ?_⟩) ?_ ?_
                rotate_left
                · intro w'
                  go_simp
                  with_reducible rfl
                rotate_left
                · simp only [Act.put, List.setIfInBounds_toArray, List.set_cons_zero, List.set_cons_succ, i64_w, i32_w]
                  rfl
                refine pure_ (i := 6) (N := some 121) (v := ?_) (a' := ?_) #[true, true, true, true, true, true, true, false, false, false, false, false, false, false, false, false, false, false, false] rfl rfl (by kernel_rfl) (fun _ _ _ h => h) (Or.inl ⟨by rfl, ?_⟩) ?_ ?_
                rotate_left
                · intro w'
                  go_simp
                  with_reducible rfl
                rotate_left
                · simp only [Act.put, List.setIfInBounds_toArray, List.set_cons_zero, List.set_cons_succ, i64_w, i32_w]
                  rfl
                refine pure_ (i := 7) (N := some 122) (v := ?_) (a' := ?_) #[true, true, true, true, true, true, true, true, false, false, false, false, false, false, false, false, false, false, false] rfl rfl (by kernel_rfl) (fun _ _ _ h => h) (Or.inl ⟨by rfl, ?_⟩) ?_ ?_
                rotate_left
                · intro w'
                  go_simp
                  with_reducible rfl
                rotate_left
                · simp only [Act.put, List.setIfInBounds_toArray, List.set_cons_zero, List.set_cons_succ, i64_w, i32_w]
                  rfl
                refine pure_ (i := 8) (N := some 123) (v := ?_) (a' := ?_) #[true, true, true, true, true, true, true, true, true, false, false, false, false, false, false, false, false, false, false] rfl rfl (by kernel_rfl) (fun _ _ _ h => h) (Or.inl ⟨by rfl, ?_⟩) ?_ ?_
                rotate_left
                · intro w'
                  go_simp
                  with_reducible rfl
                rotate_left
                · simp only [Act.put, List.setIfInBounds_toArray, List.set_cons_zero, List.set_cons_succ, i64_w, i32_w]
                  rfl
                refine pure_ (i := 9) (N := some 124) (v := ?_) (a' := ?_) #[true, true, true, true, true, true, true, true, true, true, false, false, false, false, false, false, false, false, false] rfl rfl (by kernel_rfl) (fun _ _ _ h => h) (Or.inl ⟨by rfl, ?_⟩) ?_ ?_
                rotate_left
                · intro w'
                  go_simp
                  with_reducible rfl
                rotate_left
                · simp only [Act.put, List.setIfInBounds_toArray, List.set_cons_zero, List.set_cons_succ, i64_w, i32_w]
                  rfl
                refine pure_ (i := 12) (N := some 127) (v := ?_) (a' := ?_) #[true, true, true, true, true, true, true, true, true, true, false, false, true, false, false, false, false, false, false] rfl rfl (by kernel_rfl) (fun _ _ _ h => h) (Or.inl ⟨by rfl, ?_⟩) ?_ ?_
                rotate_left
                · intro w'
                  go_simp
                  with_reducible rfl
                rotate_left
                · simp only [Act.put, List.setIfInBounds_toArray, List.set_cons_zero, List.set_cons_succ, i64_w, i32_w]
                  rfl
                refine pure_ (i := 15) (N := some 130) (v := ?_) (a' := ?_) #[true, true, true, true, true, true, true, true, true, true, false, false, true, false, false, true, false, false, false] rfl rfl (by kernel_rfl) (fun _ _ _ h => h) (Or.inl ⟨by rfl, ?_⟩) ?_ ?_
                rotate_left
                · intro w'
                  go_simp
                  with_reducible rfl
                rotate_left
                · simp only [Act.put, List.setIfInBounds_toArray, List.set_cons_zero, List.set_cons_succ, i64_w, i32_w]
                  rfl
                refine take_ (i := 10) (N := some 125) (v := ?_) (a' := ?_) #[true, true, true, true, true, true, true, true, true, true, true, false, true, false, false, true, false, false, false] rfl rfl (by kernel_rfl) (fun _ _ _ h => h) (Or.inl ⟨by rfl, ?_⟩) hHeld ?_ ?_
                rotate_left
                · rintro w' ⟨s0, s1, s2, s3, s4⟩
                  go_simp
                  with_reducible rfl
                rotate_left
                · simp only [Act.put, List.setIfInBounds_toArray, List.set_cons_zero, List.set_cons_succ, i64_w, i32_w]
                  rfl
                refine take_ (i := 14) (N := some 129) (v := ?_) (a' := ?_) #[true, true, true, true, true, true, true, true, true, true, true, false, true, false, true, true, false, false, false] rfl rfl (by kernel_rfl) (fun _ _ _ h => h) (Or.inl ⟨by rfl, ?_⟩) hHeld ?_ ?_
                rotate_left
                · rintro w' ⟨s0, s1, s2, s3, s4⟩
                  go_simp
                  with_reducible rfl
                rotate_left
                · simp only [Act.put, List.setIfInBounds_toArray, List.set_cons_zero, List.set_cons_succ, i64_w, i32_w]
                  rfl
                refine one_ (i := 11) (N := some 126) #[true, true, true, true, true, true, true, true, true, true, true, true, true, false, true, true, false, false, false] rfl rfl (by kernel_rfl) (by decide) (fun K hK => ?_)
                refine goes_ Try.func12 (by kernel_rfl) rfl #[.agg #[.slice A3 n c3, .slice B3 m d3]] (by rfl) rfl rfl (by simp only [List.map_toArray, List.map_cons, List.map_nil]; rfl) ?_
                with_reducible refine (its_is A3 n c3 B3 m d3 _).mono ?_
                rintro e x11 ⟨rfl, hb⟩
                refine ⟨_, rfl, ?_⟩
                have kz := Aside0.mk (hHeld.2.2.2.2.out.step hb)
                clear hHeld hb
                refine hK.out _ _ ⟨kz.out.here.2.2.2.2.2.2.2.2.2.2.2.2.2.1.k0, kz.out.here.2.2.2.2.2.2.2.2.2.2.2.2.2.1.k1, kz.out.here.1.e 4 (by decide), kz.out.here.1.e 5 (by decide), kz⟩ (fun hHeld => ?_)
                clear hK K
                refine norm_ (a' := ?_) ?_ ?_
                rotate_left
                · show Act.put _ (some 126) _ = _
                  simp only [Act.put, List.setIfInBounds_toArray, List.set_cons_zero, List.set_cons_succ, i64_w, i32_w]
                  rfl
                refine one_ (i := 13) (N := some 128) #[true, true, true, true, true, true, true, true, true, true, true, true, true, true, true, true, false, false, false] rfl rfl (by kernel_rfl) (by decide) (fun K hK => ?_)
                refine goes_ Try.func27 (by kernel_rfl) rfl #[.agg #[.slice A3 n c3, .slice B3 m d3], .int .i64 (i : Int)] (by rfl) rfl rfl (by simp only [List.map_toArray, List.map_cons, List.map_nil]; rfl) ?_
                with_reducible refine (rtotal_v (i : Int) tl ((hHeld.2.2.2.2).out.here.2.2.2.2.2.2.1) ((hq3.out (i : Int)).trans htl.out)).mono ?_
                rintro e x13 ⟨rfl, hb⟩
                refine ⟨_, rfl, ?_⟩
                have kz := Aside0.mk (hHeld.2.2.2.2.out.step hb)
                clear hHeld hb
                refine hK.out _ _ ⟨kz.out.here.2.2.2.2.2.2.2.2.2.2.2.2.2.1.k0, kz.out.here.2.2.2.2.2.2.2.2.2.2.2.2.2.1.k1, kz.out.here.1.e 4 (by decide), kz.out.here.1.e 5 (by decide), kz⟩ (fun hHeld => ?_)
                clear hK K
                refine norm_ (a' := ?_) ?_ ?_
                rotate_left
                · show Act.put _ (some 128) _ = _
                  simp only [Act.put, List.setIfInBounds_toArray, List.set_cons_zero, List.set_cons_succ, i64_w, i32_w]
                  rfl
                refine one_ (i := 16) (N := some 131) #[true, true, true, true, true, true, true, true, true, true, true, true, true, true, true, true, true, false, false] rfl rfl (by kernel_rfl) (by decide) (fun K hK => ?_)
                refine goes_ Try.func26 (by kernel_rfl) rfl #[.agg #[.slice A n c, .slice B m d], .int .i64 (i : Int)] (by rfl) rfl rfl (by simp only [List.map_toArray, List.map_cons, List.map_nil]; rfl) ?_
                with_reducible refine (total_v (i : Int) tl ((hHeld.2.2.2.2).out.here.2.2.2.2.2.2.2.2.2.2.2.2.2.2.1) htl.out).mono ?_
                rintro e x16 ⟨rfl, hb⟩
                refine ⟨_, rfl, ?_⟩
                have kz := Aside0.mk (hHeld.2.2.2.2.out.step hb)
                clear hHeld hb
                refine hK.out _ _ ⟨kz.out.here.2.2.2.2.2.2.2.2.2.2.2.2.2.1.k0, kz.out.here.2.2.2.2.2.2.2.2.2.2.2.2.2.1.k1, kz.out.here.1.e 4 (by decide), kz.out.here.1.e 5 (by decide), kz⟩ (fun hHeld => ?_)
                clear hK K
                refine norm_ (a' := ?_) ?_ ?_
                rotate_left
                · show Act.put _ (some 131) _ = _
                  simp only [Act.put, List.setIfInBounds_toArray, List.set_cons_zero, List.set_cons_succ, i64_w, i32_w]
                  rfl
                refine pure_ (i := 17) (N := some 132) (v := ?_) (a' := ?_) #[true, true, true, true, true, true, true, true, true, true, true, true, true, true, true, true, true, true, false] rfl rfl (by kernel_rfl) (fun _ _ _ h => h) (Or.inl ⟨by rfl, ?_⟩) ?_ ?_
                rotate_left
                · intro w'
                  go_simp
                  with_reducible rfl
                rotate_left
                · simp only [Act.put, List.setIfInBounds_toArray, List.set_cons_zero, List.set_cons_succ, i64_w, i32_w]
                  rfl
                refine pure_ (i := 18) (N := some 133) (v := ?_) (a' := ?_) #[true, true, true, true, true, true, true, true, true, true, true, true, true, true, true, true, true, true, true] rfl rfl (by kernel_rfl) (fun _ _ _ h => h) (Or.inl ⟨by rfl, ?_⟩) ?_ ?_
                rotate_left
                · intro w'
                  go_simp
                  with_reducible rfl
                rotate_left
                · simp only [Act.put, List.setIfInBounds_toArray, List.set_cons_zero, List.set_cons_succ, i64_w, i32_w]
                  rfl
                refine done_ (by kernel_rfl) ?_
                have kn := hHeld.2.2.2.2
                clear hHeld kd kz
                go_wp2
                go_roundw
                case rel => exact ⟨3, by omega, by rfl, kn⟩
                case measure => simp [intOf]
              · go_upto_region 20 with (fail)
                have kd := Aside0.mk (kn.out.step (below_drew1 (Below.refl wr.heap.size wr)))
                clear kn
                refine start_ (n := 19) (S := fun w' => w'.cell? ⟨bl, 0, none⟩ = some (.slice A n c) ∧ w'.cell? ⟨bl, 1, none⟩ = some (.slice B m d) ∧ w'.cell? ⟨x8, 6, none⟩ = some (.slice A4 n c4) ∧ w'.cell? ⟨x8, 7, none⟩ = some (.slice B4 m d4) ∧ Aside0 (Kn (fun W => RW x8 8 (fun i => [.slice A1 n c1, .slice B1 m d1, .slice A2 n c2, .slice B2 m d2, .slice A3 n c3, .slice B3 m d3, .slice A4 n c4, .slice B4 m d4].getD i undef) W ∧ Bx b5 (.slice A5 n c5) (.slice B5 m d5) W ∧ LV S5 n m A5 c5 B5 d5 L5 W ∧ Bx b4 (.slice A4 n c4) (.slice B4 m d4) W ∧ LV S4 n m A4 c4 B4 d4 L4 W ∧ Bx b3 (.slice A3 n c3) (.slice B3 m d3) W ∧ LV S3 n m A3 c3 B3 d3 L3 W ∧ Bx b2 (.slice A2 n c2) (.slice B2 m d2) W ∧ LV S2 n m A2 c2 B2 d2 L2 W ∧ Bx b1 (.slice A1 n c1) (.slice B1 m d1) W ∧ LV S1 n m A1 c1 B1 d1 L1 W ∧ Bx bq (.int .i64 bi) (.int .i64 bK) W ∧ Bx bp (.int .i64 ai) (.int .i64 aK) W ∧ Bx bl (.slice A n c) (.slice B m d) W ∧ LV S n m A c B d L W ∧ Tb w W) w')) (ds := []) #[false, false, false, false, false, false, false, false, false, false, false, false, false, false, false, false, false, false, false] (by kernel_rfl) rfl rfl ⟨kd.out.here.2.2.2.2.2.2.2.2.2.2.2.2.2.1.k0, kd.out.here.2.2.2.2.2.2.2.2.2.2.2.2.2.1.k1, kd.out.here.1.e 6 (by decide), kd.out.here.1.e 7 (by decide), kd⟩ (fun hHeld => ?_)
                generalize wr.drew = V5 at kd hHeld ⊢
                refine pure_ (i := 0) (N := some 115) (v := ?_) (a' := ?_) #[true, false, false, false, false, false, false, false, false, false, false, false, false, false, false, false, false, false, false] rfl rfl (by kernel_rfl) (fun _ _ _ h => h) (Or.inl ⟨by rfl, ?_⟩) ?_ ?_
                rotate_left
                · intro w'
                  go_simp
                  with_reducible rfl
                rotate_left
                · simp only [Act.put, List.setIfInBounds_toArray, List.set_cons_zero, List.set_cons_succ, i64_w, i32_w]
                  rfl
                refine pure_ (i := 1) (N := some 116) (v := ?_) (a' := ?_) #[true, true, false, false, false, false, false, false, false, false, false, false, false, false, false, false, false, false, false] rfl rfl (by kernel_rfl) (fun _ _ _ h => h) (Or.inl ⟨by rfl, ?_⟩) ?_ ?_
                rotate_left
                · intro w'
                  go_simp
                  with_reducible rfl
                rotate_left
                · simp only [Act.put, List.setIfInBounds_toArray, List.set_cons_zero, List.set_cons_succ, i64_w, i32_w]
                  rfl
                refine pure_ (i := 2) (N := some 117) (v := ?_) (a' := ?_) #[true, true, true, false, false, false, false, false, false, false, false, false, false, false, false, false, false, false, false] rfl rfl (by kernel_rfl) (fun _ _ _ h => h) (Or.inl ⟨by rfl, ?_⟩) ?_ ?_
                rotate_left
                · intro w'
                  go_simp
                  with_reducible rfl
                rotate_left
                · simp only [Act.put, List.setIfInBounds_toArray, List.set_cons_zero, List.set_cons_succ, i64_w, i32_w]
                  rfl
                refine take_ (i := 3) (N := some 118) (v := ?_) (a' := ?_) #[true, true, true, true, false, false, false, false, false, false, false, false, false, false, false, false, false, false, false] rfl rfl (by kernel_rfl) (fun _ _ _ h => h) (Or.inl ⟨by rfl, ?_⟩) hHeld ?_ ?_
                rotate_left
                · rintro w' ⟨s0, s1, s2, s3, s4⟩
                  go_simp
                  with_reducible rfl
                rotate_left
                · simp only [Act.put, List.setIfInBounds_toArray, List.set_cons_zero, List.set_cons_succ, i64_w, i32_w]
                  rfl
                refine one_ (i := 4) (N := some 119) #[true, true, true, true, true, false, false, false, false, false, false, false, false, false, false, false, false, false, false] rfl rfl (by kernel_rfl) (by decide) (fun K hK => ?_)
                refine goes_ Try.func10 (by kernel_rfl) rfl #[.agg #[.slice A4 n c4, .slice B4 m d4]] (by rfl) rfl rfl (by simp only [List.map_toArray, List.map_cons, List.map_nil]; rfl) ?_
                with_reducible refine (fine_lv ((hHeld.2.2.2.2).out.here.2.2.2.2.1)).mono ?_
                rintro e x4 ⟨rfl, hb⟩
                refine ⟨_, rfl, ?_⟩
                have kz := Aside0.mk (hHeld.2.2.2.2.out.step hb)
                clear hHeld hb
                refine hK.out _ _ ⟨kz.out.here.2.2.2.2.2.2.2.2.2.2.2.2.2.1.k0, kz.out.here.2.2.2.2.2.2.2.2.2.2.2.2.2.1.k1, kz.out.here.1.e 6 (by decide), kz.out.here.1.e 7 (by decide), kz⟩ (fun hHeld => ?_)
                clear hK K
                refine norm_ (a' := ?_) ?_ ?_
                rotate_left
                · show Act.put _ (some 119) _ = _
                  simp only [Act.put, List.setIfInBounds_toArray, List.set_cons_zero, List.set_cons_succ, i64_w, i32_w]
                  rfl
                refine pure_ (i := 5) (N := some 120) (v := ?_) (a' := ?_) #[true, true, true, true, true, true, false, false, false, false, false, false, false, false, false, false, false, false, false] rfl rfl (by kernel_rfl) (fun _ _ _ h => h) (Or.inl ⟨by rfl, ?_⟩) ?_ ?_
                rotate_left
                · intro w'
                  go_simp
                  with_reducible rfl
                rotate_left
                · simp only [Act.put, List.setIfInBounds_toArray, List.set_cons_zero, List.set_cons_succ, i64_w, i32_w]
                  rfl
                refine pure_ (i := 6) (N := some 121) (v := ?_) (a' := ?_) #[true, true, true, true, true, true, true, false, false, false, false, false, false, false, false, false, false, false, false] rfl rfl (by kernel_rfl) (fun _ _ _ h => h) (Or.inl ⟨by rfl, ?_⟩) ?_ ?_
                rotate_left
                · intro w'
                  go_simp
                  with_reducible rfl
                rotate_left
                · simp only [Act.put, List.setIfInBounds_toArray, List.set_cons_zero, List.set_cons_succ, i64_w, i32_w]
                  rfl
                refine pure_ (i := 7) (N := some 122) (v := ?_) (a' := ?_) #[true, true, true, true, true, true, true, true, false, false, false, false, false, false, false, false, false, false, false] rfl rfl (by kernel_rfl) (fun _ _ _ h => h) (Or.inl ⟨by rfl, ?_⟩) ?_ ?_
                rotate_left
                · intro w'
                  go_simp
                  with_reducible rfl
                rotate_left
                · simp only [Act.put, List.setIfInBounds_toArray, List.set_cons_zero, List.set_cons_succ, i64_w, i32_w]
                  rfl
                refine pure_ (i := 8) (N := some 123) (v := ?_) (a' := ?_) #[true, true, true, true, true, true, true, true, true, false, false, false, false, false, false, false, false, false, false] rfl rfl (by kernel_rfl) (fun _ _ _ h => h) (Or.inl ⟨by rfl, ?_⟩) ?_ ?_
                rotate_left
                · intro w'
                  go_simp
                  with_reducible rfl
                rotate_left
                · simp only [Act.put, List.setIfInBounds_toArray, List.set_cons_zero, List.set_cons_succ, i64_w, i32_w]
                  rfl
                refine pure_ (i := 9) (N := some 124) (v := ?_) (a' := ?_) #[true, true, true, true, true, true, true, true, true, true, false, false, false, false, false, false, false, false, false] rfl rfl (by kernel_rfl) (fun _ _ _ h => h) (Or.inl ⟨by rfl, ?_⟩) ?_ ?_
                rotate_left
                · intro w'
                  go_simp
                  with_reducible rfl
                rotate_left
                · simp only [Act.put, List.setIfInBounds_toArray, List.set_cons_zero, List.set_cons_succ, i64_w, i32_w]
                  rfl
                refine pure_ (i := 12) (N := some 127) (v := ?_) (a' := ?_) #[true, true, true, true, true, true, true, true, true, true, false, false, true, false, false, false, false, false, false] rfl rfl (by kernel_rfl) (fun _ _ _ h => h) (Or.inl ⟨by rfl, ?_⟩) ?_ ?_
                rotate_left
                · intro w'
                  go_simp
                  with_reducible rfl
                rotate_left
                · simp only [Act.put, List.setIfInBounds_toArray, List.set_cons_zero, List.set_cons_succ, i64_w, i32_w]
                  rfl
                refine pure_ (i := 15) (N := some 130) (v := ?_) (a' := ?_) #[true, true, true, true, true, true, true, true, true, true, false, false, true, false, false, true, false, false, false] rfl rfl (by kernel_rfl) (fun _ _ _ h => h) (Or.inl ⟨by rfl, ?_⟩) ?_ ?_
                rotate_left
                · intro w'
                  go_simp
                  with_reducible rfl
                rotate_left
                · simp only [Act.put, List.setIfInBounds_toArray, List.set_cons_zero, List.set_cons_succ, i64_w, i32_w]
                  rfl
                refine take_ (i := 10) (N := some 125) (v := ?_) (a' := ?_) #[true, true, true, true, true, true, true, true, true, true, true, false, true, false, false, true, false, false, false] rfl rfl (by kernel_rfl) (fun _ _ _ h => h) (Or.inl ⟨by rfl, ?_⟩) hHeld ?_ ?_
                rotate_left
                · rintro w' ⟨s0, s1, s2, s3, s4⟩
                  go_simp
                  with_reducible rfl
                rotate_left
                · simp only [Act.put, List.setIfInBounds_toArray, List.set_cons_zero, List.set_cons_succ, i64_w, i32_w]
                  rfl
                refine take_ (i := 14) (N := some 129) (v := ?_) (a' := ?_) #[true, true, true, true, true, true, true, true, true, true, true, false, true, false, true, true, false, false, false] rfl rfl (by kernel_rfl) (fun _ _ _ h => h) (Or.inl ⟨by rfl, ?_⟩) hHeld ?_ ?_
                rotate_left
                · rintro w' ⟨s0, s1, s2, s3, s4⟩
                  go_simp
                  with_reducible rfl
                rotate_left
                · simp only [Act.put, List.setIfInBounds_toArray, List.set_cons_zero, List.set_cons_succ, i64_w, i32_w]
                  rfl
                refine one_ (i := 11) (N := some 126) #[true, true, true, true, true, true, true, true, true, true, true, true, true, false, true, true, false, false, false] rfl rfl (by kernel_rfl) (by decide) (fun K hK => ?_)
                refine goes_ Try.func12 (by kernel_rfl) rfl #[.agg #[.slice A4 n c4, .slice B4 m d4]] (by rfl) rfl rfl (by simp only [List.map_toArray, List.map_cons, List.map_nil]; rfl) ?_
                with_reducible refine (its_is A4 n c4 B4 m d4 _).mono ?_
                rintro e x11 ⟨rfl, hb⟩
                refine ⟨_, rfl, ?_⟩
                have kz := Aside0.mk (hHeld.2.2.2.2.out.step hb)
                clear hHeld hb
                refine hK.out _ _ ⟨kz.out.here.2.2.2.2.2.2.2.2.2.2.2.2.2.1.k0, kz.out.here.2.2.2.2.2.2.2.2.2.2.2.2.2.1.k1, kz.out.here.1.e 6 (by decide), kz.out.here.1.e 7 (by decide), kz⟩ (fun hHeld => ?_)
                clear hK K
                refine norm_ (a' := ?_) ?_ ?_
                rotate_left
                · show Act.put _ (some 126) _ = _
                  simp only [Act.put, List.setIfInBounds_toArray, List.set_cons_zero, List.set_cons_succ, i64_w, i32_w]
                  rfl
                refine one_ (i := 13) (N := some 128) #[true, true, true, true, true, true, true, true, true, true, true, true, true, true, true, true, false, false, false] rfl rfl (by kernel_rfl) (by decide) (fun K hK => ?_)
                refine goes_ Try.func27 (by kernel_rfl) rfl #[.agg #[.slice A4 n c4, .slice B4 m d4], .int .i64 (i : Int)] (by rfl) rfl rfl (by simp only [List.map_toArray, List.map_cons, List.map_nil]; rfl) ?_
                with_reducible refine (rtotal_v (i : Int) tl ((hHeld.2.2.2.2).out.here.2.2.2.2.1) ((hq4.out (i : Int)).trans htl.out)).mono ?_
                rintro e x13 ⟨rfl, hb⟩
                refine ⟨_, rfl, ?_⟩
                have kz := Aside0.mk (hHeld.2.2.2.2.out.step hb)
                clear hHeld hb
                refine hK.out _ _ ⟨kz.out.here.2.2.2.2.2.2.2.2.2.2.2.2.2.1.k0, kz.out.here.2.2.2.2.2.2.2.2.2.2.2.2.2.1.k1, kz.out.here.1.e 6 (by decide), kz.out.here.1.e 7 (by decide), kz⟩ (fun hHeld => ?_)
                clear hK K
                refine norm_ (a' := ?_) ?_ ?_
                rotate_left
                · show Act.put _ (some 128) _ = _
                  simp only [Act.put, List.setIfInBounds_toArray, List.set_cons_zero, List.set_cons_succ, i64_w, i32_w]
                  rfl
                refine one_ (i := 16) (N := some 131) #[true, true, true, true, true, true, true, true, true, true, true, true, true, true, true, true, true, false, false] rfl rfl (by kernel_rfl) (by decide) (fun K hK => ?_)
                refine goes_ Try.func26 (by kernel_rfl) rfl #[.agg #[.slice A n c, .slice B m d], .int .i64 (i : Int)] (by rfl) rfl rfl (by simp only [List.map_toArray, List.map_cons, List.map_nil]; rfl) ?_
                with_reducible refine (total_v (i : Int) tl ((hHeld.2.2.2.2).out.here.2.2.2.2.2.2.2.2.2.2.2.2.2.2.1) htl.out).mono ?_
                rintro e x16 ⟨rfl, hb⟩
                refine ⟨_, rfl, ?_⟩
                have kz := Aside0.mk (hHeld.2.2.2.2.out.step hb)
                clear hHeld hb
                refine hK.out _ _ ⟨kz.out.here.2.2.2.2.2.2.2.2.2.2.2.2.2.1.k0, kz.out.here.2.2.2.2.2.2.2.2.2.2.2.2.2.1.k1, kz.out.here.1.e 6 (by decide), kz.out.here.1.e 7 (by decide), kz⟩ (fun hHeld => ?_)
                clear hK K
                refine norm_ (a' := ?_) ?_ ?_
                rotate_left
                · show Act.put _ (some 131) _ = _
                  simp only [Act.put, List.setIfInBounds_toArray, List.set_cons_zero, List.set_cons_succ, i64_w, i32_w]
                  rfl
                refine pure_ (i := 17) (N := some 132) (v := ?_) (a' := ?_) #[true, true, true, true, true, true, true, true, true, true, true, true, true, true, true, true, true, true, false] rfl rfl (by kernel_rfl) (fun _ _ _ h => h) (Or.inl ⟨by rfl, ?_⟩) ?_ ?_
                rotate_left
                · intro w'
                  go_simp
                  with_reducible rfl
                rotate_left
                · simp only [Act.put, List.setIfInBounds_toArray, List.set_cons_zero, List.set_cons_succ, i64_w, i32_w]
                  rfl
                refine pure_ (i := 18) (N := some 133) (v := ?_) (a' := ?_) #[true, true, true, true, true, true, true, true, true, true, true, true, true, true, true, true, true, true, true] rfl rfl (by kernel_rfl) (fun _ _ _ h => h) (Or.inl ⟨by rfl, ?_⟩) ?_ ?_
                rotate_left
                · intro w'
                  go_simp
                  with_reducible rfl
                rotate_left
                · simp only [Act.put, List.setIfInBounds_toArray, List.set_cons_zero, List.set_cons_succ, i64_w, i32_w]
                  rfl
                refine done_ (by kernel_rfl) ?_
                have kn := hHeld.2.2.2.2
                clear hHeld kd kz
                go_wp2
                go_roundw
                case rel => exact ⟨4, by omega, by rfl, kn⟩
                case measure => simp [intOf]
            · obtain rfl : k = 4 := by omega
              go_wp2
              go_roundw
              case rel => exact ⟨i + 1, by omega, by simp, kn⟩
              case measure => simp [intOf]; omega
    · have yl0 := kn.out.here.2.2.2.2.2.2.2.2.2.2.2.2.2.1.k0
      have yl1 := kn.out.here.2.2.2.2.2.2.2.2.2.2.2.2.2.1.k1
      go_upto_region 23 with (fail)
      clear yl0 yl1
      go_loopw [27, 28, 29] (fun v27 v28 v29 wr => ∃ k : Nat, k ≤ 4 ∧ v27 = .int .i64 k ∧ Aside0 (Kn (fun W => RW x8 8 (fun i => [.slice A1 n c1, .slice B1 m d1, .slice A2 n c2, .slice B2 m d2, .slice A3 n c3, .slice B3 m d3, .slice A4 n c4, .slice B4 m d4].getD i undef) W ∧ Bx b5 (.slice A5 n c5) (.slice B5 m d5) W ∧ LV S5 n m A5 c5 B5 d5 L5 W ∧ Bx b4 (.slice A4 n c4) (.slice B4 m d4) W ∧ LV S4 n m A4 c4 B4 d4 L4 W ∧ Bx b3 (.slice A3 n c3) (.slice B3 m d3) W ∧ LV S3 n m A3 c3 B3 d3 L3 W ∧ Bx b2 (.slice A2 n c2) (.slice B2 m d2) W ∧ LV S2 n m A2 c2 B2 d2 L2 W ∧ Bx b1 (.slice A1 n c1) (.slice B1 m d1) W ∧ LV S1 n m A1 c1 B1 d1 L1 W ∧ Bx bq (.int .i64 bi) (.int .i64 bK) W ∧ Bx bp (.int .i64 ai) (.int .i64 aK) W ∧ Bx bl (.slice A n c) (.slice B m d) W ∧ LV S n m A c B d L W ∧ Tb w W) wr)) (fun v _ _ _ => 4 - (intOf v).toNat)
      case atStart => exact ⟨0, by omega, rfl, kn⟩
      case round =>
        clear kn hwi
        obtain ⟨k, hk, rfl, kn⟩ := hrel
        by_cases hk4 : k < 4
        · obtain ⟨Sk, Ak, ck, Bk, dk, Lk, hcell, hlv, hrk⟩ : ∃ (Sk : Nat → Prop) (Ak : Option Addr) (ck : Nat) (Bk : Option Addr) (dk : Nat) (Lk : LG), wr.cell? ⟨x8, k * 2 + 1, none⟩ = some (.slice Bk m dk) ∧ LV Sk n m Ak ck Bk dk Lk wr ∧ (∀ u : Int, 0 ≤ u → u ≠ t → row Lk.hd u = row L.hd u) := by
            obtain rfl | rfl | rfl | rfl : k = 0 ∨ k = 1 ∨ k = 2 ∨ k = 3 := by omega
            · exact ⟨S1, A1, c1, B1, d1, L1, (kn.out.here.1).e 1 (by decide), kn.out.here.2.2.2.2.2.2.2.2.2.2.1, hr1.out⟩
            · exact ⟨S2, A2, c2, B2, d2, L2, (kn.out.here.1).e 3 (by decide), kn.out.here.2.2.2.2.2.2.2.2.1, hr2.out⟩
            · exact ⟨S3, A3, c3, B3, d3, L3, (kn.out.here.1).e 5 (by decide), kn.out.here.2.2.2.2.2.2.1, hr3.out⟩
            · exact ⟨S4, A4, c4, B4, d4, L4, (kn.out.here.1).e 7 (by decide), kn.out.here.2.2.2.2.1, hr4.out⟩
          replace kn := Aside0.mk (Kn.cons (cell_kn hcell) (Kn.cons hlv.kn kn.out))
          replace hrk := Aside0.mk hrk
          clear hcell hlv
          have hwk : IntKind.i64.wrap ((k : Int) + 1) = (k : Int) + 1 := by rw [Go.IntKind.wrap_i64]; omega
          have hki : (k : Int) < 4 := by omega
          go_upto_region 25 with (fail)
          have kd := Aside0.mk (kn.out.step (below_drew1 (Below.refl wr.heap.size wr)))
          clear kn
          refine start_ (n := 10) (S := fun w' => w'.cell? ⟨bl, 0, none⟩ = some (.slice A n c) ∧ w'.cell? ⟨bl, 1, none⟩ = some (.slice B m d) ∧ w'.cell? ⟨x8, k * 2 + 1, none⟩ = some (.slice Bk m dk) ∧ Aside0 (Kn (fun W => W.cell? ⟨x8, k * 2 + 1, none⟩ = some (.slice Bk m dk) ∧ LV Sk n m Ak ck Bk dk Lk W ∧ RW x8 8 (fun i => [.slice A1 n c1, .slice B1 m d1, .slice A2 n c2, .slice B2 m d2, .slice A3 n c3, .slice B3 m d3, .slice A4 n c4, .slice B4 m d4].getD i undef) W ∧ Bx b5 (.slice A5 n c5) (.slice B5 m d5) W ∧ LV S5 n m A5 c5 B5 d5 L5 W ∧ Bx b4 (.slice A4 n c4) (.slice B4 m d4) W ∧ LV S4 n m A4 c4 B4 d4 L4 W ∧ Bx b3 (.slice A3 n c3) (.slice B3 m d3) W ∧ LV S3 n m A3 c3 B3 d3 L3 W ∧ Bx b2 (.slice A2 n c2) (.slice B2 m d2) W ∧ LV S2 n m A2 c2 B2 d2 L2 W ∧ Bx b1 (.slice A1 n c1) (.slice B1 m d1) W ∧ LV S1 n m A1 c1 B1 d1 L1 W ∧ Bx bq (.int .i64 bi) (.int .i64 bK) W ∧ Bx bp (.int .i64 ai) (.int .i64 aK) W ∧ Bx bl (.slice A n c) (.slice B m d) W ∧ LV S n m A c B d L W ∧ Tb w W) w')) (ds := []) #[false, false, false, false, false, false, false, false, false, false] (by kernel_rfl) rfl rfl ⟨kd.out.here.2.2.2.2.2.2.2.2.2.2.2.2.2.2.2.1.k0, kd.out.here.2.2.2.2.2.2.2.2.2.2.2.2.2.2.2.1.k1, kd.out.here.1, kd⟩ (fun hHeld => ?_)
          generalize wr.drew = V5 at kd hHeld ⊢
          refine pure_ (i := 0) (N := some 140) (v := ?_) (a' := ?_) #[true, false, false, false, false, false, false, false, false, false] rfl rfl (by kernel_rfl) (fun _ _ _ h => h) (Or.inl ⟨by rfl, ?_⟩) ?_ ?_
          rotate_left
          · intro w'
            go_simp
            with_reducible rfl
          rotate_left
          · simp only [Act.put, List.setIfInBounds_toArray, List.set_cons_zero, List.set_cons_succ, i64_w, i32_w]
            rfl
          refine pure_ (i := 1) (N := some 141) (v := ?_) (a' := ?_) #[true, true, false, false, false, false, false, false, false, false] rfl rfl (by kernel_rfl) (fun _ _ _ h => h) (Or.inl ⟨by rfl, ?_⟩) ?_ ?_
          rotate_left
          · intro w'
            go_simp
            with_reducible rfl
          rotate_left
          · simp only [Act.put, List.setIfInBounds_toArray, List.set_cons_zero, List.set_cons_succ, i64_w, i32_w]
            rfl
          refine pure_ (i := 2) (N := some 142) (v := ?_) (a' := ?_) #[true, true, true, false, false, false, false, false, false, false] rfl rfl (by kernel_rfl) (fun _ _ _ h => h) (Or.inl ⟨by rfl, ?_⟩) ?_ ?_
          rotate_left
          · intro w'
            go_simp
            with_reducible rfl
          rotate_left
          · simp only [Act.put, List.setIfInBounds_toArray, List.set_cons_zero, List.set_cons_succ, i64_w, i32_w]
            rfl
          refine pure_ (i := 3) (N := some 143) (v := ?_) (a' := ?_) #[true, true, true, true, false, false, false, false, false, false] rfl rfl (by kernel_rfl) (fun _ _ _ h => h) (Or.inl ⟨by rfl, ?_⟩) ?_ ?_
          rotate_left
          · intro w'
            go_simp
            with_reducible rfl
          rotate_left
          · simp only [Act.put, List.setIfInBounds_toArray, List.set_cons_zero, List.set_cons_succ, i64_w, i32_w]
            rfl
          refine pure_ (i := 6) (N := some 146) (v := ?_) (a' := ?_) #[true, true, true, true, false, false, true, false, false, false] rfl rfl (by kernel_rfl) (fun _ _ _ h => h) (Or.inl ⟨by rfl, ?_⟩) ?_ ?_
          rotate_left
          · intro w'
            go_simp
            with_reducible rfl
          rotate_left
          · simp only [Act.put, List.setIfInBounds_toArray, List.set_cons_zero, List.set_cons_succ, i64_w, i32_w]
            rfl
          refine take_ (i := 4) (N := some 144) (v := ?_) (a' := ?_) #[true, true, true, true, true, false, true, false, false, false] rfl rfl (by kernel_rfl) (fun _ _ _ h => h) (Or.inl ⟨by rfl, ?_⟩) hHeld ?_ ?_
          rotate_left
          · rintro w' ⟨s0, s1, s2, s3⟩
            go_simp
            with_reducible rfl
          rotate_left
          · simp only [Act.put, List.setIfInBounds_toArray, List.set_cons_zero, List.set_cons_succ, i64_w, i32_w]
            rfl
          refine pure_ (i := 5) (N := some 145) (v := ?_) (a' := ?_) #[true, true, true, true, true, true, true, false, false, false] rfl rfl (by kernel_rfl) (fun _ _ _ h => h) (Or.inl ⟨by rfl, ?_⟩) ?_ ?_
          rotate_left
          · intro w'
            go_simp
            with_reducible rfl
          rotate_left
          · simp only [Act.put, List.setIfInBounds_toArray, List.set_cons_zero, List.set_cons_succ, i64_w, i32_w]
            rfl
          refine take_ (i := 7) (N := some 147) (v := ?_) (a' := ?_) #[true, true, true, true, true, true, true, true, false, false] rfl rfl (by kernel_rfl) (fun _ _ _ h => h) (Or.inl ⟨by rfl, ?_⟩) hHeld ?_ ?_
          rotate_left
          · rintro w' ⟨s0, s1, s2, s3⟩
            go_simp
            with_reducible rfl
          rotate_left
          · simp only [Act.put, List.setIfInBounds_toArray, List.set_cons_zero, List.set_cons_succ, i64_w, i32_w]
            rfl
          refine pure_ (i := 8) (N := some 148) (v := ?_) (a' := ?_) #[true, true, true, true, true, true, true, true, true, false] rfl rfl (by kernel_rfl) (fun _ _ _ h => h) (Or.inl ⟨by rfl, ?_⟩) ?_ ?_
          rotate_left
          · intro w'
            go_simp
            with_reducible rfl
          rotate_left
          · simp only [Act.put, List.setIfInBounds_toArray, List.set_cons_zero, List.set_cons_succ, i64_w, i32_w]
            rfl
          refine pure_ (i := 9) (N := some 149) (v := ?_) (a' := ?_) #[true, true, true, true, true, true, true, true, true, true] rfl rfl (by kernel_rfl) (fun _ _ _ h => h) (Or.inl ⟨by rfl, ?_⟩) ?_ ?_
          rotate_left
          · intro w'
            go_simp
            with_reducible rfl
          rotate_left
          · simp only [Act.put, List.setIfInBounds_toArray, List.set_cons_zero, List.set_cons_succ, i64_w, i32_w]
            rfl
          refine done_ (by kernel_rfl) ?_
          have kn := hHeld.2.2.2
          clear hHeld kd
          go_upto_region 28 with (fail)
          go_loopw [28, 29] (fun v28 v29 wr => ∃ u : Nat, u ≤ m ∧ v28 = .int .i64 u ∧ Aside0 (Kn (fun W => W.cell? ⟨x8, k * 2 + 1, none⟩ = some (.slice Bk m dk) ∧ LV Sk n m Ak ck Bk dk Lk W ∧ RW x8 8 (fun i => [.slice A1 n c1, .slice B1 m d1, .slice A2 n c2, .slice B2 m d2, .slice A3 n c3, .slice B3 m d3, .slice A4 n c4, .slice B4 m d4].getD i undef) W ∧ Bx b5 (.slice A5 n c5) (.slice B5 m d5) W ∧ LV S5 n m A5 c5 B5 d5 L5 W ∧ Bx b4 (.slice A4 n c4) (.slice B4 m d4) W ∧ LV S4 n m A4 c4 B4 d4 L4 W ∧ Bx b3 (.slice A3 n c3) (.slice B3 m d3) W ∧ LV S3 n m A3 c3 B3 d3 L3 W ∧ Bx b2 (.slice A2 n c2) (.slice B2 m d2) W ∧ LV S2 n m A2 c2 B2 d2 L2 W ∧ Bx b1 (.slice A1 n c1) (.slice B1 m d1) W ∧ LV S1 n m A1 c1 B1 d1 L1 W ∧ Bx bq (.int .i64 bi) (.int .i64 bK) W ∧ Bx bp (.int .i64 ai) (.int .i64 aK) W ∧ Bx bl (.slice A n c) (.slice B m d) W ∧ LV S n m A c B d L W ∧ Tb w W) wr)) (fun v _ _ => m - (intOf v).toNat)
          case atStart => exact ⟨0, by omega, rfl, kn⟩
          case round =>
            clear kn
            obtain ⟨u, hu, rfl, kn⟩ := hrel
            have hwu : IntKind.i64.wrap ((u : Int) + 1) = (u : Int) + 1 := by have := hm40.out; rw [Go.IntKind.wrap_i64]; omega
            have yl0 := kn.out.here.2.2.2.2.2.2.2.2.2.2.2.2.2.2.2.1.k0
            have yl1 := kn.out.here.2.2.2.2.2.2.2.2.2.2.2.2.2.2.2.1.k1
            by_cases hum : (u : Int) < m
            · go_upto_region 31 with (fail)
              clear yl0 yl1
              go_loopw [29] (fun v29 wr => ∃ i : Nat, i ≤ n ∧ v29 = .int .i64 i ∧ Aside0 (Kn (fun W => W.cell? ⟨x8, k * 2 + 1, none⟩ = some (.slice Bk m dk) ∧ LV Sk n m Ak ck Bk dk Lk W ∧ RW x8 8 (fun i => [.slice A1 n c1, .slice B1 m d1, .slice A2 n c2, .slice B2 m d2, .slice A3 n c3, .slice B3 m d3, .slice A4 n c4, .slice B4 m d4].getD i undef) W ∧ Bx b5 (.slice A5 n c5) (.slice B5 m d5) W ∧ LV S5 n m A5 c5 B5 d5 L5 W ∧ Bx b4 (.slice A4 n c4) (.slice B4 m d4) W ∧ LV S4 n m A4 c4 B4 d4 L4 W ∧ Bx b3 (.slice A3 n c3) (.slice B3 m d3) W ∧ LV S3 n m A3 c3 B3 d3 L3 W ∧ Bx b2 (.slice A2 n c2) (.slice B2 m d2) W ∧ LV S2 n m A2 c2 B2 d2 L2 W ∧ Bx b1 (.slice A1 n c1) (.slice B1 m d1) W ∧ LV S1 n m A1 c1 B1 d1 L1 W ∧ Bx bq (.int .i64 bi) (.int .i64 bK) W ∧ Bx bp (.int .i64 ai) (.int .i64 aK) W ∧ Bx bl (.slice A n c) (.slice B m d) W ∧ LV S n m A c B d L W ∧ Tb w W) wr)) (fun v _ => n - (intOf v).toNat)
              case atStart => exact ⟨0, by omega, rfl, kn⟩
              case round =>
                clear kn
                obtain ⟨v, hv, rfl, kn⟩ := hrel
                have hwv : IntKind.i64.wrap ((v : Int) + 1) = (v : Int) + 1 := by have := hn20.out; rw [Go.IntKind.wrap_i64]; omega
                have yl0 := kn.out.here.2.2.2.2.2.2.2.2.2.2.2.2.2.2.2.1.k0
                have yl1 := kn.out.here.2.2.2.2.2.2.2.2.2.2.2.2.2.2.2.1.k1
                by_cases hvn : (v : Int) < n
                · go_upto_region 33 with (fail)
                  clear yl0 yl1
                  cases hut : ((u : Int) == t) with
                  | true =>
                    have hut2 : ((u : Int) != t) = false := by simp [bne, hut]
                    have kd := Aside0.mk (kn.out.step (below_drew1 (Below.refl wr.heap.size wr)))
                    clear kn
                    refine start_ (n := 25) (S := fun w' => Aside0 (Kn (fun W => W.cell? ⟨x8, k * 2 + 1, none⟩ = some (.slice Bk m dk) ∧ LV Sk n m Ak ck Bk dk Lk W ∧ RW x8 8 (fun i => [.slice A1 n c1, .slice B1 m d1, .slice A2 n c2, .slice B2 m d2, .slice A3 n c3, .slice B3 m d3, .slice A4 n c4, .slice B4 m d4].getD i undef) W ∧ Bx b5 (.slice A5 n c5) (.slice B5 m d5) W ∧ LV S5 n m A5 c5 B5 d5 L5 W ∧ Bx b4 (.slice A4 n c4) (.slice B4 m d4) W ∧ LV S4 n m A4 c4 B4 d4 L4 W ∧ Bx b3 (.slice A3 n c3) (.slice B3 m d3) W ∧ LV S3 n m A3 c3 B3 d3 L3 W ∧ Bx b2 (.slice A2 n c2) (.slice B2 m d2) W ∧ LV S2 n m A2 c2 B2 d2 L2 W ∧ Bx b1 (.slice A1 n c1) (.slice B1 m d1) W ∧ LV S1 n m A1 c1 B1 d1 L1 W ∧ Bx bq (.int .i64 bi) (.int .i64 bK) W ∧ Bx bp (.int .i64 ai) (.int .i64 aK) W ∧ Bx bl (.slice A n c) (.slice B m d) W ∧ LV S n m A c B d L W ∧ Tb w W) w')) (ds := []) #[false, false, false, false, false, false, false, false, false, false, false, false, false, false, false, false, false, false, false, false, false, false, false, false, false] (by kernel_rfl) rfl rfl (kd) (fun hHeld => ?_)
                    generalize wr.drew = V5 at kd hHeld ⊢
                    refine pure_ (i := 0) (N := some 164) (v := ?_) (a' := ?_) #[true, false, false, false, false, false, false, false, false, false, false, false, false, false, false, false, false, false, false, false, false, false, false, false, false] rfl rfl (by kernel_rfl) (fun _ _ _ h => h) (Or.inl ⟨by rfl, ?_⟩) ?_ ?_
                    rotate_left
                    · intro w'
                      go_simp
                      with_reducible rfl
                    rotate_left
                    · simp only [Act.put, List.setIfInBounds_toArray, List.set_cons_zero, List.set_cons_succ, i64_w, i32_w]
                      rfl
                    refine pure_ (i := 1) (N := some 165) (v := ?_) (a' := ?_) #[true, true, false, false, false, false, false, false, false, false, false, false, false, false, false, false, false, false, false, false, false, false, false, false, false] rfl rfl (by kernel_rfl) (fun _ _ _ h => h) (Or.inl ⟨by rfl, ?_⟩) ?_ ?_
                    rotate_left
                    · intro w'
                      go_simp
                      with_reducible rfl
                    rotate_left
                    · simp only [Act.put, List.setIfInBounds_toArray, List.set_cons_zero, List.set_cons_succ, i64_w, i32_w]
                      rfl
                    refine pure_ (i := 2) (N := some 166) (v := ?_) (a' := ?_) #[true, true, true, false, false, false, false, false, false, false, false, false, false, false, false, false, false, false, false, false, false, false, false, false, false] rfl rfl (by kernel_rfl) (fun _ _ _ h => h) (Or.inl ⟨by rfl, ?_⟩) ?_ ?_
                    rotate_left
                    · intro w'
                      go_simp
                      with_reducible rfl
                    rotate_left
                    · simp only [Act.put, List.setIfInBounds_toArray, List.set_cons_zero, List.set_cons_succ, i64_w, i32_w]
                      rfl
                    refine pure_ (i := 3) (N := some 167) (v := ?_) (a' := ?_) #[true, true, true, true, false, false, false, false, false, false, false, false, false, false, false, false, false, false, false, false, false, false, false, false, false] rfl rfl (by kernel_rfl) (fun _ _ _ h => h) (Or.inl ⟨by rfl, ?_⟩) ?_ ?_
                    rotate_left
                    · intro w'
                      go_simp
                      with_reducible rfl
                    rotate_left
                    · simp only [Act.put, List.setIfInBounds_toArray, List.set_cons_zero, List.set_cons_succ, i64_w, i32_w]
                      rfl
                    refine pure_ (i := 4) (N := some 168) (v := undef) (a' := ?_) #[true, true, true, true, true, false, false, false, false, false, false, false, false, false, false, false, false, false, false, false, false, false, false, false, false] rfl rfl (by kernel_rfl) (fun _ _ _ h => h) (Or.inr ⟨by rfl, rfl⟩) ?_ ?_
                    rotate_left
                    · simp only [Act.put, List.setIfInBounds_toArray, List.set_cons_zero, List.set_cons_succ, i64_w, i32_w]
                      rfl
                    refine pure_ (i := 5) (N := some 169) (v := undef) (a' := ?_) #[true, true, true, true, true, true, false, false, false, false, false, false, false, false, false, false, false, false, false, false, false, false, false, false, false] rfl rfl (by kernel_rfl) (fun _ _ _ h => h) (Or.inr ⟨by rfl, rfl⟩) ?_ ?_
                    rotate_left
                    · simp only [Act.put, List.setIfInBounds_toArray, List.set_cons_zero, List.set_cons_succ, i64_w, i32_w]
                      rfl
                    refine pure_ (i := 6) (N := some 170) (v := undef) (a' := ?_) #[true, true, true, true, true, true, true, false, false, false, false, false, false, false, false, false, false, false, false, false, false, false, false, false, false] rfl rfl (by kernel_rfl) (fun _ _ _ h => h) (Or.inr ⟨by rfl, rfl⟩) ?_ ?_
                    rotate_left
                    · simp only [Act.put, List.setIfInBounds_toArray, List.set_cons_zero, List.set_cons_succ, i64_w, i32_w]
                      rfl
                    refine pure_ (i := 7) (N := some 171) (v := undef) (a' := ?_) #[true, true, true, true, true, true, true, true, false, false, false, false, false, false, false, false, false, false, false, false, false, false, false, false, false] rfl rfl (by kernel_rfl) (fun _ _ _ h => h) (Or.inr ⟨by rfl, rfl⟩) ?_ ?_
                    rotate_left
                    · simp only [Act.put, List.setIfInBounds_toArray, List.set_cons_zero, List.set_cons_succ, i64_w, i32_w]
                      rfl
                    refine pure_ (i := 8) (N := some 172) (v := undef) (a' := ?_) #[true, true, true, true, true, true, true, true, true, false, false, false, false, false, false, false, false, false, false, false, false, false, false, false, false] rfl rfl (by kernel_rfl) (fun _ _ _ h => h) (Or.inr ⟨by rfl, rfl⟩) ?_ ?_
                    rotate_left
                    · simp only [Act.put, List.setIfInBounds_toArray, List.set_cons_zero, List.set_cons_succ, i64_w, i32_w]
                      rfl
                    refine pure_ (i := 9) (N := some 173) (v := undef) (a' := ?_) #[true, true, true, true, true, true, true, true, true, true, false, false, false, false, false, false, false, false, false, false, false, false, false, false, false] rfl rfl (by kernel_rfl) (fun _ _ _ h => h) (Or.inr ⟨by rfl, rfl⟩) ?_ ?_
                    rotate_left
                    · simp only [Act.put, List.setIfInBounds_toArray, List.set_cons_zero, List.set_cons_succ, i64_w, i32_w]
                      rfl
                    refine pure_ (i := 10) (N := some 174) (v := undef) (a' := ?_) #[true, true, true, true, true, true, true, true, true, true, true, false, false, false, false, false, false, false, false, false, false, false, false, false, false] rfl rfl (by kernel_rfl) (fun _ _ _ h => h) (Or.inr ⟨by rfl, rfl⟩) ?_ ?_
                    rotate_left
                    · simp only [Act.put, List.setIfInBounds_toArray, List.set_cons_zero, List.set_cons_succ, i64_w, i32_w]
                      rfl
                    refine pure_ (i := 11) (N := some 175) (v := undef) (a' := ?_) #[true, true, true, true, true, true, true, true, true, true, true, true, false, false, false, false, false, false, false, false, false, false, false, false, false] rfl rfl (by kernel_rfl) (fun _ _ _ h => h) (Or.inr ⟨by rfl, rfl⟩) ?_ ?_
                    rotate_left
                    · simp only [Act.put, List.setIfInBounds_toArray, List.set_cons_zero, List.set_cons_succ, i64_w, i32_w]
                      rfl
                    refine pure_ (i := 12) (N := some 176) (v := undef) (a' := ?_) #[true, true, true, true, true, true, true, true, true, true, true, true, true, false, false, false, false, false, false, false, false, false, false, false, false] rfl rfl (by kernel_rfl) (fun _ _ _ h => h) (Or.inr ⟨by rfl, rfl⟩) ?_ ?_
                    rotate_left
                    · simp only [Act.put, List.setIfInBounds_toArray, List.set_cons_zero, List.set_cons_succ, i64_w, i32_w]
                      rfl
                    refine pure_ (i := 13) (N := some 177) (v := undef) (a' := ?_) #[true, true, true, true, true, true, true, true, true, true, true, true, true, true, false, false, false, false, false, false, false, false, false, false, false] rfl rfl (by kernel_rfl) (fun _ _ _ h => h) (Or.inr ⟨by rfl, rfl⟩) ?_ ?_
                    rotate_left
                    · simp only [Act.put, List.setIfInBounds_toArray, List.set_cons_zero, List.set_cons_succ, i64_w, i32_w]
                      rfl
                    refine pure_ (i := 14) (N := some 178) (v := undef) (a' := ?_) #[true, true, true, true, true, true, true, true, true, true, true, true, true, true, true, false, false, false, false, false, false, false, false, false, false] rfl rfl (by kernel_rfl) (fun _ _ _ h => h) (Or.inr ⟨by rfl, rfl⟩) ?_ ?_
                    rotate_left
                    · simp only [Act.put, List.setIfInBounds_toArray, List.set_cons_zero, List.set_cons_succ, i64_w, i32_w]
                      rfl
                    refine pure_ (i := 15) (N := some 179) (v := undef) (a' := ?_) #[true, true, true, true, true, true, true, true, true, true, true, true, true, true, true, true, false, false, false, false, false, false, false, false, false] rfl rfl (by kernel_rfl) (fun _ _ _ h => h) (Or.inr ⟨by rfl, rfl⟩) ?_ ?_
                    rotate_left
                    · simp only [Act.put, List.setIfInBounds_toArray, List.set_cons_zero, List.set_cons_succ, i64_w, i32_w]
                      rfl
                    refine pure_ (i := 16) (N := some 180) (v := undef) (a' := ?_) #[true, true, true, true, true, true, true, true, true, true, true, true, true, true, true, true, true, false, false, false, false, false, false, false, false] rfl rfl (by kernel_rfl) (fun _ _ _ h => h) (Or.inr ⟨by rfl, rfl⟩) ?_ ?_
                    rotate_left
                    · simp only [Act.put, List.setIfInBounds_toArray, List.set_cons_zero, List.set_cons_succ, i64_w, i32_w]
                      rfl
                    refine pure_ (i := 17) (N := some 181) (v := undef) (a' := ?_) #[true, true, true, true, true, true, true, true, true, true, true, true, true, true, true, true, true, true, false, false, false, false, false, false, false] rfl rfl (by kernel_rfl) (fun _ _ _ h => h) (Or.inr ⟨by rfl, rfl⟩) ?_ ?_
                    rotate_left
                    · simp only [Act.put, List.setIfInBounds_toArray, List.set_cons_zero, List.set_cons_succ, i64_w, i32_w]
                      rfl
                    refine pure_ (i := 18) (N := some 182) (v := undef) (a' := ?_) #[true, true, true, true, true, true, true, true, true, true, true, true, true, true, true, true, true, true, true, false, false, false, false, false, false] rfl rfl (by kernel_rfl) (fun _ _ _ h => h) (Or.inr ⟨by rfl, rfl⟩) ?_ ?_
                    rotate_left
                    · simp only [Act.put, List.setIfInBounds_toArray, List.set_cons_zero, List.set_cons_succ, i64_w, i32_w]
                      rfl
                    refine pure_ (i := 19) (N := some 183) (v := undef) (a' := ?_) #[true, true, true, true, true, true, true, true, true, true, true, true, true, true, true, true, true, true, true, true, false, false, false, false, false] rfl rfl (by kernel_rfl) (fun _ _ _ h => h) (Or.inr ⟨by rfl, rfl⟩) ?_ ?_
                    rotate_left
                    · simp only [Act.put, List.setIfInBounds_toArray, List.set_cons_zero, List.set_cons_succ, i64_w, i32_w]
                      rfl
                    refine pure_ (i := 20) (N := some 184) (v := undef) (a' := ?_) #[true, true, true, true, true, true, true, true, true, true, true, true, true, true, true, true, true, true, true, true, true, false, false, false, false] rfl rfl (by kernel_rfl) (fun _ _ _ h => h) (Or.inr ⟨by rfl, rfl⟩) ?_ ?_
                    rotate_left
                    · simp only [Act.put, List.setIfInBounds_toArray, List.set_cons_zero, List.set_cons_succ, i64_w, i32_w]
                      rfl
                    refine pure_ (i := 21) (N := some 185) (v := undef) (a' := ?_) #[true, true, true, true, true, true, true, true, true, true, true, true, true, true, true, true, true, true, true, true, true, true, false, false, false] rfl rfl (by kernel_rfl) (fun _ _ _ h => h) (Or.inr ⟨by rfl, rfl⟩) ?_ ?_
                    rotate_left
                    · simp only [Act.put, List.setIfInBounds_toArray, List.set_cons_zero, List.set_cons_succ, i64_w, i32_w]
                      rfl
                    refine pure_ (i := 22) (N := some 186) (v := undef) (a' := ?_) #[true, true, true, true, true, true, true, true, true, true, true, true, true, true, true, true, true, true, true, true, true, true, true, false, false] rfl rfl (by kernel_rfl) (fun _ _ _ h => h) (Or.inr ⟨by rfl, rfl⟩) ?_ ?_
                    rotate_left
                    · simp only [Act.put, List.setIfInBounds_toArray, List.set_cons_zero, List.set_cons_succ, i64_w, i32_w]
                      rfl
                    refine pure_ (i := 23) (N := some 187) (v := undef) (a' := ?_) #[true, true, true, true, true, true, true, true, true, true, true, true, true, true, true, true, true, true, true, true, true, true, true, true, false] rfl rfl (by kernel_rfl) (fun _ _ _ h => h) (Or.inr ⟨by rfl, rfl⟩) ?_ ?_
                    rotate_left
                    · simp only [Act.put, List.setIfInBounds_toArray, List.set_cons_zero, List.set_cons_succ, i64_w, i32_w]
                      rfl
                    refine pure_ (i := 24) (N := some 188) (v := ?_) (a' := ?_) #[true, true, true, true, true, true, true, true, true, true, true, true, true, true, true, true, true, true, true, true, true, true, true, true, true] rfl rfl (by kernel_rfl) (fun _ _ _ h => h) (Or.inl ⟨by rfl, ?_⟩) ?_ ?_
                    rotate_left
                    · intro w'
                      go_simp
                      with_reducible rfl
                    rotate_left
                    · simp only [Act.put, List.setIfInBounds_toArray, List.set_cons_zero, List.set_cons_succ, i64_w, i32_w]
                      rfl
                    refine done_ (by kernel_rfl) ?_
                    have kn := hHeld
                    clear hHeld kd
                    go_wp2
                    go_roundw
                    case rel => exact ⟨v + 1, by omega, by simp, kn⟩
                    case measure => simp [intOf]; omega
                  | false =>
                    have hut2 : ((u : Int) != t) = true := by simp [bne, hut]
                    obtain ⟨bk, ak, rk, eBk, _, hk1, _, hk2⟩ := (kn.out.here.2.1).row_ (t := (u : Int)) (i := (v : Int)) (by omega) hum (by omega) hvn
                    obtain ⟨bz, az, rz, eBz, _, hz1, _, hz2⟩ := (kn.out.here.2.2.2.2.2.2.2.2.2.2.2.2.2.2.2.2.1).row_ (t := (u : Int)) (i := (v : Int)) (by omega) hum (by omega) hvn
                    rw [Int.toNat_natCast] at hk1 hk2 hz1 hz2
                    rw [hrk.out (u : Int) (by omega) (by simpa using hut)] at hk2
                    obtain ⟨y, hy⟩ : ∃ y, rd (row L.hd (u : Int)) (v : Int) = y := ⟨_, rfl⟩
                    rw [hy] at hk2 hz2
                    have hk0 : wr.cell? ⟨x8, k * 2 + 1, none⟩ = some (.slice (some bk) m dk) := (kn.out.here.1).trans (by rw [eBk])
                    have hz0 : wr.cell? ⟨bl, 1, none⟩ = some (.slice (some bz) m d) := ((kn.out.here.2.2.2.2.2.2.2.2.2.2.2.2.2.2.2.1).k1).trans (by rw [eBz])
                    replace kn := Aside0.mk (Kn.cons (cell_kn hk0) (Kn.cons (cell_kn hk1) (Kn.cons (cell_kn hk2) (Kn.cons (cell_kn hz0) (Kn.cons (cell_kn hz1) (Kn.cons (cell_kn hz2) kn.out))))))
                    clear hk0 hk1 hk2 hz0 hz1 hz2 eBk eBz hy
                    have kd := Aside0.mk (kn.out.step (below_drew1 (Below.refl wr.heap.size wr)))
                    clear kn
                    refine start_ (n := 25) (S := fun w' => w'.cell? ⟨x8, k * 2 + 1, none⟩ = some (.slice (some bk) m dk) ∧ w'.cell? (bk.add u) = some (.slice (some ak) n rk) ∧ w'.cell? (ak.add v) = some (.int .i64 y) ∧ w'.cell? ⟨bl, 1, none⟩ = some (.slice (some bz) m d) ∧ w'.cell? (bz.add u) = some (.slice (some az) n rz) ∧ w'.cell? (az.add v) = some (.int .i64 y) ∧ Aside0 (Kn (fun W => W.cell? ⟨x8, k * 2 + 1, none⟩ = some (.slice (some bk) m dk) ∧ W.cell? (bk.add u) = some (.slice (some ak) n rk) ∧ W.cell? (ak.add v) = some (.int .i64 y) ∧ W.cell? ⟨bl, 1, none⟩ = some (.slice (some bz) m d) ∧ W.cell? (bz.add u) = some (.slice (some az) n rz) ∧ W.cell? (az.add v) = some (.int .i64 y) ∧ W.cell? ⟨x8, k * 2 + 1, none⟩ = some (.slice Bk m dk) ∧ LV Sk n m Ak ck Bk dk Lk W ∧ RW x8 8 (fun i => [.slice A1 n c1, .slice B1 m d1, .slice A2 n c2, .slice B2 m d2, .slice A3 n c3, .slice B3 m d3, .slice A4 n c4, .slice B4 m d4].getD i undef) W ∧ Bx b5 (.slice A5 n c5) (.slice B5 m d5) W ∧ LV S5 n m A5 c5 B5 d5 L5 W ∧ Bx b4 (.slice A4 n c4) (.slice B4 m d4) W ∧ LV S4 n m A4 c4 B4 d4 L4 W ∧ Bx b3 (.slice A3 n c3) (.slice B3 m d3) W ∧ LV S3 n m A3 c3 B3 d3 L3 W ∧ Bx b2 (.slice A2 n c2) (.slice B2 m d2) W ∧ LV S2 n m A2 c2 B2 d2 L2 W ∧ Bx b1 (.slice A1 n c1) (.slice B1 m d1) W ∧ LV S1 n m A1 c1 B1 d1 L1 W ∧ Bx bq (.int .i64 bi) (.int .i64 bK) W ∧ Bx bp (.int .i64 ai) (.int .i64 aK) W ∧ Bx bl (.slice A n c) (.slice B m d) W ∧ LV S n m A c B d L W ∧ Tb w W) w')) (ds := []) #[false, false, false, false, false, false, false, false, false, false, false, false, false, false, false, false, false, false, false, false, false, false, false, false, false] (by kernel_rfl) rfl rfl ⟨kd.out.here.1, kd.out.here.2.1, kd.out.here.2.2.1, kd.out.here.2.2.2.1, kd.out.here.2.2.2.2.1, kd.out.here.2.2.2.2.2.1, kd⟩ (fun hHeld => ?_)
                    generalize wr.drew = V5 at kd hHeld ⊢
                    refine pure_ (i := 0) (N := some 164) (v := ?_) (a' := ?_) #[true, false, false, false, false, false, false, false, false, false, false, false, false, false, false, false, false, false, false, false, false, false, false, false, false] rfl rfl (by kernel_rfl) (fun _ _ _ h => h) (Or.inl ⟨by rfl, ?_⟩) ?_ ?_
                    rotate_left
                    · intro w'
                      go_simp
                      with_reducible rfl
                    rotate_left
                    · simp only [Act.put, List.setIfInBounds_toArray, List.set_cons_zero, List.set_cons_succ, i64_w, i32_w]
                      rfl
                    refine pure_ (i := 1) (N := some 165) (v := ?_) (a' := ?_) #[true, true, false, false, false, false, false, false, false, false, false, false, false, false, false, false, false, false, false, false, false, false, false, false, false] rfl rfl (by kernel_rfl) (fun _ _ _ h => h) (Or.inl ⟨by rfl, ?_⟩) ?_ ?_
                    rotate_left
                    · intro w'
                      go_simp
                      with_reducible rfl
                    rotate_left
                    · simp only [Act.put, List.setIfInBounds_toArray, List.set_cons_zero, List.set_cons_succ, i64_w, i32_w]
                      rfl
                    refine pure_ (i := 2) (N := some 166) (v := ?_) (a' := ?_) #[true, true, true, false, false, false, false, false, false, false, false, false, false, false, false, false, false, false, false, false, false, false, false, false, false] rfl rfl (by kernel_rfl) (fun _ _ _ h => h) (Or.inl ⟨by rfl, ?_⟩) ?_ ?_
                    rotate_left
                    · intro w'
                      go_simp
                      with_reducible rfl
                    rotate_left
                    · simp only [Act.put, List.setIfInBounds_toArray, List.set_cons_zero, List.set_cons_succ, i64_w, i32_w]
                      rfl
                    refine pure_ (i := 3) (N := some 167) (v := ?_) (a' := ?_) #[true, true, true, true, false, false, false, false, false, false, false, false, false, false, false, false, false, false, false, false, false, false, false, false, false] rfl rfl (by kernel_rfl) (fun _ _ _ h => h) (Or.inl ⟨by rfl, ?_⟩) ?_ ?_
                    rotate_left
                    · intro w'
                      go_simp
                      with_reducible rfl
                    rotate_left
                    · simp only [Act.put, List.setIfInBounds_toArray, List.set_cons_zero, List.set_cons_succ, i64_w, i32_w]
                      rfl
                    refine pure_ (i := 4) (N := some 168) (v := ?_) (a' := ?_) #[true, true, true, true, true, false, false, false, false, false, false, false, false, false, false, false, false, false, false, false, false, false, false, false, false] rfl rfl (by kernel_rfl) (fun _ _ _ h => h) (Or.inl ⟨by rfl, ?_⟩) ?_ ?_
                    rotate_left
                    · intro w'
                      go_simp
                      with_reducible rfl
                    rotate_left
                    · simp only [Act.put, List.setIfInBounds_toArray, List.set_cons_zero, List.set_cons_succ, i64_w, i32_w]
                      rfl
                    refine pure_ (i := 5) (N := some 169) (v := ?_) (a' := ?_) #[true, true, true, true, true, true, false, false, false, false, false, false, false, false, false, false, false, false, false, false, false, false, false, false, false] rfl rfl (by kernel_rfl) (fun _ _ _ h => h) (Or.inl ⟨by rfl, ?_⟩) ?_ ?_
                    rotate_left
                    · intro w'
                      go_simp
                      with_reducible rfl
                    rotate_left
                    · simp only [Act.put, List.setIfInBounds_toArray, List.set_cons_zero, List.set_cons_succ, i64_w, i32_w]
                      rfl
                    refine pure_ (i := 6) (N := some 170) (v := ?_) (a' := ?_) #[true, true, true, true, true, true, true, false, false, false, false, false, false, false, false, false, false, false, false, false, false, false, false, false, false] rfl rfl (by kernel_rfl) (fun _ _ _ h => h) (Or.inl ⟨by rfl, ?_⟩) ?_ ?_
                    rotate_left
                    · intro w'
                      go_simp
                      with_reducible rfl
                    rotate_left
                    · simp only [Act.put, List.setIfInBounds_toArray, List.set_cons_zero, List.set_cons_succ, i64_w, i32_w]
                      rfl
                    refine pure_ (i := 7) (N := some 171) (v := ?_) (a' := ?_) #[true, true, true, true, true, true, true, true, false, false, false, false, false, false, false, false, false, false, false, false, false, false, false, false, false] rfl rfl (by kernel_rfl) (fun _ _ _ h => h) (Or.inl ⟨by rfl, ?_⟩) ?_ ?_
                    rotate_left
                    · intro w'
                      go_simp
                      with_reducible rfl
                    rotate_left
                    · simp only [Act.put, List.setIfInBounds_toArray, List.set_cons_zero, List.set_cons_succ, i64_w, i32_w]
                      rfl
                    refine pure_ (i := 9) (N := some 173) (v := ?_) (a' := ?_) #[true, true, true, true, true, true, true, true, false, true, false, false, false, false, false, false, false, false, false, false, false, false, false, false, false] rfl rfl (by kernel_rfl) (fun _ _ _ h => h) (Or.inl ⟨by rfl, ?_⟩) ?_ ?_
                    rotate_left
                    · intro w'
                      go_simp
                      with_reducible rfl
                    rotate_left
                    · simp only [Act.put, List.setIfInBounds_toArray, List.set_cons_zero, List.set_cons_succ, i64_w, i32_w]
                      rfl
                    refine pure_ (i := 12) (N := some 176) (v := ?_) (a' := ?_) #[true, true, true, true, true, true, true, true, false, true, false, false, true, false, false, false, false, false, false, false, false, false, false, false, false] rfl rfl (by kernel_rfl) (fun _ _ _ h => h) (Or.inl ⟨by rfl, ?_⟩) ?_ ?_
                    rotate_left
                    · intro w'
                      go_simp
                      with_reducible rfl
                    rotate_left
                    · simp only [Act.put, List.setIfInBounds_toArray, List.set_cons_zero, List.set_cons_succ, i64_w, i32_w]
                      rfl
                    refine pure_ (i := 15) (N := some 179) (v := ?_) (a' := ?_) #[true, true, true, true, true, true, true, true, false, true, false, false, true, false, false, true, false, false, false, false, false, false, false, false, false] rfl rfl (by kernel_rfl) (fun _ _ _ h => h) (Or.inl ⟨by rfl, ?_⟩) ?_ ?_
                    rotate_left
                    · intro w'
                      go_simp
                      with_reducible rfl
                    rotate_left
                    · simp only [Act.put, List.setIfInBounds_toArray, List.set_cons_zero, List.set_cons_succ, i64_w, i32_w]
                      rfl
                    refine pure_ (i := 17) (N := some 181) (v := ?_) (a' := ?_) #[true, true, true, true, true, true, true, true, false, true, false, false, true, false, false, true, false, true, false, false, false, false, false, false, false] rfl rfl (by kernel_rfl) (fun _ _ _ h => h) (Or.inl ⟨by rfl, ?_⟩) ?_ ?_
                    rotate_left
                    · intro w'
                      go_simp
                      with_reducible rfl
                    rotate_left
                    · simp only [Act.put, List.setIfInBounds_toArray, List.set_cons_zero, List.set_cons_succ, i64_w, i32_w]
                      rfl
                    refine pure_ (i := 20) (N := some 184) (v := ?_) (a' := ?_) #[true, true, true, true, true, true, true, true, false, true, false, false, true, false, false, true, false, true, false, false, true, false, false, false, false] rfl rfl (by kernel_rfl) (fun _ _ _ h => h) (Or.inl ⟨by rfl, ?_⟩) ?_ ?_
                    rotate_left
                    · intro w'
                      go_simp
                      with_reducible rfl
                    rotate_left
                    · simp only [Act.put, List.setIfInBounds_toArray, List.set_cons_zero, List.set_cons_succ, i64_w, i32_w]
                      rfl
                    refine take_ (i := 8) (N := some 172) (v := ?_) (a' := ?_) #[true, true, true, true, true, true, true, true, true, true, false, false, true, false, false, true, false, true, false, false, true, false, false, false, false] rfl rfl (by kernel_rfl) (fun _ _ _ h => h) (Or.inl ⟨by rfl, ?_⟩) hHeld ?_ ?_
                    rotate_left
                    · rintro w' ⟨s0, s1, s2, s3, s4, s5, s6⟩
                      go_simp
                      with_reducible rfl
                    rotate_left
                    · simp only [Act.put, List.setIfInBounds_toArray, List.set_cons_zero, List.set_cons_succ, i64_w, i32_w]
                      rfl
                    refine pure_ (i := 10) (N := some 174) (v := ?_) (a' := ?_) #[true, true, true, true, true, true, true, true, true, true, true, false, true, false, false, true, false, true, false, false, true, false, false, false, false] rfl rfl (by kernel_rfl) (fun _ _ _ h => h) (Or.inl ⟨by rfl, ?_⟩) ?_ ?_
                    rotate_left
                    · intro w'
                      go_simp
                      with_reducible rfl
                    rotate_left
                    · simp only [Act.put, List.setIfInBounds_toArray, List.set_cons_zero, List.set_cons_succ, i64_w, i32_w]
                      rfl
                    refine take_ (i := 11) (N := some 175) (v := ?_) (a' := ?_) #[true, true, true, true, true, true, true, true, true, true, true, true, true, false, false, true, false, true, false, false, true, false, false, false, false] rfl rfl (by kernel_rfl) (fun _ _ _ h => h) (Or.inl ⟨by rfl, ?_⟩) hHeld ?_ ?_
                    rotate_left
                    · rintro w' ⟨s0, s1, s2, s3, s4, s5, s6⟩
                      go_simp
                      with_reducible rfl
                    rotate_left
                    · simp only [Act.put, List.setIfInBounds_toArray, List.set_cons_zero, List.set_cons_succ, i64_w, i32_w]
                      rfl
                    refine pure_ (i := 13) (N := some 177) (v := ?_) (a' := ?_) #[true, true, true, true, true, true, true, true, true, true, true, true, true, true, false, true, false, true, false, false, true, false, false, false, false] rfl rfl (by kernel_rfl) (fun _ _ _ h => h) (Or.inl ⟨by rfl, ?_⟩) ?_ ?_
                    rotate_left
                    · intro w'
                      go_simp
                      with_reducible rfl
                    rotate_left
                    · simp only [Act.put, List.setIfInBounds_toArray, List.set_cons_zero, List.set_cons_succ, i64_w, i32_w]
                      rfl
                    refine take_ (i := 14) (N := some 178) (v := ?_) (a' := ?_) #[true, true, true, true, true, true, true, true, true, true, true, true, true, true, true, true, false, true, false, false, true, false, false, false, false] rfl rfl (by kernel_rfl) (fun _ _ _ h => h) (Or.inl ⟨by rfl, ?_⟩) hHeld ?_ ?_
                    rotate_left
                    · rintro w' ⟨s0, s1, s2, s3, s4, s5, s6⟩
                      go_simp
                      with_reducible rfl
                    rotate_left
                    · simp only [Act.put, List.setIfInBounds_toArray, List.set_cons_zero, List.set_cons_succ, i64_w, i32_w]
                      rfl
                    refine take_ (i := 16) (N := some 180) (v := ?_) (a' := ?_) #[true, true, true, true, true, true, true, true, true, true, true, true, true, true, true, true, true, true, false, false, true, false, false, false, false] rfl rfl (by kernel_rfl) (fun _ _ _ h => h) (Or.inl ⟨by rfl, ?_⟩) hHeld ?_ ?_
                    rotate_left
                    · rintro w' ⟨s0, s1, s2, s3, s4, s5, s6⟩
                      go_simp
                      with_reducible rfl
                    rotate_left
                    · simp only [Act.put, List.setIfInBounds_toArray, List.set_cons_zero, List.set_cons_succ, i64_w, i32_w]
                      rfl
                    refine pure_ (i := 18) (N := some 182) (v := ?_) (a' := ?_) #[true, true, true, true, true, true, true, true, true, true, true, true, true, true, true, true, true, true, true, false, true, false, false, false, false] rfl rfl (by kernel_rfl) (fun _ _ _ h => h) (Or.inl ⟨by rfl, ?_⟩) ?_ ?_
                    rotate_left
                    · intro w'
                      go_simp
                      with_reducible rfl
                    rotate_left
                    · simp only [Act.put, List.setIfInBounds_toArray, List.set_cons_zero, List.set_cons_succ, i64_w, i32_w]
                      rfl
                    refine take_ (i := 19) (N := some 183) (v := ?_) (a' := ?_) #[true, true, true, true, true, true, true, true, true, true, true, true, true, true, true, true, true, true, true, true, true, false, false, false, false] rfl rfl (by kernel_rfl) (fun _ _ _ h => h) (Or.inl ⟨by rfl, ?_⟩) hHeld ?_ ?_
                    rotate_left
                    · rintro w' ⟨s0, s1, s2, s3, s4, s5, s6⟩
                      go_simp
                      with_reducible rfl
                    rotate_left
                    · simp only [Act.put, List.setIfInBounds_toArray, List.set_cons_zero, List.set_cons_succ, i64_w, i32_w]
                      rfl
                    refine pure_ (i := 21) (N := some 185) (v := ?_) (a' := ?_) #[true, true, true, true, true, true, true, true, true, true, true, true, true, true, true, true, true, true, true, true, true, true, false, false, false] rfl rfl (by kernel_rfl) (fun _ _ _ h => h) (Or.inl ⟨by rfl, ?_⟩) ?_ ?_
                    rotate_left
                    · intro w'
                      go_simp
                      with_reducible rfl
                    rotate_left
                    · simp only [Act.put, List.setIfInBounds_toArray, List.set_cons_zero, List.set_cons_succ, i64_w, i32_w]
                      rfl
                    refine take_ (i := 22) (N := some 186) (v := ?_) (a' := ?_) #[true, true, true, true, true, true, true, true, true, true, true, true, true, true, true, true, true, true, true, true, true, true, true, false, false] rfl rfl (by kernel_rfl) (fun _ _ _ h => h) (Or.inl ⟨by rfl, ?_⟩) hHeld ?_ ?_
                    rotate_left
                    · rintro w' ⟨s0, s1, s2, s3, s4, s5, s6⟩
                      go_simp
                      with_reducible rfl
                    rotate_left
                    · simp only [Act.put, List.setIfInBounds_toArray, List.set_cons_zero, List.set_cons_succ, i64_w, i32_w]
                      rfl
                    refine pure_ (i := 23) (N := some 187) (v := ?_) (a' := ?_) #[true, true, true, true, true, true, true, true, true, true, true, true, true, true, true, true, true, true, true, true, true, true, true, true, false] rfl rfl (by kernel_rfl) (fun _ _ _ h => h) (Or.inl ⟨by rfl, ?_⟩) ?_ ?_
                    rotate_left
                    · intro w'
                      go_simp
                      with_reducible rfl
                    rotate_left
                    · simp only [Act.put, List.setIfInBounds_toArray, List.set_cons_zero, List.set_cons_succ, i64_w, i32_w]
                      rfl
                    refine pure_ (i := 24) (N := some 188) (v := ?_) (a' := ?_) #[true, true, true, true, true, true, true, true, true, true, true, true, true, true, true, true, true, true, true, true, true, true, true, true, true] rfl rfl (by kernel_rfl) (fun _ _ _ h => h) (Or.inl ⟨by rfl, ?_⟩) ?_ ?_
                    rotate_left
                    · intro w'
                      go_simp
                      with_reducible rfl
                    rotate_left
                    · simp only [Act.put, List.setIfInBounds_toArray, List.set_cons_zero, List.set_cons_succ, i64_w, i32_w]
                      rfl
                    refine done_ (by kernel_rfl) ?_
                    have kn := hHeld.2.2.2.2.2.2
                    clear hHeld kd
                    replace kn := Aside0.mk kn.out.tail.tail.tail.tail.tail.tail
                    go_wp2
                    go_roundw
                    case rel => exact ⟨v + 1, by omega, by simp, kn⟩
                    case measure => simp [intOf]; omega
                · go_wp2
                  go_roundw
                  case rel => exact ⟨u + 1, by omega, by simp, kn⟩
                  case measure => simp [intOf]; omega
            · go_wp2
              go_roundw
              case rel => exact ⟨k + 1, by omega, by simp, Aside0.mk kn.out.tail.tail⟩
              case measure => simp [intOf]; omega
        · obtain rfl : k = 4 := by omega
          go_wp2
          go_ret
          exact ⟨rfl, kn.out.here.2.2.2.2.2.2.2.2.2.2.2.2.2.2.2⟩
set_option maxHeartbeats 8000000 in
set_option maxRecDepth 100000 in
theorem keeps_no (A : Option Addr) (c : Nat) (B : Option Addr) (d : Nat) (hv : List Int) (hd : List (List Int)) (t ai aK bi bK : Int) (w : World) (h : Aside0 (RD A c B d hv hd w)) (hf : fineS hv hd = false) :
    Calls Try.prog 5 #[.agg #[.slice A hv.length c, .slice B hd.length d], .int .i64 t, .agg #[.int .i64 ai, .int .i64 aK], .agg #[.int .i64 bi, .int .i64 bK]] w fun e w' => e = .returned (.bool true) ∧ Below w.heap.size w w' := by
  go_enter Try.func5, Try.ntmps5
  go_upto_region 1 with (fail)
  have kn := Aside0.mk (Kn.cons h.out.kn (tb_kn (Below.refl w.heap.size w)))
  replace kn := Aside0.mk (Kn.cons (Bx.new (w) (.slice A hv.length c) (.slice B hd.length d) 25).kn (kn.out.step (bal (w) (.cells #[.slice A hv.length c, .slice B hd.length d] 25))))
  replace kn := Aside0.mk (Kn.cons (Bx.new ((w).alloc (.cells #[.slice A hv.length c, .slice B hd.length d] 25)) (.int .i64 ai) (.int .i64 aK) 27).kn (kn.out.step (bal ((w).alloc (.cells #[.slice A hv.length c, .slice B hd.length d] 25)) (.cells #[.int .i64 ai, .int .i64 aK] 27))))
  replace kn := Aside0.mk (Kn.cons (Bx.new (((w).alloc (.cells #[.slice A hv.length c, .slice B hd.length d] 25)).alloc (.cells #[.int .i64 ai, .int .i64 aK] 27)) (.int .i64 bi) (.int .i64 bK) 27).kn (kn.out.step (bal (((w).alloc (.cells #[.slice A hv.length c, .slice B hd.length d] 25)).alloc (.cells #[.int .i64 ai, .int .i64 aK] 27)) (.cells #[.int .i64 bi, .int .i64 bK] 27))))
  simp only [World.size_alloc] at kn
  generalize (((w).alloc (.cells #[.slice A hv.length c, .slice B hd.length d] 25)).alloc (.cells #[.int .i64 ai, .int .i64 aK] 27)).alloc (.cells #[.int .i64 bi, .int .i64 bK] 27) = W0 at kn ⊢
  generalize w.heap.size + 1 + 1 = bq at kn ⊢
  generalize w.heap.size + 1 = bp at kn ⊢
  generalize hz : w.heap.size = bl at kn ⊢
  clear hz
  have yl0 := kn.out.here.2.2.1.k0
  have yl1 := kn.out.here.2.2.1.k1
  go_wp2_with (first | (go_at_call 10; (with_reducible refine (fine_no (kn.out.here.2.2.2.1) hf).mono ?_); rintro e wf ⟨rfl, hb⟩; have kf := Aside0.mk (kn.out.step hb); clear hb kn) | (go_at_call 11; (with_reducible refine (shown_is _).mono ?_); rintro e wg ⟨rfl, hb⟩; have kn := Aside0.mk (kf.out.step hb); clear hb))
  go_ret
  exact ⟨rfl, kn.out.here.2.2.2.2⟩
theorem tot0_eq {n : Nat} {L M : LG} (h : ∀ j, totS M j = totS L j) (j : Int) : tot0 n M j = tot0 n L j := by
  unfold tot0
  rw [h j]
theorem tot0_rs {n m : Nat} {L M : LG} (h : Good n m L) {i q e : Int} (hs : rsS n L i q = (M, e)) (k : Nat) : tot0 n M (k : Int) = if e = 0 ∧ (k : Int) = i then wrap64 (tot0 n L (k : Int) + q) else tot0 n L (k : Int) := by
  unfold rsS at hs
  by_cases h1 : 0 ≤ i ∧ i < n
  · rw [if_pos h1] at hs
    by_cases h2 : 1 ≤ q ∧ q ≤ 1048576
    · rw [if_pos h2] at hs
      simp only [Prod.mk.injEq] at hs
      obtain ⟨rfl, rfl⟩ := hs
      by_cases h3 : (k : Int) = i
      · rw [if_pos ⟨rfl, h3⟩, tot0_in (by omega) (by omega), tot0_in (by omega) (by omega), tot_st h q h1.1 h1.2 _ (by omega), if_pos h3]
      · rw [if_neg (fun h => h3 h.2)]
        by_cases h4 : (k : Int) < n
        · rw [tot0_in (by omega) h4, tot0_in (by omega) h4, tot_st h q h1.1 h1.2 _ (by omega), if_neg h3]
        · rw [tot0_out (by omega), tot0_out (by omega)]
    · rw [if_neg h2] at hs
      simp only [Prod.mk.injEq] at hs
      obtain ⟨rfl, rfl⟩ := hs
      rw [if_neg (fun h => by omega)]
  · rw [if_neg h1] at hs
    simp only [Prod.mk.injEq] at hs
    obtain ⟨rfl, rfl⟩ := hs
    rw [if_neg (fun h => by omega)]
theorem keeps_law (A : Option Addr) (c : Nat) (B : Option Addr) (d : Nat) (hv : List Int) (hd : List (List Int)) (t ai aK bi bK : Int) (w : World) (hr : RD A c B d hv hd w) (ia : ∀ x, x ∈ hv → I64 x) (ib : ∀ r, r ∈ hd → ∀ x, x ∈ r → I64 x) (ha0 : Aside0 (-9223372036854775808 ≤ aK ∧ aK ≤ 9223372036854775807)) (hb0 : Aside0 (-9223372036854775808 ≤ bK ∧ bK ≤ 9223372036854775807)) :
    Calls Try.prog 5 #[.agg #[.slice A hv.length c, .slice B hd.length d], .int .i64 t, .agg #[.int .i64 ai, .int .i64 aK], .agg #[.int .i64 bi, .int .i64 bK]] w fun e w' => e = .returned (.bool true) ∧ Below w.heap.size w w' := by
  cases hf : fineS hv hd with
  | false => exact keeps_no A c B d hv hd t ai aK bi bK w ⟨hr⟩ hf
  | true =>
    have hl := lv_of_kd hr.a hr.ac hr.b hr.bd hf ia ib
    obtain ⟨⟨L1, k1, e1⟩, h1⟩ : ∃ x, resS hv.length hd.length ⟨hv, hd⟩ t ai aK = x := ⟨_, rfl⟩
    obtain ⟨⟨L2, k2, e2⟩, h2⟩ : ∃ x, someS hv.length hd.length ⟨hv, hd⟩ t ai aK = x := ⟨_, rfl⟩
    obtain ⟨⟨L3, k3, e3⟩, h3⟩ : ∃ x, relS hv.length hd.length ⟨hv, hd⟩ t ai aK = x := ⟨_, rfl⟩
    obtain ⟨⟨L4, k4, e4⟩, h4⟩ : ∃ x, bothS hv.length hd.length ⟨hv, hd⟩ t ai aK bi bK = x := ⟨_, rfl⟩
    obtain ⟨⟨L5, e5⟩, h5⟩ : ∃ x, rsS hv.length ⟨hv, hd⟩ ai aK = x := ⟨_, rfl⟩
    have t1 := tot_res hl.g h1
    have t2 := tot_some hl.g h2
    have t3 := tot_rel hl.g h3
    have t4 := tot_both hl.g h4
    exact keeps_ok hv.length hd.length A c B d ⟨hv, hd⟩ t ai aK bi bK _ w ⟨hl⟩ ha0 hb0 L1 L2 L3 L4 L5 k1 e1 k2 e2 k3 e3 k4 e4 e5 ⟨h1⟩ ⟨h2⟩ ⟨h3⟩ ⟨h4⟩ ⟨h5⟩ ⟨tot0_eq t1.2.1⟩ ⟨t1.2.2⟩ ⟨tot0_eq t2.2.1⟩ ⟨t2.2.2⟩ ⟨tot0_eq t3.2.1⟩ ⟨t3.2.2⟩ ⟨tot0_eq t4.2.1⟩ ⟨t4.2.2⟩ ⟨fun i _ => tot0_rs hl.g h5 i⟩
end Go.Proofs.Ytlgoincnopfnjaa.Led
