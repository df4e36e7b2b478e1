/- The laws' own anchor. -/
import Derived.Test.YtlgoincnopfnjaaLedP
namespace Go.Proofs.Ytlgoincnopfnjaa.Led
open Go Go.RowKit Go.Proofs.YtlgoincnopfnjaaW.PrintWords Go.Proofs.YtlgoincnopfnjaaW.PrintMore Go.Proofs.YtlgoincnopfnjaaW.PrintLast
set_option linter.unusedSimpArgs false
set_option linter.unusedVariables false
attribute [local go_sem] max2_int min2_int max_two min_two eqA27
theorem total_v {n m : Nat} {A : Option Addr} {c : Nat} {B : Option Addr} {d : Nat} {L : LG} (i v : Int) {S : Nat → Prop} {w : World} (h : LV S n m A c B d L w) (hv : tot0 n L i = v) :
    Calls Try.prog 26 #[.agg #[.slice A n c, .slice B m d], .int .i64 i] w fun e w' => e = .returned (.int .i64 v) ∧ Below w.heap.size w w' := by
  subst hv
  exact total_is n m A c B d L i S w h
theorem new223 (w : World) : Calls Try.prog 24 #[.int .i64 2, .int .i64 2, .int .i64 3] w fun e w' => ∃ (S' : Nat → Prop) (A' : Option Addr) (c' : Nat) (B' : Option Addr) (d' : Nat), e = .returned (.agg #[.slice A' 2 c', .slice B' 2 d']) ∧ LV S' 2 2 A' c' B' d' ⟨[3, 3], [[0, 0], [0, 0]]⟩ w' ∧ (∀ j, S' j → w.heap.size ≤ j) ∧ Below w.heap.size w w' :=
  new_is 2 2 3 (by unfold I64; omega) w
def L1 : LG := ⟨[0, 3], [[0, 0], [3, 0]]⟩
def L2 : LG := ⟨[0, 0], [[0, 3], [3, 0]]⟩
def L3 : LG := ⟨[4, 0], [[0, 3], [3, 0]]⟩
theorem sh1 : someS 2 2 ⟨[3, 3], [[0, 0], [0, 0]]⟩ 1 0 5 = (L1, 3, 0) := by kernel_rfl
theorem sh2 : resS 2 2 L1 0 0 1 = (L1, 0, 0) := by kernel_rfl
theorem sh3 : relS 2 2 L1 0 0 1 = (L1, 0, 200) := by kernel_rfl
theorem sh4 : Hid (bothS 2 2 L1 0 1 2 1 1 = (L2, 3, 0)) := by change _ = _; kernel_rfl
theorem sh5 : rsS 2 L2 0 4 = (L3, 0) := by kernel_rfl
theorem sh6 : tot0 2 L3 0 = 7 := by kernel_rfl
theorem sh7 : tot0 2 L3 1 = 3 := by kernel_rfl
theorem i64of {x : Int} (h : -9223372036854775808 ≤ x ∧ x ≤ 9223372036854775807) : Aside0 (-9223372036854775808 ≤ x ∧ x ≤ 9223372036854775807) := ⟨h⟩
def Tb (w W : World) : Prop := Below w.heap.size w W
theorem tb_kn {w W : World} (h : Below w.heap.size w W) : Kn (Tb w) W := fun _ hb => below_step h hb
theorem at_0 {S : Nat → Prop} {ad : Addr} {c : Nat} {B : Option Addr} {d : Nat} {w : World} (h : LV S 2 2 (some ad) c B d ⟨[3, 3], [[0, 0], [0, 0]]⟩ w) : w.cell? (ad.add 0) = some (.int .i64 3) := by
  rcases h.a with h0 | ⟨a, e, _, h2⟩
  · omega
  · cases e; exact h2 0 (by decide)
theorem at_00 {S : Nat → Prop} {ad : Addr} {c : Nat} {B : Option Addr} {d : Nat} {w : World} (h : LV S 2 2 (some ad) c B d ⟨[3, 3], [[0, 0], [0, 0]]⟩ w) : w.cell? ad = some (.int .i64 3) := by
  have h0 := at_0 h
  rwa [show ad.add 0 = ad from by cases ad with | mk b o s => cases s <;> rfl] at h0
set_option maxHeartbeats 4000000 in
set_option maxRecDepth 100000 in
theorem shown_is (w : World) : Calls Try.prog 11 #[] w fun e w' => e = .returned (.bool true) ∧ Below w.heap.size w w' := by
  have kn := Aside0.mk (tb_kn (Below.refl w.heap.size w))
  go_enter Try.func11, Try.ntmps11
  go_upto_region 1 with (fail)
  go_upto_region 2 with (first | (go_at_call 24; (with_reducible refine (new223 _).mono ?_); rintro e w1 ⟨S0, A0, c0, B0, d0, rfl, hl, hS, hb⟩; replace hb := Aside0.mk hb; replace hl := Aside0.mk hl))
  replace kn := Aside0.mk (Kn.cons (Bx.new w1 (.slice A0 2 c0) (.slice B0 2 d0) 25).kn (Kn.cons (hl.out.below (bal w1 (.cells #[.slice A0 2 c0, .slice B0 2 d0] 25))).kn (kn.out.step (hb.out.alloc hb.out.size (.cells #[.slice A0 2 c0, .slice B0 2 d0] 25)))))
  clear hb hl
  generalize w1.alloc (.cells #[.slice A0 2 c0, .slice B0 2 d0] 25) = W1 at kn ⊢
  generalize w1.heap.size = bl at kn ⊢
  have yl0 := kn.out.here.1.k0
  have yl1 := kn.out.here.1.k1
  go_upto_region 3 with (first | (go_at_call 15; (with_reducible refine (some_is 2 2 A0 c0 B0 d0 ⟨[3, 3], [[0, 0], [0, 0]]⟩ 1 0 5 S0 _ ⟨kn.out.here.2.1⟩ (i64of (by decide)) L1 3 0 sh1).mono ?_); rintro e w2 ⟨S1, A1, c1, B1, d1, rfl, hl, hS, hb⟩; replace hb := Aside0.mk hb; replace hl := Aside0.mk hl))
  clear yl0 yl1
  replace kn := Aside0.mk (Kn.cons (Bx.new w2 (.slice A1 2 c1) (.slice B1 2 d1) 25).kn (Kn.cons (hl.out.below (bal w2 (.cells #[.slice A1 2 c1, .slice B1 2 d1] 25))).kn (kn.out.step (hb.out.alloc hb.out.size (.cells #[.slice A1 2 c1, .slice B1 2 d1] 25)))))
  clear hb hl
  generalize w2.alloc (.cells #[.slice A1 2 c1, .slice B1 2 d1] 25) = W2 at kn ⊢
  generalize w2.heap.size = ba at kn ⊢
  have ya0 := kn.out.here.1.k0
  have ya1 := kn.out.here.1.k1
  go_upto_region 4 with (first | (go_at_call 13; (with_reducible refine (reserve_is 2 2 A1 c1 B1 d1 L1 0 0 1 S1 _ ⟨kn.out.here.2.1⟩ (i64of (by decide)) L1 0 0 sh2).mono ?_); rintro e w3 ⟨S2, A2, c2, B2, d2, rfl, hl, hS, hb⟩; replace hb := Aside0.mk hb; replace hl := Aside0.mk hl))
  clear ya0 ya1
  replace kn := Aside0.mk (Kn.cons (Bx.new w3 (.slice A2 2 c2) (.slice B2 2 d2) 25).kn (Kn.cons (hl.out.below (bal w3 (.cells #[.slice A2 2 c2, .slice B2 2 d2] 25))).kn (kn.out.step (hb.out.alloc hb.out.size (.cells #[.slice A2 2 c2, .slice B2 2 d2] 25)))))
  clear hb hl
  generalize w3.alloc (.cells #[.slice A2 2 c2, .slice B2 2 d2] 25) = W3 at kn ⊢
  generalize w3.heap.size = bb at kn ⊢
  have yb0 := kn.out.here.1.k0
  have yb1 := kn.out.here.1.k1
  go_upto_region 5 with (first | (go_at_call 17; (with_reducible refine (release_is 2 2 A2 c2 B2 d2 L1 0 0 1 S2 _ ⟨kn.out.here.2.1⟩ (i64of (by decide)) L1 0 200 sh3).mono ?_); rintro e w4 ⟨S3, A3, c3, B3, d3, rfl, hl, hS, hb⟩; replace hb := Aside0.mk hb; replace hl := Aside0.mk hl))
  clear yb0 yb1
  replace kn := Aside0.mk (Kn.cons (Bx.new w4 (.slice A3 2 c3) (.slice B3 2 d3) 25).kn (Kn.cons (hl.out.below (bal w4 (.cells #[.slice A3 2 c3, .slice B3 2 d3] 25))).kn (kn.out.step (hb.out.alloc hb.out.size (.cells #[.slice A3 2 c3, .slice B3 2 d3] 25)))))
  clear hb hl
  generalize w4.alloc (.cells #[.slice A3 2 c3, .slice B3 2 d3] 25) = W4 at kn ⊢
  generalize w4.heap.size = bz at kn ⊢
  have yb0 := kn.out.here.2.2.1.k0
  have yb1 := kn.out.here.2.2.1.k1
  go_upto_region 6 with (first | (go_at_call 22; (with_reducible refine (both_is 2 2 A2 c2 B2 d2 L1 0 1 2 1 1 S2 _ ⟨kn.out.here.2.2.2.1⟩ (i64of (by decide)) (i64of (by decide)) L2 3 0 sh4).mono ?_); rintro e w5 ⟨S4, A4, c4, B4, d4, rfl, hl, hS, hb⟩; replace hb := Aside0.mk hb; replace hl := Aside0.mk hl))
  clear yb0 yb1
  replace kn := Aside0.mk (Kn.cons (Bx.new w5 (.slice A4 2 c4) (.slice B4 2 d4) 25).kn (Kn.cons (hl.out.below (bal w5 (.cells #[.slice A4 2 c4, .slice B4 2 d4] 25))).kn (kn.out.step (hb.out.alloc hb.out.size (.cells #[.slice A4 2 c4, .slice B4 2 d4] 25)))))
  clear hb hl
  generalize w5.alloc (.cells #[.slice A4 2 c4, .slice B4 2 d4] 25) = W5 at kn ⊢
  generalize w5.heap.size = bc at kn ⊢
  have yc0 := kn.out.here.1.k0
  have yc1 := kn.out.here.1.k1
  go_upto_region 7 with (first | (go_at_call 20; (with_reducible refine (restock_is 2 2 A4 c4 B4 d4 L2 0 4 S4 _ ⟨kn.out.here.2.1⟩ (i64of (by decide)) L3 0 sh5).mono ?_); rintro e w6 ⟨S5, A5, c5, B5, d5, rfl, hl, hS, hb⟩; replace hb := Aside0.mk hb; replace hl := Aside0.mk hl))
  clear yc0 yc1
  replace kn := Aside0.mk (Kn.cons (Bx.new w6 (.slice A5 2 c5) (.slice B5 2 d5) 25).kn (Kn.cons (hl.out.below (bal w6 (.cells #[.slice A5 2 c5, .slice B5 2 d5] 25))).kn (kn.out.step (hb.out.alloc hb.out.size (.cells #[.slice A5 2 c5, .slice B5 2 d5] 25)))))
  clear hb hl
  generalize w6.alloc (.cells #[.slice A5 2 c5, .slice B5 2 d5] 25) = W6 at kn ⊢
  generalize w6.heap.size = bd at kn ⊢
  obtain ⟨ad, rfl, hlt, hc⟩ := (kn.out.here.2.2.2.2.2.2.2.2.2.2.2.1).at_ (i := 0) (by decide) (by decide)
  clear hlt hc
  have y0 := kn.out.here.1.k0
  have y1 := kn.out.here.1.k1
  go_wp2_with (first | (go_at_call 26; (with_reducible refine (total_v 0 7 (kn.out.here.2.1) sh6).mono ?_); rintro e w7 ⟨rfl, hb⟩; have kn7 := Aside0.mk (kn.out.step hb); clear hb; have z0 := kn7.out.here.1.k0; have z1 := kn7.out.here.1.k1) | (go_at_call 26; (with_reducible refine (total_v 1 3 (kn7.out.here.2.1) sh7).mono ?_); rintro e w8 ⟨rfl, hb⟩; have kn8 := Aside0.mk (kn7.out.step hb); clear hb; have q0 := kn8.out.here.2.2.2.2.2.2.2.2.2.2.1.k0; have q1 := kn8.out.here.2.2.2.2.2.2.2.2.2.2.1.k1; have hc8 := at_0 (kn8.out.here.2.2.2.2.2.2.2.2.2.2.2.1); have hc9 := at_00 (kn8.out.here.2.2.2.2.2.2.2.2.2.2.2.1)))
  go_ret
  exact ⟨rfl, kn8.out.here.2.2.2.2.2.2.2.2.2.2.2.2⟩
end Go.Proofs.Ytlgoincnopfnjaa.Led
