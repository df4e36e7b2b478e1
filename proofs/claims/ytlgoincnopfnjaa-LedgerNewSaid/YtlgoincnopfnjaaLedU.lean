/- Any new ledger, and the total of any item, are the document's. -/
import Derived.Test.YtlgoincnopfnjaaLedR
import Derived.Test.YtlgoincnopfnjaaLedO2
namespace Go.Proofs.Ytlgoincnopfnjaa.Led
open Go Go.RowKit Go.Proofs.YtlgoincnopfnjaaW.PrintWords Go.Proofs.YtlgoincnopfnjaaW.PrintMore Go.Proofs.YtlgoincnopfnjaaW.PrintLast
set_option linter.unusedSimpArgs false
set_option linter.unusedVariables false
attribute [local go_sem] max2_int min2_int max_two min_two eqA27
/-- What a maker of ledgers tells. -/
def Mk (F n1 m1 : Nat) (x y z : Int) (L : LG) : Prop := ∀ w : World, Calls Try.prog F #[.int .i64 x, .int .i64 y, .int .i64 z] w fun e w' => ∃ (S' : Nat → Prop) (A' : Option Addr) (c' : Nat) (B' : Option Addr) (d' : Nat), e = .returned (.agg #[.slice A' n1 c', .slice B' m1 d']) ∧ LV S' n1 m1 A' c' B' d' L w' ∧ (∀ j, S' j → w.heap.size ≤ j) ∧ Below w.heap.size w w'
theorem Mk.at {F n1 m1 : Nat} {x y z : Int} {L : LG} (h : Mk F n1 m1 x y z L) (w : World) : Calls Try.prog F #[.int .i64 x, .int .i64 y, .int .i64 z] w fun e w' => ∃ (S' : Nat → Prop) (A' : Option Addr) (c' : Nat) (B' : Option Addr) (d' : Nat), e = .returned (.agg #[.slice A' n1 c', .slice B' m1 d']) ∧ LV S' n1 m1 A' c' B' d' L w' ∧ (∀ j, S' j → w.heap.size ≤ j) ∧ Below w.heap.size w w' := h w
set_option maxHeartbeats 8000000 in
set_option maxRecDepth 100000 in
theorem new_law_ok (n m : Nat) (A : Option Addr) (c : Nat) (B : Option Addr) (d : Nat) (L : LG) (ix iy iz it tv : Int) (S : Nat → Prop) (w : World) (h : Aside0 (LV S n m A c B d L w)) (n1 m1 : Nat) (L1 : LG) (hN : Aside0 (Mk 24 n1 m1 ix iy iz L1)) (hR : Aside0 (Mk 25 n1 m1 ix iy iz L1)) (hT : Aside0 (tot0 n L it = tv)) (h16 : decide ((m1 : Int) ≤ 16) = true) :
    Calls Try.prog 4 #[.int .i64 ix, .int .i64 iy, .int .i64 iz, .int .i64 it, .agg #[.slice A n c, .slice B m d]] w fun e w' => e = .returned (.bool true) ∧ Below w.heap.size w w' := by
  go_enter Try.func4, Try.ntmps4
  go_upto_region 1 with (fail)
  have kn := Aside0.mk (Kn.cons h.out.kn (tb_kn (Below.refl w.heap.size w)))
  replace kn := Aside0.mk (Kn.cons (Bx.new (w) (.slice A n c) (.slice B m d) 25).kn (kn.out.step (bal (w) (.cells #[.slice A n c, .slice B m d] 25))))
  generalize (w).alloc (.cells #[.slice A n c, .slice B m d] 25) = W0 at kn ⊢
  generalize hz : w.heap.size = bl at kn ⊢
  clear hz
  have yl0 := kn.out.here.1.k0
  have yl1 := kn.out.here.1.k1
  go_upto_region 3 with (first | (go_at_call 10; (with_reducible refine (fine_lv (kn.out.here.2.1)).mono ?_); rintro e wf ⟨rfl, hb⟩; have kf := Aside0.mk (kn.out.step hb); clear hb kn) | (go_at_call 11; (with_reducible refine (shown_is _).mono ?_); rintro e wg ⟨rfl, hb⟩; have kn := Aside0.mk (kf.out.step hb); clear hb kf))
  clear yl0 yl1
  go_upto_region 4 with (first | (go_at_call 24; (with_reducible refine (hN.out.at _).mono ?_); rintro e w1 ⟨S1, A1, c1, B1, d1, rfl, hl, hS, hb⟩; replace hb := Aside0.mk hb; replace hl := Aside0.mk hl))
  replace kn := Aside0.mk (Kn.cons (Bx.new w1 (.slice A1 n1 c1) (.slice B1 m1 d1) 25).kn (Kn.cons (hl.out.below (bal w1 (.cells #[.slice A1 n1 c1, .slice B1 m1 d1] 25))).kn (kn.out.step (hb.out.alloc hb.out.size (.cells #[.slice A1 n1 c1, .slice B1 m1 d1] 25)))))
  clear hb hl
  generalize w1.alloc (.cells #[.slice A1 n1 c1, .slice B1 m1 d1] 25) = W1 at kn ⊢
  generalize w1.heap.size = b1 at kn ⊢
  have kd := Aside0.mk (kn.out.step (below_drew1 (Below.refl W1.heap.size W1)))
  clear kn
  refine start_ (n := 24) (S := fun w' => w'.cell? ⟨b1, 0, none⟩ = some (.slice A1 n1 c1) ∧ w'.cell? ⟨b1, 1, none⟩ = some (.slice B1 m1 d1) ∧ w'.cell? ⟨bl, 0, none⟩ = some (.slice A n c) ∧ w'.cell? ⟨bl, 1, none⟩ = some (.slice B m d) ∧ Aside0 (Kn (fun W => Bx b1 (.slice A1 n1 c1) (.slice B1 m1 d1) W ∧ LV S1 n1 m1 A1 c1 B1 d1 L1 W ∧ Bx bl (.slice A n c) (.slice B m d) W ∧ LV S n m A c B d L W ∧ Tb w W) w')) (ds := []) #[false, false, false, false, false, false, false, false, false, false, false, false, false, false, false, false, false, false, false, false, false, false, false, false] (by kernel_rfl) rfl rfl ⟨kd.out.here.1.k0, kd.out.here.1.k1, kd.out.here.2.2.1.k0, kd.out.here.2.2.1.k1, kd⟩ (fun hHeld => ?_)
  generalize W1.drew = V1 at kd hHeld ⊢
  refine pure_ (i := 0) (N := some 24) (v := ?_) (a' := ?_) #[true, false, false, false, false, false, false, false, false, false, false, false, false, false, false, false, false, false, false, false, false, false, false, false] rfl rfl (by kernel_rfl) (fun _ _ _ h => h) (Or.inl ⟨by rfl, ?_⟩) ?_ ?_
  rotate_left
  · intro w'
    go_simp
    with_reducible rfl
  rotate_left
  · simp only [Act.put, List.setIfInBounds_toArray, List.set_cons_zero, List.set_cons_succ, i64_w, i32_w]
    rfl
  refine take_ (i := 1) (N := some 25) (v := ?_) (a' := ?_) #[true, true, false, false, false, false, false, false, false, false, false, false, false, false, false, false, false, false, false, false, false, false, false, false] rfl rfl (by kernel_rfl) (fun _ _ _ h => h) (Or.inl ⟨by rfl, ?_⟩) hHeld ?_ ?_
  rotate_left
  · rintro w' ⟨s0, s1, s2, s3, s4⟩
    go_simp
    with_reducible rfl
  rotate_left
  · simp only [Act.put, List.setIfInBounds_toArray, List.set_cons_zero, List.set_cons_succ, i64_w, i32_w]
    rfl
  refine pure_ (i := 2) (N := some 26) (v := ?_) (a' := ?_) #[true, true, true, false, false, false, false, false, false, false, false, false, false, false, false, false, false, false, false, false, false, false, false, false] rfl rfl (by kernel_rfl) (fun _ _ _ h => h) (Or.inl ⟨by rfl, ?_⟩) ?_ ?_
  rotate_left
  · intro w'
    go_simp
    with_reducible rfl
  rotate_left
  · simp only [Act.put, List.setIfInBounds_toArray, List.set_cons_zero, List.set_cons_succ, i64_w, i32_w]
    rfl
  refine pure_ (i := 3) (N := some 27) (v := ?_) (a' := ?_) #[true, true, true, true, false, false, false, false, false, false, false, false, false, false, false, false, false, false, false, false, false, false, false, false] rfl rfl (by kernel_rfl) (fun _ _ _ h => h) (Or.inl ⟨by rfl, ?_⟩) ?_ ?_
  rotate_left
  · intro w'
    go_simp
    with_reducible rfl
  rotate_left
  · simp only [Act.put, List.setIfInBounds_toArray, List.set_cons_zero, List.set_cons_succ, i64_w, i32_w]
    rfl
  refine pure_ (i := 4) (N := some 28) (v := ?_) (a' := ?_) #[true, true, true, true, true, false, false, false, false, false, false, false, false, false, false, false, false, false, false, false, false, false, false, false] rfl rfl (by kernel_rfl) (fun _ _ _ h => h) (Or.inl ⟨by rfl, ?_⟩) ?_ ?_
  rotate_left
  · intro w'
    go_simp
    with_reducible rfl
  rotate_left
  · simp only [Act.put, List.setIfInBounds_toArray, List.set_cons_zero, List.set_cons_succ, i64_w, i32_w]
    rfl
  refine pure_ (i := 7) (N := some 31) (v := ?_) (a' := ?_) #[true, true, true, true, true, false, false, true, false, false, false, false, false, false, false, false, false, false, false, false, false, false, false, false] rfl rfl (by kernel_rfl) (fun _ _ _ h => h) (Or.inl ⟨by rfl, ?_⟩) ?_ ?_
  rotate_left
  · intro w'
    go_simp
    with_reducible rfl
  rotate_left
  · simp only [Act.put, List.setIfInBounds_toArray, List.set_cons_zero, List.set_cons_succ, i64_w, i32_w]
    rfl
  refine pure_ (i := 8) (N := some 32) (v := ?_) (a' := ?_) #[true, true, true, true, true, false, false, true, true, false, false, false, false, false, false, false, false, false, false, false, false, false, false, false] rfl rfl (by kernel_rfl) (fun _ _ _ h => h) (Or.inl ⟨by rfl, ?_⟩) ?_ ?_
  rotate_left
  · intro w'
    go_simp
    with_reducible rfl
  rotate_left
  · simp only [Act.put, List.setIfInBounds_toArray, List.set_cons_zero, List.set_cons_succ, i64_w, i32_w]
    rfl
  refine pure_ (i := 9) (N := some 33) (v := ?_) (a' := ?_) #[true, true, true, true, true, false, false, true, true, true, false, false, false, false, false, false, false, false, false, false, false, false, false, false] rfl rfl (by kernel_rfl) (fun _ _ _ h => h) (Or.inl ⟨by rfl, ?_⟩) ?_ ?_
  rotate_left
  · intro w'
    go_simp
    with_reducible rfl
  rotate_left
  · simp only [Act.put, List.setIfInBounds_toArray, List.set_cons_zero, List.set_cons_succ, i64_w, i32_w]
    rfl
  refine take_ (i := 5) (N := some 29) (v := ?_) (a' := ?_) #[true, true, true, true, true, true, false, true, true, true, false, false, false, false, false, false, false, false, false, false, false, false, false, false] rfl rfl (by kernel_rfl) (fun _ _ _ h => h) (Or.inl ⟨by rfl, ?_⟩) hHeld ?_ ?_
  rotate_left
  · rintro w' ⟨s0, s1, s2, s3, s4⟩
    go_simp
    with_reducible rfl
  rotate_left
  · simp only [Act.put, List.setIfInBounds_toArray, List.set_cons_zero, List.set_cons_succ, i64_w, i32_w]
    rfl
  refine one_ (i := 6) (N := some 30) #[true, true, true, true, true, true, true, true, true, true, false, false, false, false, false, false, false, false, false, false, false, false, false, false] rfl rfl (by kernel_rfl) (by decide) (fun K hK => ?_)
  refine goes_ Try.func12 (by kernel_rfl) rfl #[.agg #[.slice A1 n1 c1, .slice B1 m1 d1]] (by rfl) rfl rfl (by simp only [List.map_toArray, List.map_cons, List.map_nil]; rfl) ?_
  with_reducible refine (its_is A1 n1 c1 B1 m1 d1 _).mono ?_
  rintro e x6 ⟨rfl, hb⟩
  refine ⟨_, rfl, ?_⟩
  have kz := Aside0.mk (hHeld.2.2.2.2.out.step hb)
  clear hHeld hb
  refine hK.out _ _ ⟨kz.out.here.1.k0, kz.out.here.1.k1, kz.out.here.2.2.1.k0, kz.out.here.2.2.1.k1, kz⟩ (fun hHeld => ?_)
  clear hK K
  refine norm_ (a' := ?_) ?_ ?_
  rotate_left
  · show Act.put _ (some 30) _ = _
    simp only [Act.put, List.setIfInBounds_toArray, List.set_cons_zero, List.set_cons_succ, i64_w, i32_w]
    rfl
  refine one_ (i := 10) (N := some 34) #[true, true, true, true, true, true, true, true, true, true, true, false, false, false, false, false, false, false, false, false, false, false, false, false] rfl rfl (by kernel_rfl) (by decide) (fun K hK => ?_)
  refine goes_ Try.func25 (by kernel_rfl) rfl #[.int .i64 ix, .int .i64 iy, .int .i64 iz] (by rfl) rfl rfl (by simp only [List.map_toArray, List.map_cons, List.map_nil]; rfl) ?_
  with_reducible refine (hR.out.at _).mono ?_
  rintro e x10 ⟨S2, A2, c2, B2, d2, rfl, hl2, hS2, hb⟩
  refine ⟨_, rfl, ?_⟩
  have kz := Aside0.mk (hHeld.2.2.2.2.out.step hb)
  clear hHeld hb
  refine hK.out _ _ ⟨kz.out.here.1.k0, kz.out.here.1.k1, kz.out.here.2.2.1.k0, kz.out.here.2.2.1.k1, kz⟩ (fun hHeld => ?_)
  clear hK K
  refine norm_ (a' := ?_) ?_ ?_
  rotate_left
  · show Act.put _ (some 34) _ = _
    simp only [Act.put, List.setIfInBounds_toArray, List.set_cons_zero, List.set_cons_succ, i64_w, i32_w]
    rfl
  refine one_ (i := 11) (N := some 35) #[true, true, true, true, true, true, true, true, true, true, true, true, false, false, false, false, false, false, false, false, false, false, false, false] rfl rfl (by kernel_rfl) (by decide) (fun K hK => ?_)
  refine goes_ Try.func19 (by kernel_rfl) rfl #[.agg #[.slice A1 n1 c1, .slice B1 m1 d1], .agg #[.slice A2 n1 c2, .slice B2 m1 d2]] (by rfl) rfl rfl (by simp only [List.map_toArray, List.map_cons, List.map_nil]; rfl) ?_
  with_reducible refine (same_is n1 m1 A1 c1 B1 d1 A2 c2 B2 d2 L1 S1 S2 _ (hHeld.2.2.2.2).out.here.2.1 hl2).mono ?_
  rintro e x11 ⟨rfl, hb⟩
  refine ⟨_, rfl, ?_⟩
  have kz := Aside0.mk (hHeld.2.2.2.2.out.step hb)
  clear hHeld hb
  refine hK.out _ _ ⟨kz.out.here.1.k0, kz.out.here.1.k1, kz.out.here.2.2.1.k0, kz.out.here.2.2.1.k1, kz⟩ (fun hHeld => ?_)
  clear hK K
  refine norm_ (a' := ?_) ?_ ?_
  rotate_left
  · show Act.put _ (some 35) _ = _
    simp only [Act.put, List.setIfInBounds_toArray, List.set_cons_zero, List.set_cons_succ, i64_w, i32_w]
    rfl
  refine pure_ (i := 12) (N := some 36) (v := ?_) (a' := ?_) #[true, true, true, true, true, true, true, true, true, true, true, true, true, false, false, false, false, false, false, false, false, false, false, false] rfl rfl (by kernel_rfl) (fun _ _ _ h => h) (Or.inl ⟨by rfl, ?_⟩) ?_ ?_
  rotate_left
  · intro w'
    go_simp
    with_reducible rfl
  rotate_left
  · simp only [Act.put, List.setIfInBounds_toArray, List.set_cons_zero, List.set_cons_succ, i64_w, i32_w]
    rfl
  refine pure_ (i := 13) (N := some 37) (v := ?_) (a' := ?_) #[true, true, true, true, true, true, true, true, true, true, true, true, true, true, false, false, false, false, false, false, false, false, false, false] rfl rfl (by kernel_rfl) (fun _ _ _ h => h) (Or.inl ⟨by rfl, ?_⟩) ?_ ?_
  rotate_left
  · intro w'
    go_simp
    with_reducible rfl
  rotate_left
  · simp only [Act.put, List.setIfInBounds_toArray, List.set_cons_zero, List.set_cons_succ, i64_w, i32_w]
    rfl
  refine pure_ (i := 15) (N := some 39) (v := ?_) (a' := ?_) #[true, true, true, true, true, true, true, true, true, true, true, true, true, true, false, true, false, false, false, false, false, false, false, false] rfl rfl (by kernel_rfl) (fun _ _ _ h => h) (Or.inl ⟨by rfl, ?_⟩) ?_ ?_
  rotate_left
  · intro w'
    go_simp
    with_reducible rfl
  rotate_left
  · simp only [Act.put, List.setIfInBounds_toArray, List.set_cons_zero, List.set_cons_succ, i64_w, i32_w]
    rfl
  refine pure_ (i := 19) (N := some 43) (v := ?_) (a' := ?_) #[true, true, true, true, true, true, true, true, true, true, true, true, true, true, false, true, false, false, false, true, false, false, false, false] rfl rfl (by kernel_rfl) (fun _ _ _ h => h) (Or.inl ⟨by rfl, ?_⟩) ?_ ?_
  rotate_left
  · intro w'
    go_simp
    with_reducible rfl
  rotate_left
  · simp only [Act.put, List.setIfInBounds_toArray, List.set_cons_zero, List.set_cons_succ, i64_w, i32_w]
    rfl
  refine take_ (i := 14) (N := some 38) (v := ?_) (a' := ?_) #[true, true, true, true, true, true, true, true, true, true, true, true, true, true, true, true, false, false, false, true, false, false, false, false] rfl rfl (by kernel_rfl) (fun _ _ _ h => h) (Or.inl ⟨by rfl, ?_⟩) hHeld ?_ ?_
  rotate_left
  · rintro w' ⟨s0, s1, s2, s3, s4⟩
    go_simp
    with_reducible rfl
  rotate_left
  · simp only [Act.put, List.setIfInBounds_toArray, List.set_cons_zero, List.set_cons_succ, i64_w, i32_w]
    rfl
  refine take_ (i := 17) (N := some 41) (v := ?_) (a' := ?_) #[true, true, true, true, true, true, true, true, true, true, true, true, true, true, true, true, false, true, false, true, false, false, false, false] rfl rfl (by kernel_rfl) (fun _ _ _ h => h) (Or.inl ⟨by rfl, ?_⟩) hHeld ?_ ?_
  rotate_left
  · rintro w' ⟨s0, s1, s2, s3, s4⟩
    go_simp
    with_reducible rfl
  rotate_left
  · simp only [Act.put, List.setIfInBounds_toArray, List.set_cons_zero, List.set_cons_succ, i64_w, i32_w]
    rfl
  refine one_ (i := 16) (N := some 40) #[true, true, true, true, true, true, true, true, true, true, true, true, true, true, true, true, true, true, false, true, false, false, false, false] rfl rfl (by kernel_rfl) (by decide) (fun K hK => ?_)
  refine goes_ Try.func26 (by kernel_rfl) rfl #[.agg #[.slice A n c, .slice B m d], .int .i64 it] (by rfl) rfl rfl (by simp only [List.map_toArray, List.map_cons, List.map_nil]; rfl) ?_
  with_reducible refine (total_v it tv (hHeld.2.2.2.2).out.here.2.2.2.1 hT.out).mono ?_
  rintro e x16 ⟨rfl, hb⟩
  refine ⟨_, rfl, ?_⟩
  have kz := Aside0.mk (hHeld.2.2.2.2.out.step hb)
  clear hHeld hb
  refine hK.out _ _ ⟨kz.out.here.1.k0, kz.out.here.1.k1, kz.out.here.2.2.1.k0, kz.out.here.2.2.1.k1, kz⟩ (fun hHeld => ?_)
  clear hK K
  refine norm_ (a' := ?_) ?_ ?_
  rotate_left
  · show Act.put _ (some 40) _ = _
    simp only [Act.put, List.setIfInBounds_toArray, List.set_cons_zero, List.set_cons_succ, i64_w, i32_w]
    rfl
  refine one_ (i := 18) (N := some 42) #[true, true, true, true, true, true, true, true, true, true, true, true, true, true, true, true, true, true, true, true, false, false, false, false] rfl rfl (by kernel_rfl) (by decide) (fun K hK => ?_)
  refine goes_ Try.func12 (by kernel_rfl) rfl #[.agg #[.slice A n c, .slice B m d]] (by rfl) rfl rfl (by simp only [List.map_toArray, List.map_cons, List.map_nil]; rfl) ?_
  with_reducible refine (its_is A n c B m d _).mono ?_
  rintro e x18 ⟨rfl, hb⟩
  refine ⟨_, rfl, ?_⟩
  have kz := Aside0.mk (hHeld.2.2.2.2.out.step hb)
  clear hHeld hb
  refine hK.out _ _ ⟨kz.out.here.1.k0, kz.out.here.1.k1, kz.out.here.2.2.1.k0, kz.out.here.2.2.1.k1, kz⟩ (fun hHeld => ?_)
  clear hK K
  refine norm_ (a' := ?_) ?_ ?_
  rotate_left
  · show Act.put _ (some 42) _ = _
    simp only [Act.put, List.setIfInBounds_toArray, List.set_cons_zero, List.set_cons_succ, i64_w, i32_w]
    rfl
  refine one_ (i := 20) (N := some 44) #[true, true, true, true, true, true, true, true, true, true, true, true, true, true, true, true, true, true, true, true, true, false, false, false] rfl rfl (by kernel_rfl) (by decide) (fun K hK => ?_)
  refine goes_ Try.func27 (by kernel_rfl) rfl #[.agg #[.slice A n c, .slice B m d], .int .i64 it] (by rfl) rfl rfl (by simp only [List.map_toArray, List.map_cons, List.map_nil]; rfl) ?_
  with_reducible refine (rtotal_v it tv (hHeld.2.2.2.2).out.here.2.2.2.1 hT.out).mono ?_
  rintro e x20 ⟨rfl, hb⟩
  refine ⟨_, rfl, ?_⟩
  have kz := Aside0.mk (hHeld.2.2.2.2.out.step hb)
  clear hHeld hb
  refine hK.out _ _ ⟨kz.out.here.1.k0, kz.out.here.1.k1, kz.out.here.2.2.1.k0, kz.out.here.2.2.1.k1, kz⟩ (fun hHeld => ?_)
  clear hK K
  refine norm_ (a' := ?_) ?_ ?_
  rotate_left
  · show Act.put _ (some 44) _ = _
    simp only [Act.put, List.setIfInBounds_toArray, List.set_cons_zero, List.set_cons_succ, i64_w, i32_w]
    rfl
  refine pure_ (i := 21) (N := some 45) (v := ?_) (a' := ?_) #[true, true, true, true, true, true, true, true, true, true, true, true, true, true, true, true, true, true, true, true, true, true, false, false] rfl rfl (by kernel_rfl) (fun _ _ _ h => h) (Or.inl ⟨by rfl, ?_⟩) ?_ ?_
  rotate_left
  · intro w'
    go_simp
    with_reducible rfl
  rotate_left
  · simp only [Act.put, List.setIfInBounds_toArray, List.set_cons_zero, List.set_cons_succ, i64_w, i32_w]
    rfl
  refine pure_ (i := 22) (N := some 46) (v := ?_) (a' := ?_) #[true, true, true, true, true, true, true, true, true, true, true, true, true, true, true, true, true, true, true, true, true, true, true, false] rfl rfl (by kernel_rfl) (fun _ _ _ h => h) (Or.inl ⟨by rfl, ?_⟩) ?_ ?_
  rotate_left
  · intro w'
    go_simp
    with_reducible rfl
  rotate_left
  · simp only [Act.put, List.setIfInBounds_toArray, List.set_cons_zero, List.set_cons_succ, i64_w, i32_w]
    rfl
  refine pure_ (i := 23) (N := some 10) (v := ?_) (a' := ?_) #[true, true, true, true, true, true, true, true, true, true, true, true, true, true, true, true, true, true, true, true, true, true, true, true] rfl rfl (by kernel_rfl) (fun _ _ _ h => h) (Or.inl ⟨by rfl, ?_⟩) ?_ ?_
  rotate_left
  · intro w'
    go_simp
    with_reducible rfl
  rotate_left
  · simp only [Act.put, List.setIfInBounds_toArray, List.set_cons_zero, List.set_cons_succ, i64_w, i32_w]
    rfl
  refine done_ (by kernel_rfl) ?_
  have kn := hHeld.2.2.2.2
  clear hHeld kd kz
  go_wp2
  go_ret
  exact ⟨rfl, kn.out.here.2.2.2.2⟩
set_option maxHeartbeats 8000000 in
set_option maxRecDepth 100000 in
theorem new_law_no (A : Option Addr) (c : Nat) (B : Option Addr) (d : Nat) (hv : List Int) (hd : List (List Int)) (ix iy iz it : Int) (w : World) (h : Aside0 (RD A c B d hv hd w)) (hf : fineS hv hd = false) :
    Calls Try.prog 4 #[.int .i64 ix, .int .i64 iy, .int .i64 iz, .int .i64 it, .agg #[.slice A hv.length c, .slice B hd.length d]] w fun e w' => e = .returned (.bool true) ∧ Below w.heap.size w w' := by
  go_enter Try.func4, Try.ntmps4
  go_upto_region 1 with (fail)
  have kn := Aside0.mk (Kn.cons h.out.kn (tb_kn (Below.refl w.heap.size w)))
  replace kn := Aside0.mk (Kn.cons (Bx.new (w) (.slice A hv.length c) (.slice B hd.length d) 25).kn (kn.out.step (bal (w) (.cells #[.slice A hv.length c, .slice B hd.length d] 25))))
  generalize (w).alloc (.cells #[.slice A hv.length c, .slice B hd.length d] 25) = W0 at kn ⊢
  generalize hz : w.heap.size = bl at kn ⊢
  clear hz
  have yl0 := kn.out.here.1.k0
  have yl1 := kn.out.here.1.k1
  go_wp2_with (first | (go_at_call 10; (with_reducible refine (fine_no (kn.out.here.2.1) hf).mono ?_); rintro e wf ⟨rfl, hb⟩; have kf := Aside0.mk (kn.out.step hb); clear hb kn) | (go_at_call 11; (with_reducible refine (shown_is _).mono ?_); rintro e wg ⟨rfl, hb⟩; have kn := Aside0.mk (kf.out.step hb); clear hb))
  go_ret
  exact ⟨rfl, kn.out.here.2.2⟩
theorem new_law (ix iy iz it : Int) (A : Option Addr) (c : Nat) (B : Option Addr) (d : Nat) (hv : List Int) (hd : List (List Int)) (w : World) (hr : RD A c B d hv hd w) (ia : ∀ x, x ∈ hv → I64 x) (ib : ∀ r, r ∈ hd → ∀ x, x ∈ r → I64 x) (hz : Aside0 (-9223372036854775808 ≤ iz ∧ iz ≤ 9223372036854775807)) :
    Calls Try.prog 4 #[.int .i64 ix, .int .i64 iy, .int .i64 iz, .int .i64 it, .agg #[.slice A hv.length c, .slice B hd.length d]] w fun e w' => e = .returned (.bool true) ∧ Below w.heap.size w w' := by
  cases hf : fineS hv hd with
  | false => exact new_law_no A c B d hv hd ix iy iz it w ⟨hr⟩ hf
  | true =>
    have hl := lv_of_kd hr.a hr.ac hr.b hr.bd hf ia ib
    exact new_law_ok hv.length hd.length A c B d ⟨hv, hd⟩ ix iy iz it _ _ w ⟨hl⟩ (nN ix iy) (nM ix iy) (newL (nN ix iy) (nM ix iy) iz) ⟨fun w => new_is ix iy iz hz.out w⟩ ⟨fun w => rnew_is ix iy iz hz.out w⟩ ⟨rfl⟩ (by rw [decide_eq_true_iff]; unfold nM; split <;> omega)
end Go.Proofs.Ytlgoincnopfnjaa.Led
