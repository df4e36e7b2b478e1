/- The ref's Restock. -/
import Derived.Test.YtlgoincnopfnjaaLedI
namespace Go.Proofs.Ytlgoincnopfnjaa.Led
open Go Go.RowKit Go.Proofs.YtlgoincnopfnjaaW.PrintWords Go.Proofs.YtlgoincnopfnjaaW.PrintMore Go.Proofs.YtlgoincnopfnjaaW.PrintLast
set_option linter.unusedSimpArgs false
set_option linter.unusedVariables false
attribute [local go_sem] max2_int min2_int max_two min_two eqA27
theorem rrest_end {n m : Nat} {L : LG} {S : Nat → Prop} {item q a0 : Int} {wb W : World} {x1 c1 d1 : Nat} {B1 : Option Addr} (hG : Good n m L) (ha0 : a0 = L.hv.getD item.toNat 0)
    (w1 : RW x1 n (fun i => if i = item.toNat then .int .i64 (wrap64 (a0 + q)) else .int .i64 (L.hv.getD i 0)) W) (hf : Fo S wb W) (hs : ∀ k, S k → k < wb.heap.size) (l1 : n ≤ c1) (l2 : m ≤ d1)
    (hb : ∃ (rA : Nat → Option Addr) (rc : Nat → Nat), RS S B1 m (fun u => .slice (rA u) n (rc u)) wb ∧ ∀ u, u < m → n ≤ rc u ∧ RS S (rA u) n (fun i => .int .i64 ((row L.hd u).getD i 0)) wb) : LV (fun k => S k ∨ k = x1) n m (some ⟨x1, 0, none⟩) c1 B1 d1 (stS L item q) W := by
  obtain ⟨rA, rc, hB, hR⟩ := hb
  refine ⟨hG.st item q, fun k hk => ?_, ?_, l1, ⟨rA, rc, (hB.fo hf).mono (fun _ hk => .inl hk), fun u hu => ⟨(hR u hu).1, ((hR u hu).2.fo hf).mono (fun _ hk => .inl hk)⟩⟩, l2⟩
  · rcases hk with hk | hk
    · exact Nat.lt_of_lt_of_le (hs k hk) hf.size
    · rw [hk]; exact w1.lt
  · refine .inr ⟨_, rfl, .inr rfl, fun i hi => ?_⟩
    rw [Go.WideShapes.add_plain, Nat.zero_add, w1.e i hi]
    show _ = some (Value.int .i64 ((L.hv.set item.toNat (wrap64 (rd L.hv item + q))).getD i 0))
    rw [set_getD _ (by rw [hG.hn]; exact hi), show rd L.hv item = a0 by rw [ha0]; rfl]
    split <;> rfl

set_option maxHeartbeats 4000000 in
set_option maxRecDepth 100000 in
theorem rrestock_a (n m : Nat) (A : Option Addr) (c : Nat) (B : Option Addr) (d : Nat) (L : LG) (item q : Int) (S : Nat → Prop) (w : World) (h : Aside0 (LV S n m A c B d L w)) (hq : Aside0 (-9223372036854775808 ≤ q ∧ q ≤ 9223372036854775807)) (L' : LG) (er : Int) (h1 : item < 0) (hL : L = L') (he : 1 = er) :
    Calls Try.prog 21 #[.agg #[.slice A n c, .slice B m d], .agg #[.int .i64 item, .int .i64 q]] w (Told1 S n m L' er w) := by
  subst hL
  subst he
  go_enter Try.func21, Try.ntmps21
  go_upto_region 1 with (fail)
  have ga : GX w.heap.size (w.heap.size + 1) (w.heap.size + 1 + 1) (.slice A n c) (.slice B m d) item q w (((w.alloc (Obj.cells #[Value.slice A n c, Value.slice B m d] 30)).alloc (Obj.cells #[Value.int IntKind.i64 item, Value.int IntKind.i64 q] 32)).alloc (Obj.cells #[Value.slice none 0 0, Value.slice none 0 0] 30)) :=
    ⟨((((Below.refl _ _).alloc (Nat.le_refl _) _).alloc (by simp) _).alloc (by simp; omega) _), ⟨Nat.le_refl _, by omega, by omega, by simp⟩, by go_simp, by go_simp, by go_simp, by go_simp, ⟨.slice none 0 0, by go_simp⟩, ⟨.slice none 0 0, by go_simp⟩, fun i => by go_simp, fun i => by go_simp, fun i => by go_simp⟩
  have hga := Aside0.mk ga
  clear ga
  generalize (((w.alloc (Obj.cells #[Value.slice A n c, Value.slice B m d] 30)).alloc (Obj.cells #[Value.int IntKind.i64 item, Value.int IntKind.i64 q] 32)).alloc (Obj.cells #[Value.slice none 0 0, Value.slice none 0 0] 30)) = wa at hga ⊢
  generalize hb1 : w.heap.size + 1 = b1 at hga ⊢
  generalize hb0 : w.heap.size = b0 at hga ⊢
  generalize b1 + 1 = b2 at hga ⊢
  clear hb0 hb1
  have k0 := hga.out.k0
  have k1 := hga.out.k1
  have k2 := hga.out.k2
  have k3 := hga.out.k3
  obtain ⟨v0, r0⟩ := hga.out.r0
  obtain ⟨v1, r1⟩ := hga.out.r1
  have f2 := hga.out.f2
  have f1 := hga.out.f1
  have f0 := hga.out.f0
  go_wp2
  have hbw := (hga.out.below.setCell (p := ⟨b2, 0, none⟩) (by have := hga.out.lo; show _ ≤ b2; omega) (.slice A n c)).setCell (p := ⟨b2, 1, none⟩) (by have := hga.out.lo; show _ ≤ b2; omega) (.slice B m d)
  have s0 : ((wa.setCell ⟨b2, 0, none⟩ (.slice A n c)).setCell ⟨b2, 1, none⟩ (.slice B m d)).cell? ⟨b2, 0, none⟩ = some (.slice A n c) := csi (i := 1) (j := 0) (by decide) (World.cell?_setCell_same _ _ _ r0)
  have s1 : ((wa.setCell ⟨b2, 0, none⟩ (.slice A n c)).setCell ⟨b2, 1, none⟩ (.slice B m d)).cell? ⟨b2, 1, none⟩ = some (.slice B m d) := World.cell?_setCell_same _ _ _ (csi (i := 0) (j := 1) (by decide) r1)
  generalize (wa.setCell ⟨b2, 0, none⟩ (.slice A n c)).setCell ⟨b2, 1, none⟩ (.slice B m d) = W8 at hbw s0 s1 ⊢
  refine bodyPost_ret (v := .tuple #[.agg #[.slice A n c, .slice B m d], .int .i64 1]) (by simp [results, Try.results21, go_sem, s0, s1]) rfl ⟨S, A, c, B, d, rfl, h.out.below hbw, fun _ hj => .inl hj, hbw⟩

set_option maxHeartbeats 4000000 in
set_option maxRecDepth 100000 in
theorem rrestock_b (n m : Nat) (A : Option Addr) (c : Nat) (B : Option Addr) (d : Nat) (L : LG) (item q : Int) (S : Nat → Prop) (w : World) (h : Aside0 (LV S n m A c B d L w)) (hq : Aside0 (-9223372036854775808 ≤ q ∧ q ≤ 9223372036854775807)) (L' : LG) (er : Int) (h1 : ¬ item < 0) (h2 : item ≥ (n : Int)) (hL : L = L') (he : 1 = er) :
    Calls Try.prog 21 #[.agg #[.slice A n c, .slice B m d], .agg #[.int .i64 item, .int .i64 q]] w (Told1 S n m L' er w) := by
  subst hL
  subst he
  go_enter Try.func21, Try.ntmps21
  go_upto_region 1 with (fail)
  have ga : GX w.heap.size (w.heap.size + 1) (w.heap.size + 1 + 1) (.slice A n c) (.slice B m d) item q w (((w.alloc (Obj.cells #[Value.slice A n c, Value.slice B m d] 30)).alloc (Obj.cells #[Value.int IntKind.i64 item, Value.int IntKind.i64 q] 32)).alloc (Obj.cells #[Value.slice none 0 0, Value.slice none 0 0] 30)) :=
    ⟨((((Below.refl _ _).alloc (Nat.le_refl _) _).alloc (by simp) _).alloc (by simp; omega) _), ⟨Nat.le_refl _, by omega, by omega, by simp⟩, by go_simp, by go_simp, by go_simp, by go_simp, ⟨.slice none 0 0, by go_simp⟩, ⟨.slice none 0 0, by go_simp⟩, fun i => by go_simp, fun i => by go_simp, fun i => by go_simp⟩
  have hga := Aside0.mk ga
  clear ga
  generalize (((w.alloc (Obj.cells #[Value.slice A n c, Value.slice B m d] 30)).alloc (Obj.cells #[Value.int IntKind.i64 item, Value.int IntKind.i64 q] 32)).alloc (Obj.cells #[Value.slice none 0 0, Value.slice none 0 0] 30)) = wa at hga ⊢
  generalize hb1 : w.heap.size + 1 = b1 at hga ⊢
  generalize hb0 : w.heap.size = b0 at hga ⊢
  generalize b1 + 1 = b2 at hga ⊢
  clear hb0 hb1
  have k0 := hga.out.k0
  have k1 := hga.out.k1
  have k2 := hga.out.k2
  have k3 := hga.out.k3
  obtain ⟨v0, r0⟩ := hga.out.r0
  obtain ⟨v1, r1⟩ := hga.out.r1
  have f2 := hga.out.f2
  have f1 := hga.out.f1
  have f0 := hga.out.f0
  go_wp2
  have hbw := (hga.out.below.setCell (p := ⟨b2, 0, none⟩) (by have := hga.out.lo; show _ ≤ b2; omega) (.slice A n c)).setCell (p := ⟨b2, 1, none⟩) (by have := hga.out.lo; show _ ≤ b2; omega) (.slice B m d)
  have s0 : ((wa.setCell ⟨b2, 0, none⟩ (.slice A n c)).setCell ⟨b2, 1, none⟩ (.slice B m d)).cell? ⟨b2, 0, none⟩ = some (.slice A n c) := csi (i := 1) (j := 0) (by decide) (World.cell?_setCell_same _ _ _ r0)
  have s1 : ((wa.setCell ⟨b2, 0, none⟩ (.slice A n c)).setCell ⟨b2, 1, none⟩ (.slice B m d)).cell? ⟨b2, 1, none⟩ = some (.slice B m d) := World.cell?_setCell_same _ _ _ (csi (i := 0) (j := 1) (by decide) r1)
  generalize (wa.setCell ⟨b2, 0, none⟩ (.slice A n c)).setCell ⟨b2, 1, none⟩ (.slice B m d) = W8 at hbw s0 s1 ⊢
  refine bodyPost_ret (v := .tuple #[.agg #[.slice A n c, .slice B m d], .int .i64 1]) (by simp [results, Try.results21, go_sem, s0, s1]) rfl ⟨S, A, c, B, d, rfl, h.out.below hbw, fun _ hj => .inl hj, hbw⟩

set_option maxHeartbeats 4000000 in
set_option maxRecDepth 100000 in
theorem rrestock_c (n m : Nat) (A : Option Addr) (c : Nat) (B : Option Addr) (d : Nat) (L : LG) (item q : Int) (S : Nat → Prop) (w : World) (h : Aside0 (LV S n m A c B d L w)) (hq : Aside0 (-9223372036854775808 ≤ q ∧ q ≤ 9223372036854775807)) (L' : LG) (er : Int) (h1 : ¬ item < 0) (h2 : ¬ item ≥ (n : Int)) (h3 : q < 1) (hL : L = L') (he : 201 = er) :
    Calls Try.prog 21 #[.agg #[.slice A n c, .slice B m d], .agg #[.int .i64 item, .int .i64 q]] w (Told1 S n m L' er w) := by
  subst hL
  subst he
  go_enter Try.func21, Try.ntmps21
  go_upto_region 1 with (fail)
  have ga : GX w.heap.size (w.heap.size + 1) (w.heap.size + 1 + 1) (.slice A n c) (.slice B m d) item q w (((w.alloc (Obj.cells #[Value.slice A n c, Value.slice B m d] 30)).alloc (Obj.cells #[Value.int IntKind.i64 item, Value.int IntKind.i64 q] 32)).alloc (Obj.cells #[Value.slice none 0 0, Value.slice none 0 0] 30)) :=
    ⟨((((Below.refl _ _).alloc (Nat.le_refl _) _).alloc (by simp) _).alloc (by simp; omega) _), ⟨Nat.le_refl _, by omega, by omega, by simp⟩, by go_simp, by go_simp, by go_simp, by go_simp, ⟨.slice none 0 0, by go_simp⟩, ⟨.slice none 0 0, by go_simp⟩, fun i => by go_simp, fun i => by go_simp, fun i => by go_simp⟩
  have hga := Aside0.mk ga
  clear ga
  generalize (((w.alloc (Obj.cells #[Value.slice A n c, Value.slice B m d] 30)).alloc (Obj.cells #[Value.int IntKind.i64 item, Value.int IntKind.i64 q] 32)).alloc (Obj.cells #[Value.slice none 0 0, Value.slice none 0 0] 30)) = wa at hga ⊢
  generalize hb1 : w.heap.size + 1 = b1 at hga ⊢
  generalize hb0 : w.heap.size = b0 at hga ⊢
  generalize b1 + 1 = b2 at hga ⊢
  clear hb0 hb1
  have k0 := hga.out.k0
  have k1 := hga.out.k1
  have k2 := hga.out.k2
  have k3 := hga.out.k3
  obtain ⟨v0, r0⟩ := hga.out.r0
  obtain ⟨v1, r1⟩ := hga.out.r1
  have f2 := hga.out.f2
  have f1 := hga.out.f1
  have f0 := hga.out.f0
  go_wp2
  have hbw := (hga.out.below.setCell (p := ⟨b2, 0, none⟩) (by have := hga.out.lo; show _ ≤ b2; omega) (.slice A n c)).setCell (p := ⟨b2, 1, none⟩) (by have := hga.out.lo; show _ ≤ b2; omega) (.slice B m d)
  have s0 : ((wa.setCell ⟨b2, 0, none⟩ (.slice A n c)).setCell ⟨b2, 1, none⟩ (.slice B m d)).cell? ⟨b2, 0, none⟩ = some (.slice A n c) := csi (i := 1) (j := 0) (by decide) (World.cell?_setCell_same _ _ _ r0)
  have s1 : ((wa.setCell ⟨b2, 0, none⟩ (.slice A n c)).setCell ⟨b2, 1, none⟩ (.slice B m d)).cell? ⟨b2, 1, none⟩ = some (.slice B m d) := World.cell?_setCell_same _ _ _ (csi (i := 0) (j := 1) (by decide) r1)
  generalize (wa.setCell ⟨b2, 0, none⟩ (.slice A n c)).setCell ⟨b2, 1, none⟩ (.slice B m d) = W8 at hbw s0 s1 ⊢
  refine bodyPost_ret (v := .tuple #[.agg #[.slice A n c, .slice B m d], .int .i64 201]) (by simp [results, Try.results21, go_sem, s0, s1]) rfl ⟨S, A, c, B, d, rfl, h.out.below hbw, fun _ hj => .inl hj, hbw⟩

set_option maxHeartbeats 4000000 in
set_option maxRecDepth 100000 in
theorem rrestock_d (n m : Nat) (A : Option Addr) (c : Nat) (B : Option Addr) (d : Nat) (L : LG) (item q : Int) (S : Nat → Prop) (w : World) (h : Aside0 (LV S n m A c B d L w)) (hq : Aside0 (-9223372036854775808 ≤ q ∧ q ≤ 9223372036854775807)) (L' : LG) (er : Int) (h1 : ¬ item < 0) (h2 : ¬ item ≥ (n : Int)) (h3 : ¬ q < 1) (h4 : q > 1048576) (hL : L = L') (he : 201 = er) :
    Calls Try.prog 21 #[.agg #[.slice A n c, .slice B m d], .agg #[.int .i64 item, .int .i64 q]] w (Told1 S n m L' er w) := by
  subst hL
  subst he
  go_enter Try.func21, Try.ntmps21
  go_upto_region 1 with (fail)
  have ga : GX w.heap.size (w.heap.size + 1) (w.heap.size + 1 + 1) (.slice A n c) (.slice B m d) item q w (((w.alloc (Obj.cells #[Value.slice A n c, Value.slice B m d] 30)).alloc (Obj.cells #[Value.int IntKind.i64 item, Value.int IntKind.i64 q] 32)).alloc (Obj.cells #[Value.slice none 0 0, Value.slice none 0 0] 30)) :=
    ⟨((((Below.refl _ _).alloc (Nat.le_refl _) _).alloc (by simp) _).alloc (by simp; omega) _), ⟨Nat.le_refl _, by omega, by omega, by simp⟩, by go_simp, by go_simp, by go_simp, by go_simp, ⟨.slice none 0 0, by go_simp⟩, ⟨.slice none 0 0, by go_simp⟩, fun i => by go_simp, fun i => by go_simp, fun i => by go_simp⟩
  have hga := Aside0.mk ga
  clear ga
  generalize (((w.alloc (Obj.cells #[Value.slice A n c, Value.slice B m d] 30)).alloc (Obj.cells #[Value.int IntKind.i64 item, Value.int IntKind.i64 q] 32)).alloc (Obj.cells #[Value.slice none 0 0, Value.slice none 0 0] 30)) = wa at hga ⊢
  generalize hb1 : w.heap.size + 1 = b1 at hga ⊢
  generalize hb0 : w.heap.size = b0 at hga ⊢
  generalize b1 + 1 = b2 at hga ⊢
  clear hb0 hb1
  have k0 := hga.out.k0
  have k1 := hga.out.k1
  have k2 := hga.out.k2
  have k3 := hga.out.k3
  obtain ⟨v0, r0⟩ := hga.out.r0
  obtain ⟨v1, r1⟩ := hga.out.r1
  have f2 := hga.out.f2
  have f1 := hga.out.f1
  have f0 := hga.out.f0
  go_wp2
  have hbw := (hga.out.below.setCell (p := ⟨b2, 0, none⟩) (by have := hga.out.lo; show _ ≤ b2; omega) (.slice A n c)).setCell (p := ⟨b2, 1, none⟩) (by have := hga.out.lo; show _ ≤ b2; omega) (.slice B m d)
  have s0 : ((wa.setCell ⟨b2, 0, none⟩ (.slice A n c)).setCell ⟨b2, 1, none⟩ (.slice B m d)).cell? ⟨b2, 0, none⟩ = some (.slice A n c) := csi (i := 1) (j := 0) (by decide) (World.cell?_setCell_same _ _ _ r0)
  have s1 : ((wa.setCell ⟨b2, 0, none⟩ (.slice A n c)).setCell ⟨b2, 1, none⟩ (.slice B m d)).cell? ⟨b2, 1, none⟩ = some (.slice B m d) := World.cell?_setCell_same _ _ _ (csi (i := 0) (j := 1) (by decide) r1)
  generalize (wa.setCell ⟨b2, 0, none⟩ (.slice A n c)).setCell ⟨b2, 1, none⟩ (.slice B m d) = W8 at hbw s0 s1 ⊢
  refine bodyPost_ret (v := .tuple #[.agg #[.slice A n c, .slice B m d], .int .i64 201]) (by simp [results, Try.results21, go_sem, s0, s1]) rfl ⟨S, A, c, B, d, rfl, h.out.below hbw, fun _ hj => .inl hj, hbw⟩

set_option maxHeartbeats 4000000 in
set_option maxRecDepth 100000 in
theorem rrestock_ok (n m : Nat) (A : Option Addr) (c : Nat) (B : Option Addr) (d : Nat) (L : LG) (item q : Int) (S : Nat → Prop) (w : World) (h : Aside0 (LV S n m A c B d L w)) (hq : Aside0 (-9223372036854775808 ≤ q ∧ q ≤ 9223372036854775807)) (L' : LG) (er : Int) (h1 : ¬ item < 0) (h2 : ¬ item ≥ (n : Int)) (h3 : ¬ q < 1) (h4 : ¬ q > 1048576) (hL : stS L item q = L') (he : 0 = er) :
    Calls Try.prog 21 #[.agg #[.slice A n c, .slice B m d], .agg #[.int .i64 item, .int .i64 q]] w (Told1 S n m L' er w) := by
  subst hL
  subst he
  have i0 : 0 ≤ item := by omega
  have i1 : item < n := by omega
  obtain ⟨a0, ha0⟩ : ∃ a, a = L.hv.getD item.toNat 0 := ⟨_, rfl⟩
  replace ha0 := Aside0.mk ha0
  have hn0 : 0 < n := by omega
  have TN := Aside0.mk (show item.toNat < n by omega)
  go_enter Try.func21, Try.ntmps21
  go_upto_region 1 with (fail)
  have ga : GX w.heap.size (w.heap.size + 1) (w.heap.size + 1 + 1) (.slice A n c) (.slice B m d) item q w (((w.alloc (Obj.cells #[Value.slice A n c, Value.slice B m d] 30)).alloc (Obj.cells #[Value.int IntKind.i64 item, Value.int IntKind.i64 q] 32)).alloc (Obj.cells #[Value.slice none 0 0, Value.slice none 0 0] 30)) :=
    ⟨((((Below.refl _ _).alloc (Nat.le_refl _) _).alloc (by simp) _).alloc (by simp; omega) _), ⟨Nat.le_refl _, by omega, by omega, by simp⟩, by go_simp, by go_simp, by go_simp, by go_simp, ⟨.slice none 0 0, by go_simp⟩, ⟨.slice none 0 0, by go_simp⟩, fun i => by go_simp, fun i => by go_simp, fun i => by go_simp⟩
  have hga := Aside0.mk ga
  clear ga
  generalize (((w.alloc (Obj.cells #[Value.slice A n c, Value.slice B m d] 30)).alloc (Obj.cells #[Value.int IntKind.i64 item, Value.int IntKind.i64 q] 32)).alloc (Obj.cells #[Value.slice none 0 0, Value.slice none 0 0] 30)) = wa at hga ⊢
  generalize hb1 : w.heap.size + 1 = b1 at hga ⊢
  generalize hb0 : w.heap.size = b0 at hga ⊢
  generalize b1 + 1 = b2 at hga ⊢
  clear hb0 hb1
  have k0 := hga.out.k0
  have k1 := hga.out.k1
  have k2 := hga.out.k2
  have k3 := hga.out.k3
  obtain ⟨v0, r0⟩ := hga.out.r0
  obtain ⟨v1, r1⟩ := hga.out.r1
  have f2 := hga.out.f2
  have f1 := hga.out.f1
  have f0 := hga.out.f0
  go_upto_region 6 with (first | (go_at_call 36; (with_reducible refine (copied_own n m A c B d L S _ ⟨h.out.below hga.out.below⟩ hn0).mono ?_); rintro e wb ⟨S1, x1, c1, B1, d1, rfl, w1, l1, q1, nx, hs1, l2, hH, ba⟩; have g1 := Aside0.mk (hga.out.step ba); have w1 := Aside0.mk w1; have l1 := Aside0.mk l1; have q1 := Aside0.mk q1; have nx := Aside0.mk nx; have hs1 := Aside0.mk hs1; have l2 := Aside0.mk l2; have hH := Aside0.mk hH; have lo1 := Aside0.mk hga.out.lo; clear hga k0 k1 k2 k3 r0 r1 f2 f1 f0 ba))
  trace "A"
  trace_state
  have bal := (Below.refl wb.heap.size wb).alloc (Nat.le_refl _) (.cells #[.slice (some ⟨x1, 0, none⟩) n c1, .slice B1 m d1] 30)
  have g3 := Aside0.mk (g1.out.step bal)
  have w1d := Aside0.mk (w1.out.step bal)
  have fo := Aside0.mk (Fo.of_below (fun k hk => (hs1.out k hk).2) bal)
  have hz : Aside0 ((wb.alloc (.cells #[.slice (some ⟨x1, 0, none⟩) n c1, .slice B1 m d1] 30)).cell? ⟨wb.heap.size, 0, none⟩ = some (.slice (some ⟨x1, 0, none⟩) n c1) ∧ (wb.alloc (.cells #[.slice (some ⟨x1, 0, none⟩) n c1, .slice B1 m d1] 30)).cell? ⟨wb.heap.size, 1, none⟩ = some (.slice B1 m d1)) := ⟨⟨by go_simp, by go_simp⟩⟩
  have xl := Aside0.mk w1.out.lt
  clear bal g1
  have hwb := Aside0.mk lo1.out.2.2.2
  generalize wb.alloc (.cells #[.slice (some ⟨x1, 0, none⟩) n c1, .slice B1 m d1] 30) = W5 at g3 w1d hz fo ⊢
  generalize hb3 : wb.heap.size = b3 at hz ⊢
  replace hb3 := Aside0.mk hb3
  have g3 := Aside0.mk (g3.out.step (below_drew1 (Below.refl W5.heap.size W5)))
  have hz := Aside0.mk (And.intro ((W5.cell?_drew _).trans hz.out.1) ((W5.cell?_drew _).trans hz.out.2))
  have w1d := Aside0.mk (w1d.out.step (below_drew1 (Below.refl W5.heap.size W5)))
  have fo : Aside0 (Fo S1 wb W5.drew) := ⟨⟨fo.out.size, fo.out.block⟩⟩
  refine start_ (n := 15) (S := fun w' => w'.cell? ⟨b3, 0, none⟩ = some (.slice (some ⟨x1, 0, none⟩) n c1) ∧ w'.cell? ⟨b1, 0, none⟩ = some (.int .i64 item) ∧ w'.cell? ⟨b1, 1, none⟩ = some (.int .i64 q) ∧ w'.cell? ⟨x1, item.toNat, none⟩ = some (.int .i64 a0)) (ds := [14]) #[false, false, false, false, false, false, false, false, false, false, false, false, false, false, false] (by kernel_rfl) rfl rfl ⟨hz.out.1, g3.out.k2, g3.out.k3, ((w1d.out.e item.toNat TN.out).trans (by rw [← ha0.out]))⟩ (fun hHeld => ?_)
  generalize W5.drew = V5 at g3 w1d hz fo hHeld ⊢
  refine pure_ (i := 0) (N := some 30) (v := ?_) (a' := ?_) #[true, false, false, false, false, false, false, false, false, false, false, false, false, false, false] rfl rfl (by kernel_rfl) (fun _ _ _ h => h) (Or.inl ⟨by rfl, ?_⟩) ?_ ?_
  rotate_left
  · intro w'
    go_simp
    with_reducible rfl
  rotate_left
  · simp only [Act.put, List.setIfInBounds_toArray, List.set_cons_zero, List.set_cons_succ, i64_w, i32_w]
    rfl
  refine pure_ (i := 2) (N := some 32) (v := ?_) (a' := ?_) #[true, false, true, false, false, false, false, false, false, false, false, false, false, false, false] rfl rfl (by kernel_rfl) (fun _ _ _ h => h) (Or.inl ⟨by rfl, ?_⟩) ?_ ?_
  rotate_left
  · intro w'
    go_simp
    with_reducible rfl
  rotate_left
  · simp only [Act.put, List.setIfInBounds_toArray, List.set_cons_zero, List.set_cons_succ, i64_w, i32_w]
    rfl
  refine pure_ (i := 4) (N := some 34) (v := ?_) (a' := ?_) #[true, false, true, false, true, false, false, false, false, false, false, false, false, false, false] rfl rfl (by kernel_rfl) (fun _ _ _ h => h) (Or.inl ⟨by rfl, ?_⟩) ?_ ?_
  rotate_left
  · intro w'
    go_simp
    with_reducible rfl
  rotate_left
  · simp only [Act.put, List.setIfInBounds_toArray, List.set_cons_zero, List.set_cons_succ, i64_w, i32_w]
    rfl
  refine pure_ (i := 6) (N := some 36) (v := ?_) (a' := ?_) #[true, false, true, false, true, false, true, false, false, false, false, false, false, false, false] rfl rfl (by kernel_rfl) (fun _ _ _ h => h) (Or.inl ⟨by rfl, ?_⟩) ?_ ?_
  rotate_left
  · intro w'
    go_simp
    with_reducible rfl
  rotate_left
  · simp only [Act.put, List.setIfInBounds_toArray, List.set_cons_zero, List.set_cons_succ, i64_w, i32_w]
    rfl
  refine pure_ (i := 10) (N := some 40) (v := ?_) (a' := ?_) #[true, false, true, false, true, false, true, false, false, false, true, false, false, false, false] rfl rfl (by kernel_rfl) (fun _ _ _ h => h) (Or.inl ⟨by rfl, ?_⟩) ?_ ?_
  rotate_left
  · intro w'
    go_simp
    with_reducible rfl
  rotate_left
  · simp only [Act.put, List.setIfInBounds_toArray, List.set_cons_zero, List.set_cons_succ, i64_w, i32_w]
    rfl
  refine take_ (i := 1) (N := some 31) (v := ?_) (a' := ?_) #[true, true, true, false, true, false, true, false, false, false, true, false, false, false, false] rfl rfl (by kernel_rfl) (fun _ _ _ h => h) (Or.inl ⟨by rfl, ?_⟩) hHeld ?_ ?_
  rotate_left
  · rintro w' ⟨s0, s1, s2, s3⟩
    go_simp
    with_reducible rfl
  rotate_left
  · simp only [Act.put, List.setIfInBounds_toArray, List.set_cons_zero, List.set_cons_succ, i64_w, i32_w]
    rfl
  refine take_ (i := 3) (N := some 33) (v := ?_) (a' := ?_) #[true, true, true, true, true, false, true, false, false, false, true, false, false, false, false] rfl rfl (by kernel_rfl) (fun _ _ _ h => h) (Or.inl ⟨by rfl, ?_⟩) hHeld ?_ ?_
  rotate_left
  · rintro w' ⟨s0, s1, s2, s3⟩
    go_simp
    with_reducible rfl
  rotate_left
  · simp only [Act.put, List.setIfInBounds_toArray, List.set_cons_zero, List.set_cons_succ, i64_w, i32_w]
    rfl
  refine take_ (i := 5) (N := some 35) (v := ?_) (a' := ?_) #[true, true, true, true, true, true, true, false, false, false, true, false, false, false, false] rfl rfl (by kernel_rfl) (fun _ _ _ h => h) (Or.inl ⟨by rfl, ?_⟩) hHeld ?_ ?_
  rotate_left
  · rintro w' ⟨s0, s1, s2, s3⟩
    go_simp
    with_reducible rfl
  rotate_left
  · simp only [Act.put, List.setIfInBounds_toArray, List.set_cons_zero, List.set_cons_succ, i64_w, i32_w]
    rfl
  refine take_ (i := 7) (N := some 37) (v := ?_) (a' := ?_) #[true, true, true, true, true, true, true, true, false, false, true, false, false, false, false] rfl rfl (by kernel_rfl) (fun _ _ _ h => h) (Or.inl ⟨by rfl, ?_⟩) hHeld ?_ ?_
  rotate_left
  · rintro w' ⟨s0, s1, s2, s3⟩
    go_simp
    with_reducible rfl
  rotate_left
  · simp only [Act.put, List.setIfInBounds_toArray, List.set_cons_zero, List.set_cons_succ, i64_w, i32_w]
    rfl
  refine pure_ (i := 8) (N := some 38) (v := ?_) (a' := ?_) #[true, true, true, true, true, true, true, true, true, false, true, false, false, false, false] rfl rfl (by kernel_rfl) (fun _ _ _ h => h) (Or.inl ⟨by rfl, ?_⟩) ?_ ?_
  rotate_left
  · intro w'
    go_simp
    with_reducible rfl
  rotate_left
  · simp only [Act.put, List.setIfInBounds_toArray, List.set_cons_zero, List.set_cons_succ, i64_w, i32_w]
    rfl
  refine take_ (i := 9) (N := some 39) (v := ?_) (a' := ?_) #[true, true, true, true, true, true, true, true, true, true, true, false, false, false, false] rfl rfl (by kernel_rfl) (fun _ _ _ h => h) (Or.inl ⟨by rfl, ?_⟩) hHeld ?_ ?_
  rotate_left
  · rintro w' ⟨s0, s1, s2, s3⟩
    go_simp
    with_reducible rfl
  rotate_left
  · simp only [Act.put, List.setIfInBounds_toArray, List.set_cons_zero, List.set_cons_succ, i64_w, i32_w]
    rfl
  refine take_ (i := 11) (N := some 41) (v := ?_) (a' := ?_) #[true, true, true, true, true, true, true, true, true, true, true, true, false, false, false] rfl rfl (by kernel_rfl) (fun _ _ _ h => h) (Or.inl ⟨by rfl, ?_⟩) hHeld ?_ ?_
  rotate_left
  · rintro w' ⟨s0, s1, s2, s3⟩
    go_simp
    with_reducible rfl
  rotate_left
  · simp only [Act.put, List.setIfInBounds_toArray, List.set_cons_zero, List.set_cons_succ, i64_w, i32_w]
    rfl
  refine pure_ (i := 12) (N := some 42) (v := ?_) (a' := ?_) #[true, true, true, true, true, true, true, true, true, true, true, true, true, false, false] rfl rfl (by kernel_rfl) (fun _ _ _ h => h) (Or.inl ⟨by rfl, ?_⟩) ?_ ?_
  rotate_left
  · intro w'
    go_simp
    with_reducible rfl
  rotate_left
  · simp only [Act.put, List.setIfInBounds_toArray, List.set_cons_zero, List.set_cons_succ, i64_w, i32_w]
    rfl
  refine pure_ (i := 13) (N := some 43) (v := ?_) (a' := ?_) #[true, true, true, true, true, true, true, true, true, true, true, true, true, true, false] rfl rfl (by kernel_rfl) (fun _ _ _ h => h) (Or.inl ⟨by rfl, ?_⟩) ?_ ?_
  rotate_left
  · intro w'
    go_simp
    with_reducible rfl
  rotate_left
  · simp only [Act.put, List.setIfInBounds_toArray, List.set_cons_zero, List.set_cons_succ, i64_w, i32_w]
    rfl
  refine last_ (i := 14) (N := none) #[true, true, true, true, true, true, true, true, true, true, true, true, true, true, true] rfl rfl (by kernel_rfl) (by decide) (fun K hK => ?_)
  have hf0 := w1d.out.z
  have hk0 := w1d.out.e item.toNat TN.out
  refine skip_ (w1 := ?_) (by rfl) rfl ?_ ?_
  rotate_left
  · go_simp
    rfl
  refine hK.out _ _ ?_
  clear hK K
  refine done_ (by kernel_rfl) ?_
  clear hf0 hk0 hHeld
  have nb1 : b2 < x1 := by have := lo1.out; have := q1.out; omega
  have nb3 : x1 ≠ b3 := by have := xl.out; have := hb3.out; omega
  have g4 := Aside0.mk (g3.out.far (x := x1) (i := item.toNat) nb1 (.int .i64 (wrap64 (a0 + q))))
  have w1e := Aside0.mk (w1d.out.put TN.out (.int .i64 (wrap64 (a0 + q))))
  have fo2 := Aside0.mk (fo.out.store (i := item.toNat) nx.out (.int .i64 (wrap64 (a0 + q))))
  have z0 : (V5.setCell ⟨x1, item.toNat, none⟩ (.int .i64 (wrap64 (a0 + q)))).cell? ⟨b3, 0, none⟩ = some (.slice (some ⟨x1, 0, none⟩) n c1) := cso nb3 hz.out.1
  have z1 : (V5.setCell ⟨x1, item.toNat, none⟩ (.int .i64 (wrap64 (a0 + q)))).cell? ⟨b3, 1, none⟩ = some (.slice B1 m d1) := cso nb3 hz.out.2
  clear g3 w1d fo hz
  generalize V5.setCell ⟨x1, item.toNat, none⟩ (.int .i64 (wrap64 (a0 + q))) = W6 at g4 w1e fo2 z0 z1 ⊢
  have k0 := g4.out.k0
  have k1 := g4.out.k1
  have k2 := g4.out.k2
  have k3 := g4.out.k3
  obtain ⟨v0, r0⟩ := g4.out.r0
  obtain ⟨v1, r1⟩ := g4.out.r1
  have f2 := g4.out.f2
  have f1 := g4.out.f1
  have f0 := g4.out.f0
  go_wp2
  have hbw := (g4.out.below.setCell (p := ⟨b2, 0, none⟩) (by have := g4.out.lo; show _ ≤ b2; omega) (.slice (some ⟨x1, 0, none⟩) n c1)).setCell (p := ⟨b2, 1, none⟩) (by have := g4.out.lo; show _ ≤ b2; omega) (.slice B1 m d1)
  have nb : b2 ≠ x1 := by omega
  have w1g := (w1e.out.far (y := b2) (j := 0) nb (.slice (some ⟨x1, 0, none⟩) n c1)).far (y := b2) (j := 1) nb (.slice B1 m d1)
  have ns : ¬ S1 b2 := fun hj => by have := (hs1.out b2 hj).1; have := lo1.out; omega
  have fo3 := (fo2.out.store (i := 0) ns (.slice (some ⟨x1, 0, none⟩) n c1)).store (i := 1) ns (.slice B1 m d1)
  have s0 : ((W6.setCell ⟨b2, 0, none⟩ (.slice (some ⟨x1, 0, none⟩) n c1)).setCell ⟨b2, 1, none⟩ (.slice B1 m d1)).cell? ⟨b2, 0, none⟩ = some (.slice (some ⟨x1, 0, none⟩) n c1) := csi (i := 1) (j := 0) (by decide) (World.cell?_setCell_same _ _ _ r0)
  have s1 : ((W6.setCell ⟨b2, 0, none⟩ (.slice (some ⟨x1, 0, none⟩) n c1)).setCell ⟨b2, 1, none⟩ (.slice B1 m d1)).cell? ⟨b2, 1, none⟩ = some (.slice B1 m d1) := World.cell?_setCell_same _ _ _ (csi (i := 0) (j := 1) (by decide) r1)
  generalize (W6.setCell ⟨b2, 0, none⟩ (.slice (some ⟨x1, 0, none⟩) n c1)).setCell ⟨b2, 1, none⟩ (.slice B1 m d1) = W8 at hbw w1g fo3 s0 s1 ⊢
  refine bodyPost_ret (v := .tuple #[.agg #[.slice (some ⟨x1, 0, none⟩) n c1, .slice B1 m d1], .int .i64 0]) (by simp [results, Try.results21, go_sem, s0, s1]) rfl ⟨fun k => S1 k ∨ k = x1, some ⟨x1, 0, none⟩, c1, B1, d1, rfl, rrest_end h.out.g ha0.out w1g fo3 (fun k hk => (hs1.out k hk).2) l1.out l2.out hH.out, ?_, hbw⟩
  intro j hj
  have h7 := lo1.out
  rcases hj with hj | hj
  · have := (hs1.out j hj).1; exact .inr (by omega)
  · exact .inr (by omega)

theorem rrestock_is (n m : Nat) (A : Option Addr) (c : Nat) (B : Option Addr) (d : Nat) (L : LG) (item q : Int) (S : Nat → Prop) (w : World) (h : Aside0 (LV S n m A c B d L w)) (hq : Aside0 (-9223372036854775808 ≤ q ∧ q ≤ 9223372036854775807)) (L' : LG) (er : Int) (hs : rsS n L item q = (L', er)) :
    Calls Try.prog 21 #[.agg #[.slice A n c, .slice B m d], .agg #[.int .i64 item, .int .i64 q]] w (Told1 S n m L' er w) := by
  unfold rsS at hs
  by_cases h1 : item < 0
  · rw [if_neg (by omega)] at hs
    simp only [Prod.mk.injEq] at hs
    exact rrestock_a n m A c B d L item q S w h hq L' er h1 hs.1 hs.2
  by_cases h2 : item ≥ (n : Int)
  · rw [if_neg (by omega)] at hs
    simp only [Prod.mk.injEq] at hs
    exact rrestock_b n m A c B d L item q S w h hq L' er h1 h2 hs.1 hs.2
  rw [if_pos (by omega)] at hs
  by_cases h3 : q < 1
  · rw [if_neg (by omega)] at hs
    simp only [Prod.mk.injEq] at hs
    exact rrestock_c n m A c B d L item q S w h hq L' er h1 h2 h3 hs.1 hs.2
  by_cases h4 : q > 1048576
  · rw [if_neg (by omega)] at hs
    simp only [Prod.mk.injEq] at hs
    exact rrestock_d n m A c B d L item q S w h hq L' er h1 h2 h3 h4 hs.1 hs.2
  rw [if_pos (by omega)] at hs
  simp only [Prod.mk.injEq] at hs
  exact rrestock_ok n m A c B d L item q S w h hq L' er h1 h2 h3 h4 hs.1 hs.2

end Go.Proofs.Ytlgoincnopfnjaa.Led
