/- The ref's Both. -/
import Derived.Test.YtlgoincnopfnjaaLedJ
namespace Go.Proofs.Ytlgoincnopfnjaa.Led
open Go Go.RowKit Go.Proofs.YtlgoincnopfnjaaW.PrintWords Go.Proofs.YtlgoincnopfnjaaW.PrintMore Go.Proofs.YtlgoincnopfnjaaW.PrintLast
set_option linter.unusedSimpArgs false
set_option linter.unusedVariables false
attribute [local go_sem] max2_int min2_int max_two min_two eqA27
/-- The boxes of the ref's Both. -/
structure GR (b0 b1 b2 b3 : Nat) (u0 u1 : Value) (ai aK bi bK : Int) (w w' : World) : Prop where
  below : Below w.heap.size w w'
  lo : w.heap.size ≤ b0 ∧ b0 < b1 ∧ b1 < b2 ∧ b2 < b3 ∧ b3 < w'.heap.size
  k0 : w'.cell? ⟨b0, 0, none⟩ = some u0
  k1 : w'.cell? ⟨b0, 1, none⟩ = some u1
  p0 : w'.cell? ⟨b1, 0, none⟩ = some (.int .i64 ai)
  p1 : w'.cell? ⟨b1, 1, none⟩ = some (.int .i64 aK)
  q0 : w'.cell? ⟨b2, 0, none⟩ = some (.int .i64 bi)
  q1 : w'.cell? ⟨b2, 1, none⟩ = some (.int .i64 bK)
  r0 : ∃ v, w'.cell? ⟨b3, 0, none⟩ = some v
  r1 : ∃ v, w'.cell? ⟨b3, 1, none⟩ = some v
  f3 : ∀ i, w'.frozen? ⟨b3, i, none⟩ = false
  z0 : b0 < w'.heap.size
  z2 : b2 < w'.heap.size
  z3 : b3 < w'.heap.size
theorem GR.step {b0 b1 b2 b3 : Nat} {u0 u1 : Value} {ai aK bi bK : Int} {w w' w2 : World} (h : GR b0 b1 b2 b3 u0 u1 ai aK bi bK w w') (hb : Below w'.heap.size w' w2) : GR b0 b1 b2 b3 u0 u1 ai aK bi bK w w2 := by
  obtain ⟨h1, h2, h3, h4, h6⟩ := h.lo
  obtain ⟨v0, e0⟩ := h.r0
  obtain ⟨v1, e1⟩ := h.r1
  have hz := hb.size
  have c : ∀ {b i : Nat} {v : Value}, b ≤ b3 → w'.cell? ⟨b, i, none⟩ = some v → w2.cell? ⟨b, i, none⟩ = some v := fun {b i v} hle hc => (hb.cell (p := ⟨b, i, none⟩) (by show b < _; omega)).trans hc
  exact ⟨below_step h.below hb, ⟨h1, h2, h3, h4, by omega⟩, c (by omega) h.k0, c (by omega) h.k1, c (by omega) h.p0, c (by omega) h.p1, c (by omega) h.q0, c (by omega) h.q1, ⟨v0, c (by omega) e0⟩, ⟨v1, c (by omega) e1⟩,
    fun i => (hb.frozen (p := ⟨b3, i, none⟩) (by show b3 < _; omega)).trans (h.f3 i), by omega, by omega, by omega⟩

set_option maxHeartbeats 4000000 in
set_option maxRecDepth 100000 in
theorem rboth_a (n m : Nat) (A : Option Addr) (c : Nat) (B : Option Addr) (d : Nat) (L : LG) (t ai aK bi bK : Int) (S : Nat → Prop) (w : World) (h : Aside0 (LV S n m A c B d L w)) (ha : Aside0 (-9223372036854775808 ≤ aK ∧ aK ≤ 9223372036854775807)) (hb : Aside0 (-9223372036854775808 ≤ bK ∧ bK ≤ 9223372036854775807)) (L' : LG) (k er : Int) (hc : Hid (checkS n m t ai aK = er)) (he : (er == 0) = false) (hL : L = L') (hk : 0 = k) :
    Calls Try.prog 23 #[.agg #[.slice A n c, .slice B m d], .int .i64 t, .agg #[.int .i64 ai, .int .i64 aK], .agg #[.int .i64 bi, .int .i64 bK]] w (Told S n m L' k er w) := by
  subst hL
  subst hk
  have he2 : (er != 0) = true := by simp [bne, he]
  go_enter Try.func23, Try.ntmps23
  go_upto_region 1 with (fail)
  have gt : GR w.heap.size (w.heap.size + 1) (w.heap.size + 1 + 1) (w.heap.size + 1 + 1 + 1) (.slice A n c) (.slice B m d) ai aK bi bK w ((((w.alloc (Obj.cells #[Value.slice A n c, Value.slice B m d] 30)).alloc (Obj.cells #[Value.int IntKind.i64 ai, Value.int IntKind.i64 aK] 32)).alloc (Obj.cells #[Value.int IntKind.i64 bi, Value.int IntKind.i64 bK] 32)).alloc (Obj.cells #[Value.slice none 0 0, Value.slice none 0 0] 30)) :=
    ⟨(((((Below.refl _ _).alloc (Nat.le_refl _) _).alloc (by simp) _).alloc (by simp; omega) _).alloc (by simp; omega) _), ⟨Nat.le_refl _, by omega, by omega, by omega, by simp⟩, by go_simp, by go_simp, by go_simp, by go_simp, by go_simp, by go_simp, ⟨.slice none 0 0, by go_simp⟩, ⟨.slice none 0 0, by go_simp⟩, fun i => by go_simp, by first | (simp; done) | (simp; omega), by first | (simp; done) | (simp; omega), by simp⟩
  have hg0 := Aside0.mk gt
  clear gt
  generalize ((((w.alloc (Obj.cells #[Value.slice A n c, Value.slice B m d] 30)).alloc (Obj.cells #[Value.int IntKind.i64 ai, Value.int IntKind.i64 aK] 32)).alloc (Obj.cells #[Value.int IntKind.i64 bi, Value.int IntKind.i64 bK] 32)).alloc (Obj.cells #[Value.slice none 0 0, Value.slice none 0 0] 30)) = W1 at hg0 ⊢
  generalize hx3 : w.heap.size + 1 + 1 + 1 = b3 at hg0 ⊢
  generalize hx2 : w.heap.size + 1 + 1 = b2 at hg0 ⊢
  generalize hx1 : w.heap.size + 1 = b1 at hg0 ⊢
  generalize hx0 : w.heap.size = b0 at hg0 ⊢
  clear hx0 hx1 hx2 hx3
  have k0 := hg0.out.k0
  have k1 := hg0.out.k1
  have p0 := hg0.out.p0
  have p1 := hg0.out.p1
  have q0 := hg0.out.q0
  have q1 := hg0.out.q1
  obtain ⟨v0, r0⟩ := hg0.out.r0
  obtain ⟨v1, r1⟩ := hg0.out.r1
  have f3 := hg0.out.f3
  have z0 := hg0.out.z0
  have z2 := hg0.out.z2
  have z3 := hg0.out.z3
  go_wp2_with (first | (go_at_call 31; (with_reducible refine (rcheck_is A B n c m d S L t ai aK er _ ⟨h.out.below hg0.out.below⟩ hc).mono ?_); rintro e wc ⟨rfl, hbc⟩; have hg1 := Aside0.mk (hg0.out.step hbc); clear hbc; clear k0 k1 p0 p1 q0 q1 r0 r1 f3 z0 z2 z3; have k0 := hg1.out.k0; have k1 := hg1.out.k1; have p0 := hg1.out.p0; have p1 := hg1.out.p1; have q0 := hg1.out.q0; have q1 := hg1.out.q1; obtain ⟨v0, r0⟩ := hg1.out.r0; obtain ⟨v1, r1⟩ := hg1.out.r1; have f3 := hg1.out.f3; have z0 := hg1.out.z0; have z2 := hg1.out.z2; have z3 := hg1.out.z3))
  have hbw := (hg1.out.below.setCell (p := ⟨b3, 0, none⟩) (by have := hg1.out.lo; show _ ≤ b3; omega) (.slice A n c)).setCell (p := ⟨b3, 1, none⟩) (by have := hg1.out.lo; show _ ≤ b3; omega) (.slice B m d)
  have y0 : ((wc.setCell ⟨b3, 0, none⟩ (.slice A n c)).setCell ⟨b3, 1, none⟩ (.slice B m d)).cell? ⟨b3, 0, none⟩ = some (.slice A n c) := csi (i := 1) (j := 0) (by decide) (World.cell?_setCell_same _ _ _ r0)
  have y1 : ((wc.setCell ⟨b3, 0, none⟩ (.slice A n c)).setCell ⟨b3, 1, none⟩ (.slice B m d)).cell? ⟨b3, 1, none⟩ = some (.slice B m d) := World.cell?_setCell_same _ _ _ (csi (i := 0) (j := 1) (by decide) r1)
  have z8 : b3 < ((wc.setCell ⟨b3, 0, none⟩ (.slice A n c)).setCell ⟨b3, 1, none⟩ (.slice B m d)).heap.size := by simpa using z3
  generalize (wc.setCell ⟨b3, 0, none⟩ (.slice A n c)).setCell ⟨b3, 1, none⟩ (.slice B m d) = W8 at hbw y0 y1 z8 ⊢
  refine bodyPost_ret (v := .tuple #[.agg #[.slice A n c, .slice B m d], .int .i64 0, .int .i64 er]) (by simp [results, Try.results23, go_sem, y0, y1, cell_alloc_lt, z8]) rfl ⟨S, A, c, B, d, rfl, h.out.below ?_, fun _ hj => .inl hj, ?_⟩
  all_goals first | exact hbw | exact hbw.alloc hbw.size _

set_option maxHeartbeats 4000000 in
set_option maxRecDepth 100000 in
theorem rboth_b (n m : Nat) (A : Option Addr) (c : Nat) (B : Option Addr) (d : Nat) (L : LG) (t ai aK bi bK : Int) (S : Nat → Prop) (w : World) (h : Aside0 (LV S n m A c B d L w)) (ha : Aside0 (-9223372036854775808 ≤ aK ∧ aK ≤ 9223372036854775807)) (hb : Aside0 (-9223372036854775808 ≤ bK ∧ bK ≤ 9223372036854775807)) (L' : LG) (k er : Int) (hc : Hid (checkS n m t ai aK = 0)) (hc2 : Hid (checkS n m t bi bK = er)) (he : (er == 0) = false) (hL : L = L') (hk : 0 = k) :
    Calls Try.prog 23 #[.agg #[.slice A n c, .slice B m d], .int .i64 t, .agg #[.int .i64 ai, .int .i64 aK], .agg #[.int .i64 bi, .int .i64 bK]] w (Told S n m L' k er w) := by
  subst hL
  subst hk
  have he2 : (er != 0) = true := by simp [bne, he]
  go_enter Try.func23, Try.ntmps23
  go_upto_region 1 with (fail)
  have gt : GR w.heap.size (w.heap.size + 1) (w.heap.size + 1 + 1) (w.heap.size + 1 + 1 + 1) (.slice A n c) (.slice B m d) ai aK bi bK w ((((w.alloc (Obj.cells #[Value.slice A n c, Value.slice B m d] 30)).alloc (Obj.cells #[Value.int IntKind.i64 ai, Value.int IntKind.i64 aK] 32)).alloc (Obj.cells #[Value.int IntKind.i64 bi, Value.int IntKind.i64 bK] 32)).alloc (Obj.cells #[Value.slice none 0 0, Value.slice none 0 0] 30)) :=
    ⟨(((((Below.refl _ _).alloc (Nat.le_refl _) _).alloc (by simp) _).alloc (by simp; omega) _).alloc (by simp; omega) _), ⟨Nat.le_refl _, by omega, by omega, by omega, by simp⟩, by go_simp, by go_simp, by go_simp, by go_simp, by go_simp, by go_simp, ⟨.slice none 0 0, by go_simp⟩, ⟨.slice none 0 0, by go_simp⟩, fun i => by go_simp, by first | (simp; done) | (simp; omega), by first | (simp; done) | (simp; omega), by simp⟩
  have hg0 := Aside0.mk gt
  clear gt
  generalize ((((w.alloc (Obj.cells #[Value.slice A n c, Value.slice B m d] 30)).alloc (Obj.cells #[Value.int IntKind.i64 ai, Value.int IntKind.i64 aK] 32)).alloc (Obj.cells #[Value.int IntKind.i64 bi, Value.int IntKind.i64 bK] 32)).alloc (Obj.cells #[Value.slice none 0 0, Value.slice none 0 0] 30)) = W1 at hg0 ⊢
  generalize hx3 : w.heap.size + 1 + 1 + 1 = b3 at hg0 ⊢
  generalize hx2 : w.heap.size + 1 + 1 = b2 at hg0 ⊢
  generalize hx1 : w.heap.size + 1 = b1 at hg0 ⊢
  generalize hx0 : w.heap.size = b0 at hg0 ⊢
  clear hx0 hx1 hx2 hx3
  have k0 := hg0.out.k0
  have k1 := hg0.out.k1
  have p0 := hg0.out.p0
  have p1 := hg0.out.p1
  have q0 := hg0.out.q0
  have q1 := hg0.out.q1
  obtain ⟨v0, r0⟩ := hg0.out.r0
  obtain ⟨v1, r1⟩ := hg0.out.r1
  have f3 := hg0.out.f3
  have z0 := hg0.out.z0
  have z2 := hg0.out.z2
  have z3 := hg0.out.z3
  go_wp2_with (first | (go_at_call 31; (with_reducible refine (rcheck_is A B n c m d S L t ai aK 0 _ ⟨h.out.below hg0.out.below⟩ hc).mono ?_); rintro e wc ⟨rfl, hbc⟩; have hg1 := Aside0.mk (hg0.out.step hbc); clear hbc; clear k0 k1 p0 p1 q0 q1 r0 r1 f3 z0 z2 z3; have k0 := hg1.out.k0; have k1 := hg1.out.k1; have p0 := hg1.out.p0; have p1 := hg1.out.p1; have q0 := hg1.out.q0; have q1 := hg1.out.q1; obtain ⟨v0, r0⟩ := hg1.out.r0; obtain ⟨v1, r1⟩ := hg1.out.r1; have f3 := hg1.out.f3; have z0 := hg1.out.z0; have z2 := hg1.out.z2; have z3 := hg1.out.z3) | (go_at_call 31; (with_reducible refine (rcheck_is A B n c m d S L t bi bK er _ ⟨h.out.below hg1.out.below⟩ hc2).mono ?_); rintro e wd ⟨rfl, hbc⟩; have hg2 := Aside0.mk (hg1.out.step hbc); clear hbc; clear k0 k1 p0 p1 q0 q1 r0 r1 f3 z0 z2 z3; have k0 := hg2.out.k0; have k1 := hg2.out.k1; have p0 := hg2.out.p0; have p1 := hg2.out.p1; have q0 := hg2.out.q0; have q1 := hg2.out.q1; obtain ⟨v0, r0⟩ := hg2.out.r0; obtain ⟨v1, r1⟩ := hg2.out.r1; have f3 := hg2.out.f3; have z0 := hg2.out.z0; have z2 := hg2.out.z2; have z3 := hg2.out.z3))
  have hbw := (hg2.out.below.setCell (p := ⟨b3, 0, none⟩) (by have := hg2.out.lo; show _ ≤ b3; omega) (.slice A n c)).setCell (p := ⟨b3, 1, none⟩) (by have := hg2.out.lo; show _ ≤ b3; omega) (.slice B m d)
  have y0 : ((wd.setCell ⟨b3, 0, none⟩ (.slice A n c)).setCell ⟨b3, 1, none⟩ (.slice B m d)).cell? ⟨b3, 0, none⟩ = some (.slice A n c) := csi (i := 1) (j := 0) (by decide) (World.cell?_setCell_same _ _ _ r0)
  have y1 : ((wd.setCell ⟨b3, 0, none⟩ (.slice A n c)).setCell ⟨b3, 1, none⟩ (.slice B m d)).cell? ⟨b3, 1, none⟩ = some (.slice B m d) := World.cell?_setCell_same _ _ _ (csi (i := 0) (j := 1) (by decide) r1)
  have z8 : b3 < ((wd.setCell ⟨b3, 0, none⟩ (.slice A n c)).setCell ⟨b3, 1, none⟩ (.slice B m d)).heap.size := by simpa using z3
  generalize (wd.setCell ⟨b3, 0, none⟩ (.slice A n c)).setCell ⟨b3, 1, none⟩ (.slice B m d) = W8 at hbw y0 y1 z8 ⊢
  refine bodyPost_ret (v := .tuple #[.agg #[.slice A n c, .slice B m d], .int .i64 0, .int .i64 er]) (by simp [results, Try.results23, go_sem, y0, y1, cell_alloc_lt, z8]) rfl ⟨S, A, c, B, d, rfl, h.out.below ?_, fun _ hj => .inl hj, ?_⟩
  all_goals first | exact hbw | exact hbw.alloc hbw.size _

set_option maxHeartbeats 4000000 in
set_option maxRecDepth 100000 in
theorem rboth_c (n m : Nat) (A : Option Addr) (c : Nat) (B : Option Addr) (d : Nat) (L : LG) (t ai aK bi bK : Int) (S : Nat → Prop) (w : World) (h : Aside0 (LV S n m A c B d L w)) (ha : Aside0 (-9223372036854775808 ≤ aK ∧ aK ≤ 9223372036854775807)) (hb : Aside0 (-9223372036854775808 ≤ bK ∧ bK ≤ 9223372036854775807)) (L' : LG) (k er : Int) (hc : Hid (checkS n m t ai aK = 0)) (hc2 : Hid (checkS n m t bi bK = 0)) (LA LB : LG) (ka eA kb eB : Int) (hra : Hid (resS n m L t ai aK = (LA, ka, eA))) (hrb : Hid (resS n m LA t bi bK = (LB, kb, eB))) (hk1 : (ka == 0) = true) (hL : L = L') (hk : 0 = k) (her : 0 = er) :
    Calls Try.prog 23 #[.agg #[.slice A n c, .slice B m d], .int .i64 t, .agg #[.int .i64 ai, .int .i64 aK], .agg #[.int .i64 bi, .int .i64 bK]] w (Told S n m L' k er w) := by
  subst hL
  subst hk
  subst her
  go_enter Try.func23, Try.ntmps23
  go_upto_region 1 with (fail)
  have gt : GR w.heap.size (w.heap.size + 1) (w.heap.size + 1 + 1) (w.heap.size + 1 + 1 + 1) (.slice A n c) (.slice B m d) ai aK bi bK w ((((w.alloc (Obj.cells #[Value.slice A n c, Value.slice B m d] 30)).alloc (Obj.cells #[Value.int IntKind.i64 ai, Value.int IntKind.i64 aK] 32)).alloc (Obj.cells #[Value.int IntKind.i64 bi, Value.int IntKind.i64 bK] 32)).alloc (Obj.cells #[Value.slice none 0 0, Value.slice none 0 0] 30)) :=
    ⟨(((((Below.refl _ _).alloc (Nat.le_refl _) _).alloc (by simp) _).alloc (by simp; omega) _).alloc (by simp; omega) _), ⟨Nat.le_refl _, by omega, by omega, by omega, by simp⟩, by go_simp, by go_simp, by go_simp, by go_simp, by go_simp, by go_simp, ⟨.slice none 0 0, by go_simp⟩, ⟨.slice none 0 0, by go_simp⟩, fun i => by go_simp, by first | (simp; done) | (simp; omega), by first | (simp; done) | (simp; omega), by simp⟩
  have hg0 := Aside0.mk gt
  clear gt
  generalize ((((w.alloc (Obj.cells #[Value.slice A n c, Value.slice B m d] 30)).alloc (Obj.cells #[Value.int IntKind.i64 ai, Value.int IntKind.i64 aK] 32)).alloc (Obj.cells #[Value.int IntKind.i64 bi, Value.int IntKind.i64 bK] 32)).alloc (Obj.cells #[Value.slice none 0 0, Value.slice none 0 0] 30)) = W1 at hg0 ⊢
  generalize hx3 : w.heap.size + 1 + 1 + 1 = b3 at hg0 ⊢
  generalize hx2 : w.heap.size + 1 + 1 = b2 at hg0 ⊢
  generalize hx1 : w.heap.size + 1 = b1 at hg0 ⊢
  generalize hx0 : w.heap.size = b0 at hg0 ⊢
  clear hx0 hx1 hx2 hx3
  have k0 := hg0.out.k0
  have k1 := hg0.out.k1
  have p0 := hg0.out.p0
  have p1 := hg0.out.p1
  have q0 := hg0.out.q0
  have q1 := hg0.out.q1
  obtain ⟨v0, r0⟩ := hg0.out.r0
  obtain ⟨v1, r1⟩ := hg0.out.r1
  have f3 := hg0.out.f3
  have z0 := hg0.out.z0
  have z2 := hg0.out.z2
  have z3 := hg0.out.z3
  go_wp2_with (first | (go_at_call 31; (with_reducible refine (rcheck_is A B n c m d S L t ai aK 0 _ ⟨h.out.below hg0.out.below⟩ hc).mono ?_); rintro e wc ⟨rfl, hbc⟩; have hg1 := Aside0.mk (hg0.out.step hbc); clear hbc; clear k0 k1 p0 p1 q0 q1 r0 r1 f3 z0 z2 z3; have k0 := hg1.out.k0; have k1 := hg1.out.k1; have p0 := hg1.out.p0; have p1 := hg1.out.p1; have q0 := hg1.out.q0; have q1 := hg1.out.q1; obtain ⟨v0, r0⟩ := hg1.out.r0; obtain ⟨v1, r1⟩ := hg1.out.r1; have f3 := hg1.out.f3; have z0 := hg1.out.z0; have z2 := hg1.out.z2; have z3 := hg1.out.z3) | (go_at_call 31; (with_reducible refine (rcheck_is A B n c m d S L t bi bK 0 _ ⟨h.out.below hg1.out.below⟩ hc2).mono ?_); rintro e wd ⟨rfl, hbc⟩; have hg2 := Aside0.mk (hg1.out.step hbc); clear hbc; clear k0 k1 p0 p1 q0 q1 r0 r1 f3 z0 z2 z3; have k0 := hg2.out.k0; have k1 := hg2.out.k1; have p0 := hg2.out.p0; have p1 := hg2.out.p1; have q0 := hg2.out.q0; have q1 := hg2.out.q1; obtain ⟨v0, r0⟩ := hg2.out.r0; obtain ⟨v1, r1⟩ := hg2.out.r1; have f3 := hg2.out.f3; have z0 := hg2.out.z0; have z2 := hg2.out.z2; have z3 := hg2.out.z3) | (go_at_call 14; (with_reducible refine (rreserve_is n m A c B d L t ai aK S _ ⟨h.out.below hg2.out.below⟩ ha LA ka eA hra.out).mono ?_); rintro e w1 ⟨S1, A1, c1, B1, d1, rfl, hl1, hS1, hbb1⟩; have hg3 := Aside0.mk (hg2.out.step (below_step hbb1 ((Below.refl w1.heap.size w1).alloc (Nat.le_refl _) (.cells #[.slice A1 n c1, .slice B1 m d1] 30)))); have hs1 := Aside0.mk hS1; have hl1 := Aside0.mk (hl1.below ((Below.refl w1.heap.size w1).alloc (Nat.le_refl _) (.cells #[.slice A1 n c1, .slice B1 m d1] 30))); have hw1 := Aside0.mk (hg2.out.step hbb1); clear hbb1 hS1; clear k0 k1 p0 p1 q0 q1 r0 r1 f3 z0 z2 z3; have k0 := hw1.out.k0; have k1 := hw1.out.k1; have q0 := hw1.out.q0; have q1 := hw1.out.q1; have z0 := hw1.out.z0; have z2 := hw1.out.z2; have z3 := hw1.out.z3) | (go_at_call 14; (with_reducible refine (rreserve_is n m A1 c1 B1 d1 LA t bi bK S1 _ hl1 hb LB kb eB hrb.out).mono ?_); rintro e w2 ⟨S2, A2, c2, B2, d2, rfl, hl2, hS2, hbb2⟩; have hg4 := Aside0.mk (hg3.out.step hbb2); have hs2 := Aside0.mk hS2; have hl2 := Aside0.mk hl2; clear hbb2 hS2 k0 k1 q0 q1 z0 z2 z3; have k0 := hg4.out.k0; have k1 := hg4.out.k1; have p0 := hg4.out.p0; have p1 := hg4.out.p1; have q0 := hg4.out.q0; have q1 := hg4.out.q1; obtain ⟨v0, r0⟩ := hg4.out.r0; obtain ⟨v1, r1⟩ := hg4.out.r1; have f3 := hg4.out.f3; have z0 := hg4.out.z0; have z2 := hg4.out.z2; have z3 := hg4.out.z3))
  have hbw := (hg4.out.below.setCell (p := ⟨b3, 0, none⟩) (by have := hg4.out.lo; show _ ≤ b3; omega) (.slice A n c)).setCell (p := ⟨b3, 1, none⟩) (by have := hg4.out.lo; show _ ≤ b3; omega) (.slice B m d)
  have y0 : ((w2.setCell ⟨b3, 0, none⟩ (.slice A n c)).setCell ⟨b3, 1, none⟩ (.slice B m d)).cell? ⟨b3, 0, none⟩ = some (.slice A n c) := csi (i := 1) (j := 0) (by decide) (World.cell?_setCell_same _ _ _ r0)
  have y1 : ((w2.setCell ⟨b3, 0, none⟩ (.slice A n c)).setCell ⟨b3, 1, none⟩ (.slice B m d)).cell? ⟨b3, 1, none⟩ = some (.slice B m d) := World.cell?_setCell_same _ _ _ (csi (i := 0) (j := 1) (by decide) r1)
  have z8 : b3 < ((w2.setCell ⟨b3, 0, none⟩ (.slice A n c)).setCell ⟨b3, 1, none⟩ (.slice B m d)).heap.size := by simpa using z3
  generalize (w2.setCell ⟨b3, 0, none⟩ (.slice A n c)).setCell ⟨b3, 1, none⟩ (.slice B m d) = W8 at hbw y0 y1 z8 ⊢
  refine bodyPost_ret (v := .tuple #[.agg #[.slice A n c, .slice B m d], .int .i64 0, .int .i64 0]) (by simp [results, Try.results23, go_sem, y0, y1, cell_alloc_lt, z8]) rfl ⟨S, A, c, B, d, rfl, h.out.below ?_, fun _ hj => .inl hj, ?_⟩
  all_goals first | exact hbw | exact hbw.alloc hbw.size _

set_option maxHeartbeats 4000000 in
set_option maxRecDepth 100000 in
theorem rboth_d (n m : Nat) (A : Option Addr) (c : Nat) (B : Option Addr) (d : Nat) (L : LG) (t ai aK bi bK : Int) (S : Nat → Prop) (w : World) (h : Aside0 (LV S n m A c B d L w)) (ha : Aside0 (-9223372036854775808 ≤ aK ∧ aK ≤ 9223372036854775807)) (hb : Aside0 (-9223372036854775808 ≤ bK ∧ bK ≤ 9223372036854775807)) (L' : LG) (k er : Int) (hc : Hid (checkS n m t ai aK = 0)) (hc2 : Hid (checkS n m t bi bK = 0)) (LA LB : LG) (ka eA kb eB : Int) (hra : Hid (resS n m L t ai aK = (LA, ka, eA))) (hrb : Hid (resS n m LA t bi bK = (LB, kb, eB))) (hk1 : (ka == 0) = false) (hk2 : (kb == 0) = true) (hL : L = L') (hk : 0 = k) (her : 0 = er) :
    Calls Try.prog 23 #[.agg #[.slice A n c, .slice B m d], .int .i64 t, .agg #[.int .i64 ai, .int .i64 aK], .agg #[.int .i64 bi, .int .i64 bK]] w (Told S n m L' k er w) := by
  subst hL
  subst hk
  subst her
  go_enter Try.func23, Try.ntmps23
  go_upto_region 1 with (fail)
  have gt : GR w.heap.size (w.heap.size + 1) (w.heap.size + 1 + 1) (w.heap.size + 1 + 1 + 1) (.slice A n c) (.slice B m d) ai aK bi bK w ((((w.alloc (Obj.cells #[Value.slice A n c, Value.slice B m d] 30)).alloc (Obj.cells #[Value.int IntKind.i64 ai, Value.int IntKind.i64 aK] 32)).alloc (Obj.cells #[Value.int IntKind.i64 bi, Value.int IntKind.i64 bK] 32)).alloc (Obj.cells #[Value.slice none 0 0, Value.slice none 0 0] 30)) :=
    ⟨(((((Below.refl _ _).alloc (Nat.le_refl _) _).alloc (by simp) _).alloc (by simp; omega) _).alloc (by simp; omega) _), ⟨Nat.le_refl _, by omega, by omega, by omega, by simp⟩, by go_simp, by go_simp, by go_simp, by go_simp, by go_simp, by go_simp, ⟨.slice none 0 0, by go_simp⟩, ⟨.slice none 0 0, by go_simp⟩, fun i => by go_simp, by first | (simp; done) | (simp; omega), by first | (simp; done) | (simp; omega), by simp⟩
  have hg0 := Aside0.mk gt
  clear gt
  generalize ((((w.alloc (Obj.cells #[Value.slice A n c, Value.slice B m d] 30)).alloc (Obj.cells #[Value.int IntKind.i64 ai, Value.int IntKind.i64 aK] 32)).alloc (Obj.cells #[Value.int IntKind.i64 bi, Value.int IntKind.i64 bK] 32)).alloc (Obj.cells #[Value.slice none 0 0, Value.slice none 0 0] 30)) = W1 at hg0 ⊢
  generalize hx3 : w.heap.size + 1 + 1 + 1 = b3 at hg0 ⊢
  generalize hx2 : w.heap.size + 1 + 1 = b2 at hg0 ⊢
  generalize hx1 : w.heap.size + 1 = b1 at hg0 ⊢
  generalize hx0 : w.heap.size = b0 at hg0 ⊢
  clear hx0 hx1 hx2 hx3
  have k0 := hg0.out.k0
  have k1 := hg0.out.k1
  have p0 := hg0.out.p0
  have p1 := hg0.out.p1
  have q0 := hg0.out.q0
  have q1 := hg0.out.q1
  obtain ⟨v0, r0⟩ := hg0.out.r0
  obtain ⟨v1, r1⟩ := hg0.out.r1
  have f3 := hg0.out.f3
  have z0 := hg0.out.z0
  have z2 := hg0.out.z2
  have z3 := hg0.out.z3
  go_wp2_with (first | (go_at_call 31; (with_reducible refine (rcheck_is A B n c m d S L t ai aK 0 _ ⟨h.out.below hg0.out.below⟩ hc).mono ?_); rintro e wc ⟨rfl, hbc⟩; have hg1 := Aside0.mk (hg0.out.step hbc); clear hbc; clear k0 k1 p0 p1 q0 q1 r0 r1 f3 z0 z2 z3; have k0 := hg1.out.k0; have k1 := hg1.out.k1; have p0 := hg1.out.p0; have p1 := hg1.out.p1; have q0 := hg1.out.q0; have q1 := hg1.out.q1; obtain ⟨v0, r0⟩ := hg1.out.r0; obtain ⟨v1, r1⟩ := hg1.out.r1; have f3 := hg1.out.f3; have z0 := hg1.out.z0; have z2 := hg1.out.z2; have z3 := hg1.out.z3) | (go_at_call 31; (with_reducible refine (rcheck_is A B n c m d S L t bi bK 0 _ ⟨h.out.below hg1.out.below⟩ hc2).mono ?_); rintro e wd ⟨rfl, hbc⟩; have hg2 := Aside0.mk (hg1.out.step hbc); clear hbc; clear k0 k1 p0 p1 q0 q1 r0 r1 f3 z0 z2 z3; have k0 := hg2.out.k0; have k1 := hg2.out.k1; have p0 := hg2.out.p0; have p1 := hg2.out.p1; have q0 := hg2.out.q0; have q1 := hg2.out.q1; obtain ⟨v0, r0⟩ := hg2.out.r0; obtain ⟨v1, r1⟩ := hg2.out.r1; have f3 := hg2.out.f3; have z0 := hg2.out.z0; have z2 := hg2.out.z2; have z3 := hg2.out.z3) | (go_at_call 14; (with_reducible refine (rreserve_is n m A c B d L t ai aK S _ ⟨h.out.below hg2.out.below⟩ ha LA ka eA hra.out).mono ?_); rintro e w1 ⟨S1, A1, c1, B1, d1, rfl, hl1, hS1, hbb1⟩; have hg3 := Aside0.mk (hg2.out.step (below_step hbb1 ((Below.refl w1.heap.size w1).alloc (Nat.le_refl _) (.cells #[.slice A1 n c1, .slice B1 m d1] 30)))); have hs1 := Aside0.mk hS1; have hl1 := Aside0.mk (hl1.below ((Below.refl w1.heap.size w1).alloc (Nat.le_refl _) (.cells #[.slice A1 n c1, .slice B1 m d1] 30))); have hw1 := Aside0.mk (hg2.out.step hbb1); clear hbb1 hS1; clear k0 k1 p0 p1 q0 q1 r0 r1 f3 z0 z2 z3; have k0 := hw1.out.k0; have k1 := hw1.out.k1; have q0 := hw1.out.q0; have q1 := hw1.out.q1; have z0 := hw1.out.z0; have z2 := hw1.out.z2; have z3 := hw1.out.z3) | (go_at_call 14; (with_reducible refine (rreserve_is n m A1 c1 B1 d1 LA t bi bK S1 _ hl1 hb LB kb eB hrb.out).mono ?_); rintro e w2 ⟨S2, A2, c2, B2, d2, rfl, hl2, hS2, hbb2⟩; have hg4 := Aside0.mk (hg3.out.step hbb2); have hs2 := Aside0.mk hS2; have hl2 := Aside0.mk hl2; clear hbb2 hS2 k0 k1 q0 q1 z0 z2 z3; have k0 := hg4.out.k0; have k1 := hg4.out.k1; have p0 := hg4.out.p0; have p1 := hg4.out.p1; have q0 := hg4.out.q0; have q1 := hg4.out.q1; obtain ⟨v0, r0⟩ := hg4.out.r0; obtain ⟨v1, r1⟩ := hg4.out.r1; have f3 := hg4.out.f3; have z0 := hg4.out.z0; have z2 := hg4.out.z2; have z3 := hg4.out.z3))
  have hbw := (hg4.out.below.setCell (p := ⟨b3, 0, none⟩) (by have := hg4.out.lo; show _ ≤ b3; omega) (.slice A n c)).setCell (p := ⟨b3, 1, none⟩) (by have := hg4.out.lo; show _ ≤ b3; omega) (.slice B m d)
  have y0 : ((w2.setCell ⟨b3, 0, none⟩ (.slice A n c)).setCell ⟨b3, 1, none⟩ (.slice B m d)).cell? ⟨b3, 0, none⟩ = some (.slice A n c) := csi (i := 1) (j := 0) (by decide) (World.cell?_setCell_same _ _ _ r0)
  have y1 : ((w2.setCell ⟨b3, 0, none⟩ (.slice A n c)).setCell ⟨b3, 1, none⟩ (.slice B m d)).cell? ⟨b3, 1, none⟩ = some (.slice B m d) := World.cell?_setCell_same _ _ _ (csi (i := 0) (j := 1) (by decide) r1)
  have z8 : b3 < ((w2.setCell ⟨b3, 0, none⟩ (.slice A n c)).setCell ⟨b3, 1, none⟩ (.slice B m d)).heap.size := by simpa using z3
  generalize (w2.setCell ⟨b3, 0, none⟩ (.slice A n c)).setCell ⟨b3, 1, none⟩ (.slice B m d) = W8 at hbw y0 y1 z8 ⊢
  refine bodyPost_ret (v := .tuple #[.agg #[.slice A n c, .slice B m d], .int .i64 0, .int .i64 0]) (by simp [results, Try.results23, go_sem, y0, y1, cell_alloc_lt, z8]) rfl ⟨S, A, c, B, d, rfl, h.out.below ?_, fun _ hj => .inl hj, ?_⟩
  all_goals first | exact hbw | exact hbw.alloc hbw.size _

set_option maxHeartbeats 4000000 in
set_option maxRecDepth 100000 in
theorem rboth_ok (n m : Nat) (A : Option Addr) (c : Nat) (B : Option Addr) (d : Nat) (L : LG) (t ai aK bi bK : Int) (S : Nat → Prop) (w : World) (h : Aside0 (LV S n m A c B d L w)) (ha : Aside0 (-9223372036854775808 ≤ aK ∧ aK ≤ 9223372036854775807)) (hb : Aside0 (-9223372036854775808 ≤ bK ∧ bK ≤ 9223372036854775807)) (L' : LG) (k er : Int) (hc : Hid (checkS n m t ai aK = 0)) (hc2 : Hid (checkS n m t bi bK = 0)) (LA LB : LG) (ka eA kb eB : Int) (hra : Hid (resS n m L t ai aK = (LA, ka, eA))) (hrb : Hid (resS n m LA t bi bK = (LB, kb, eB))) (hk1 : (ka == 0) = false) (hk2 : (kb == 0) = false) (hwk : wrap64 (ka + kb) = ka + kb) (hL : LB = L') (hk : ka + kb = k) (her : 0 = er) :
    Calls Try.prog 23 #[.agg #[.slice A n c, .slice B m d], .int .i64 t, .agg #[.int .i64 ai, .int .i64 aK], .agg #[.int .i64 bi, .int .i64 bK]] w (Told S n m L' k er w) := by
  subst hL
  subst hk
  subst her
  have HWK := Aside0.mk hwk
  clear hwk
  go_enter Try.func23, Try.ntmps23
  go_upto_region 1 with (fail)
  have gt : GR w.heap.size (w.heap.size + 1) (w.heap.size + 1 + 1) (w.heap.size + 1 + 1 + 1) (.slice A n c) (.slice B m d) ai aK bi bK w ((((w.alloc (Obj.cells #[Value.slice A n c, Value.slice B m d] 30)).alloc (Obj.cells #[Value.int IntKind.i64 ai, Value.int IntKind.i64 aK] 32)).alloc (Obj.cells #[Value.int IntKind.i64 bi, Value.int IntKind.i64 bK] 32)).alloc (Obj.cells #[Value.slice none 0 0, Value.slice none 0 0] 30)) :=
    ⟨(((((Below.refl _ _).alloc (Nat.le_refl _) _).alloc (by simp) _).alloc (by simp; omega) _).alloc (by simp; omega) _), ⟨Nat.le_refl _, by omega, by omega, by omega, by simp⟩, by go_simp, by go_simp, by go_simp, by go_simp, by go_simp, by go_simp, ⟨.slice none 0 0, by go_simp⟩, ⟨.slice none 0 0, by go_simp⟩, fun i => by go_simp, by first | (simp; done) | (simp; omega), by first | (simp; done) | (simp; omega), by simp⟩
  have hg0 := Aside0.mk gt
  clear gt
  generalize ((((w.alloc (Obj.cells #[Value.slice A n c, Value.slice B m d] 30)).alloc (Obj.cells #[Value.int IntKind.i64 ai, Value.int IntKind.i64 aK] 32)).alloc (Obj.cells #[Value.int IntKind.i64 bi, Value.int IntKind.i64 bK] 32)).alloc (Obj.cells #[Value.slice none 0 0, Value.slice none 0 0] 30)) = W1 at hg0 ⊢
  generalize hx3 : w.heap.size + 1 + 1 + 1 = b3 at hg0 ⊢
  generalize hx2 : w.heap.size + 1 + 1 = b2 at hg0 ⊢
  generalize hx1 : w.heap.size + 1 = b1 at hg0 ⊢
  generalize hx0 : w.heap.size = b0 at hg0 ⊢
  clear hx0 hx1 hx2 hx3
  have k0 := hg0.out.k0
  have k1 := hg0.out.k1
  have p0 := hg0.out.p0
  have p1 := hg0.out.p1
  have q0 := hg0.out.q0
  have q1 := hg0.out.q1
  obtain ⟨v0, r0⟩ := hg0.out.r0
  obtain ⟨v1, r1⟩ := hg0.out.r1
  have f3 := hg0.out.f3
  have z0 := hg0.out.z0
  have z2 := hg0.out.z2
  have z3 := hg0.out.z3
  go_wp2_with (first | (go_at_call 31; (with_reducible refine (rcheck_is A B n c m d S L t ai aK 0 _ ⟨h.out.below hg0.out.below⟩ hc).mono ?_); rintro e wc ⟨rfl, hbc⟩; have hg1 := Aside0.mk (hg0.out.step hbc); clear hbc; clear k0 k1 p0 p1 q0 q1 r0 r1 f3 z0 z2 z3; have k0 := hg1.out.k0; have k1 := hg1.out.k1; have p0 := hg1.out.p0; have p1 := hg1.out.p1; have q0 := hg1.out.q0; have q1 := hg1.out.q1; obtain ⟨v0, r0⟩ := hg1.out.r0; obtain ⟨v1, r1⟩ := hg1.out.r1; have f3 := hg1.out.f3; have z0 := hg1.out.z0; have z2 := hg1.out.z2; have z3 := hg1.out.z3) | (go_at_call 31; (with_reducible refine (rcheck_is A B n c m d S L t bi bK 0 _ ⟨h.out.below hg1.out.below⟩ hc2).mono ?_); rintro e wd ⟨rfl, hbc⟩; have hg2 := Aside0.mk (hg1.out.step hbc); clear hbc; clear k0 k1 p0 p1 q0 q1 r0 r1 f3 z0 z2 z3; have k0 := hg2.out.k0; have k1 := hg2.out.k1; have p0 := hg2.out.p0; have p1 := hg2.out.p1; have q0 := hg2.out.q0; have q1 := hg2.out.q1; obtain ⟨v0, r0⟩ := hg2.out.r0; obtain ⟨v1, r1⟩ := hg2.out.r1; have f3 := hg2.out.f3; have z0 := hg2.out.z0; have z2 := hg2.out.z2; have z3 := hg2.out.z3) | (go_at_call 14; (with_reducible refine (rreserve_is n m A c B d L t ai aK S _ ⟨h.out.below hg2.out.below⟩ ha LA ka eA hra.out).mono ?_); rintro e w1 ⟨S1, A1, c1, B1, d1, rfl, hl1, hS1, hbb1⟩; have hg3 := Aside0.mk (hg2.out.step (below_step hbb1 ((Below.refl w1.heap.size w1).alloc (Nat.le_refl _) (.cells #[.slice A1 n c1, .slice B1 m d1] 30)))); have hs1 := Aside0.mk hS1; have hl1 := Aside0.mk (hl1.below ((Below.refl w1.heap.size w1).alloc (Nat.le_refl _) (.cells #[.slice A1 n c1, .slice B1 m d1] 30))); have hw1 := Aside0.mk (hg2.out.step hbb1); clear hbb1 hS1; clear k0 k1 p0 p1 q0 q1 r0 r1 f3 z0 z2 z3; have k0 := hw1.out.k0; have k1 := hw1.out.k1; have q0 := hw1.out.q0; have q1 := hw1.out.q1; have z0 := hw1.out.z0; have z2 := hw1.out.z2; have z3 := hw1.out.z3) | (go_at_call 14; (with_reducible refine (rreserve_is n m A1 c1 B1 d1 LA t bi bK S1 _ hl1 hb LB kb eB hrb.out).mono ?_); rintro e w2 ⟨S2, A2, c2, B2, d2, rfl, hl2, hS2, hbb2⟩; have hg4 := Aside0.mk (hg3.out.step hbb2); have hs2 := Aside0.mk hS2; have hl2 := Aside0.mk hl2; clear hbb2 hS2 k0 k1 q0 q1 z0 z2 z3; have k0 := hg4.out.k0; have k1 := hg4.out.k1; have p0 := hg4.out.p0; have p1 := hg4.out.p1; have q0 := hg4.out.q0; have q1 := hg4.out.q1; obtain ⟨v0, r0⟩ := hg4.out.r0; obtain ⟨v1, r1⟩ := hg4.out.r1; have f3 := hg4.out.f3; have z0 := hg4.out.z0; have z2 := hg4.out.z2; have z3 := hg4.out.z3))
  have hn2 : ¬ S2 b3 := fun hj => by
    have hlo := hw1.out.lo
    have hz := hg2.out.lo
    rcases hs2.out b3 hj with h1 | h1
    · rcases hs1.out b3 h1 with h2 | h2
      · have := h.out.sz b3 h2; omega
      · omega
    · simp only [World.size_alloc] at h1; omega
  have hS2 : ∀ j, S2 j → S j ∨ w.heap.size ≤ j := fun j hj => by
    have hz := hw1.out.below.size
    have hy := hg2.out.below.size
    rcases hs2.out j hj with h1 | h1
    · rcases hs1.out j h1 with h2 | h2
      · exact .inl h2
      · exact .inr (by omega)
    · simp only [World.size_alloc] at h1; exact .inr (by omega)
  have hbw := (hg4.out.below.setCell (p := ⟨b3, 0, none⟩) (by have := hg4.out.lo; show _ ≤ b3; omega) (.slice A2 n c2)).setCell (p := ⟨b3, 1, none⟩) (by have := hg4.out.lo; show _ ≤ b3; omega) (.slice B2 m d2)
  have hlw := (hl2.out.store (i := 0) hn2 (.slice A2 n c2)).store (i := 1) hn2 (.slice B2 m d2)
  have y0 : ((w2.setCell ⟨b3, 0, none⟩ (.slice A2 n c2)).setCell ⟨b3, 1, none⟩ (.slice B2 m d2)).cell? ⟨b3, 0, none⟩ = some (.slice A2 n c2) := csi (i := 1) (j := 0) (by decide) (World.cell?_setCell_same _ _ _ r0)
  have y1 : ((w2.setCell ⟨b3, 0, none⟩ (.slice A2 n c2)).setCell ⟨b3, 1, none⟩ (.slice B2 m d2)).cell? ⟨b3, 1, none⟩ = some (.slice B2 m d2) := World.cell?_setCell_same _ _ _ (csi (i := 0) (j := 1) (by decide) r1)
  have z8 : b3 < ((w2.setCell ⟨b3, 0, none⟩ (.slice A2 n c2)).setCell ⟨b3, 1, none⟩ (.slice B2 m d2)).heap.size := by simpa using z3
  generalize (w2.setCell ⟨b3, 0, none⟩ (.slice A2 n c2)).setCell ⟨b3, 1, none⟩ (.slice B2 m d2) = W8 at hbw hlw y0 y1 z8 ⊢
  refine bodyPost_ret (v := .tuple #[.agg #[.slice A2 n c2, .slice B2 m d2], .int .i64 (ka + kb), .int .i64 0]) (by simp [results, Try.results23, go_sem, y0, y1, cell_alloc_lt, z8, HWK.out]) rfl ⟨S2, A2, c2, B2, d2, rfl, ?_, hS2, hbw.alloc hbw.size _⟩
  exact hlw.below ((Below.refl _ _).alloc (Nat.le_refl _) _)

theorem rboth_is (n m : Nat) (A : Option Addr) (c : Nat) (B : Option Addr) (d : Nat) (L : LG) (t ai aK bi bK : Int) (S : Nat → Prop) (w : World) (h : Aside0 (LV S n m A c B d L w)) (ha : Aside0 (-9223372036854775808 ≤ aK ∧ aK ≤ 9223372036854775807)) (hb : Aside0 (-9223372036854775808 ≤ bK ∧ bK ≤ 9223372036854775807)) (L' : LG) (k er : Int) (hs : Hid (bothS n m L t ai aK bi bK = (L', k, er))) :
    Calls Try.prog 23 #[.agg #[.slice A n c, .slice B m d], .int .i64 t, .agg #[.int .i64 ai, .int .i64 aK], .agg #[.int .i64 bi, .int .i64 bK]] w (Told S n m L' k er w) := by
  have hbo := hs.out
  unfold bothS at hbo
  by_cases h1 : checkS n m t ai aK = 0
  · rw [if_pos h1] at hbo
    by_cases h2 : checkS n m t bi bK = 0
    · rw [if_pos h2] at hbo
      obtain ⟨⟨LA, ka, eA⟩, hra⟩ : ∃ r, resS n m L t ai aK = r := ⟨_, rfl⟩
      obtain ⟨⟨LB, kb, eB⟩, hrb⟩ : ∃ r, resS n m LA t bi bK = r := ⟨_, rfl⟩
      rw [hra] at hbo
      dsimp only at hbo
      by_cases h3 : ka = 0
      · rw [if_pos h3] at hbo
        simp only [Prod.mk.injEq] at hbo
        exact rboth_c n m A c B d L t ai aK bi bK S w h ha hb L' k er h1 h2 LA LB ka eA kb eB hra hrb (by simpa using h3) hbo.1 hbo.2.1 hbo.2.2
      · rw [if_neg h3, hrb] at hbo
        dsimp only at hbo
        have l1 := resS_le hra
        have l2 := resS_le hrb
        by_cases h4 : 0 < kb
        · rw [if_pos h4] at hbo
          simp only [Prod.mk.injEq] at hbo
          exact rboth_ok n m A c B d L t ai aK bi bK S w h ha hb L' k er h1 h2 LA LB ka eA kb eB hra hrb (by simpa using h3) (by simp; omega) (by unfold wrap64; omega) hbo.1 hbo.2.1 hbo.2.2
        · rw [if_neg h4] at hbo
          simp only [Prod.mk.injEq] at hbo
          exact rboth_d n m A c B d L t ai aK bi bK S w h ha hb L' k er h1 h2 LA LB ka eA kb eB hra hrb (by simpa using h3) (by simp; omega) hbo.1 hbo.2.1 hbo.2.2
    · rw [if_neg h2] at hbo
      simp only [Prod.mk.injEq] at hbo
      exact rboth_b n m A c B d L t ai aK bi bK S w h ha hb L' k er h1 hbo.2.2 (by rw [← hbo.2.2]; simpa using h2) hbo.1 hbo.2.1
  · rw [if_neg h1] at hbo
    simp only [Prod.mk.injEq] at hbo
    exact rboth_a n m A c B d L t ai aK bi bK S w h ha hb L' k er hbo.2.2 (by rw [← hbo.2.2]; simpa using h1) hbo.1 hbo.2.1

end Go.Proofs.Ytlgoincnopfnjaa.Led
