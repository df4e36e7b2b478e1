/- The program's Both. -/
import Derived.Test.YtlgoincnopfnjaaLedF
namespace Go.Proofs.Ytlgoincnopfnjaa.Led
open Go Go.RowKit Go.Proofs.YtlgoincnopfnjaaW.PrintWords Go.Proofs.YtlgoincnopfnjaaW.PrintMore Go.Proofs.YtlgoincnopfnjaaW.PrintLast
set_option linter.unusedSimpArgs false
set_option linter.unusedVariables false
attribute [local go_sem] max2_int min2_int max_two min_two eqA27
def bothS (n m : Nat) (L : LG) (t ai aK bi bK : Int) : LG × Int × Int :=
  if checkS n m t ai aK = 0 then
    if checkS n m t bi bK = 0 then
      if (resS n m L t ai aK).2.1 = 0 then (L, 0, 0)
      else if 0 < (resS n m (resS n m L t ai aK).1 t bi bK).2.1 then ((resS n m (resS n m L t ai aK).1 t bi bK).1, (resS n m L t ai aK).2.1 + (resS n m (resS n m L t ai aK).1 t bi bK).2.1, 0)
      else (L, 0, 0)
    else (L, 0, checkS n m t bi bK)
  else (L, 0, checkS n m t ai aK)
theorem cell_alloc_lt {w : World} {o : Obj} {b i : Nat} (h : b < w.heap.size) : (w.alloc o).cell? ⟨b, i, none⟩ = w.cell? ⟨b, i, none⟩ := ((Below.refl w.heap.size w).alloc (Nat.le_refl _) o).cell (p := ⟨b, i, none⟩) h
theorem resS_le {n m : Nat} {L L' : LG} {t item q k er : Int} (h : resS n m L t item q = (L', k, er)) : 0 ≤ k ∧ k ≤ 1048576 := by
  unfold resS at h
  by_cases hc : checkS n m t item q = 0
  · have hb := (checkS_zero hc).2
    rw [if_pos hc] at h
    by_cases hlt : rd L.hv item < q
    · rw [if_pos hlt] at h; simp only [Prod.mk.injEq] at h; omega
    · rw [if_neg hlt] at h; simp only [Prod.mk.injEq] at h; omega
  · rw [if_neg hc] at h; simp only [Prod.mk.injEq] at h; omega
/-- The boxes of Both. -/
structure GT (b0 b1 b2 b3 b4 : Nat) (u0 u1 : Value) (ai aK bi bK : Int) (w w' : World) : Prop where
  below : Below w.heap.size w w'
  lo : w.heap.size ≤ b0 ∧ b0 < b1 ∧ b1 < b2 ∧ b2 < b3 ∧ b3 < b4 ∧ b4 < w'.heap.size
  k0 : w'.cell? ⟨b0, 0, none⟩ = some u0
  k1 : w'.cell? ⟨b0, 1, none⟩ = some u1
  p0 : w'.cell? ⟨b1, 0, none⟩ = some (.int .i64 ai)
  p1 : w'.cell? ⟨b1, 1, none⟩ = some (.int .i64 aK)
  q0 : w'.cell? ⟨b2, 0, none⟩ = some (.int .i64 bi)
  q1 : w'.cell? ⟨b2, 1, none⟩ = some (.int .i64 bK)
  r0 : ∃ v, w'.cell? ⟨b3, 0, none⟩ = some v
  r1 : ∃ v, w'.cell? ⟨b3, 1, none⟩ = some v
  f3 : ∀ i, w'.frozen? ⟨b3, i, none⟩ = false
  s0 : w'.cell? ⟨b4, 0, none⟩ = some (.int .i64 ai)
  s1 : w'.cell? ⟨b4, 1, none⟩ = some (.int .i64 aK)
  s2 : w'.cell? ⟨b4, 2, none⟩ = some (.int .i64 bi)
  s3 : w'.cell? ⟨b4, 3, none⟩ = some (.int .i64 bK)
theorem GT.step {b0 b1 b2 b3 b4 : Nat} {u0 u1 : Value} {ai aK bi bK : Int} {w w' w2 : World} (h : GT b0 b1 b2 b3 b4 u0 u1 ai aK bi bK w w') (hb : Below w'.heap.size w' w2) : GT b0 b1 b2 b3 b4 u0 u1 ai aK bi bK w w2 := by
  obtain ⟨h1, h2, h3, h4, h5, h6⟩ := h.lo
  obtain ⟨v0, e0⟩ := h.r0
  obtain ⟨v1, e1⟩ := h.r1
  have c : ∀ {b i : Nat} {v : Value}, b ≤ b4 → w'.cell? ⟨b, i, none⟩ = some v → w2.cell? ⟨b, i, none⟩ = some v := fun {b i v} hle hc => (hb.cell (p := ⟨b, i, none⟩) (by show b < _; omega)).trans hc
  exact ⟨below_step h.below hb, ⟨h1, h2, h3, h4, h5, Nat.lt_of_lt_of_le h6 hb.size⟩, c (by omega) h.k0, c (by omega) h.k1, c (by omega) h.p0, c (by omega) h.p1, c (by omega) h.q0, c (by omega) h.q1, ⟨v0, c (by omega) e0⟩, ⟨v1, c (by omega) e1⟩,
    fun i => (hb.frozen (p := ⟨b3, i, none⟩) (by show b3 < _; omega)).trans (h.f3 i), c (by omega) h.s0, c (by omega) h.s1, c (by omega) h.s2, c (by omega) h.s3⟩
theorem lt0 {b0 b1 b2 b3 b4 : Nat} {u0 u1 : Value} {ai aK bi bK : Int} {w w' : World} (h : GT b0 b1 b2 b3 b4 u0 u1 ai aK bi bK w w') : b0 < w'.heap.size := by have := h.lo; omega
theorem lt2 {b0 b1 b2 b3 b4 : Nat} {u0 u1 : Value} {ai aK bi bK : Int} {w w' : World} (h : GT b0 b1 b2 b3 b4 u0 u1 ai aK bi bK w w') : b2 < w'.heap.size := by have := h.lo; omega
theorem lt3 {b0 b1 b2 b3 b4 : Nat} {u0 u1 : Value} {ai aK bi bK : Int} {w w' : World} (h : GT b0 b1 b2 b3 b4 u0 u1 ai aK bi bK w w') : b3 < w'.heap.size := by have := h.lo; omega
set_option maxHeartbeats 4000000 in
set_option maxRecDepth 100000 in
theorem both_is (n m : Nat) (A : Option Addr) (c : Nat) (B : Option Addr) (d : Nat) (L : LG) (t ai aK bi bK : Int) (S : Nat → Prop) (w : World) (h : Aside0 (LV S n m A c B d L w)) (ha : Aside0 (-9223372036854775808 ≤ aK ∧ aK ≤ 9223372036854775807)) (hb : Aside0 (-9223372036854775808 ≤ bK ∧ bK ≤ 9223372036854775807)) (L' : LG) (k er : Int) (hs : Hid (bothS n m L t ai aK bi bK = (L', k, er))) :
    Calls Try.prog 22 #[.agg #[.slice A n c, .slice B m d], .int .i64 t, .agg #[.int .i64 ai, .int .i64 aK], .agg #[.int .i64 bi, .int .i64 bK]] w (Told S n m L' k er w) := by
  obtain ⟨ea, hea⟩ : ∃ ea, checkS n m t ai aK = ea := ⟨_, rfl⟩
  obtain ⟨eb, heb⟩ : ∃ eb, checkS n m t bi bK = eb := ⟨_, rfl⟩
  replace hea : Hid (checkS n m t ai aK = ea) := hea
  replace heb : Hid (checkS n m t bi bK = eb) := heb
  go_enter Try.func22, Try.ntmps22
  go_upto_region 2 with (fail)
  have gt : GT w.heap.size (w.heap.size + 1) (w.heap.size + 1 + 1) (w.heap.size + 1 + 1 + 1) (w.heap.size + 1 + 1 + 1 + 1) (.slice A n c) (.slice B m d) ai aK bi bK w (((((w.alloc (Obj.cells #[Value.slice A n c, Value.slice B m d] 25)).alloc (Obj.cells #[Value.int IntKind.i64 ai, Value.int IntKind.i64 aK] 27)).alloc (Obj.cells #[Value.int IntKind.i64 bi, Value.int IntKind.i64 bK] 27)).alloc (Obj.cells #[Value.slice none 0 0, Value.slice none 0 0] 25)).alloc (Obj.cells #[Value.int IntKind.i64 ai, Value.int IntKind.i64 aK, Value.int IntKind.i64 bi, Value.int IntKind.i64 bK] 27)) :=
    ⟨((((((Below.refl _ _).alloc (Nat.le_refl _) _).alloc (by simp) _).alloc (by simp; omega) _).alloc (by simp; omega) _).alloc (by simp; omega) _), ⟨Nat.le_refl _, by omega, by omega, by omega, by omega, by simp⟩, by go_simp, by go_simp, by go_simp, by go_simp, by go_simp, by go_simp, ⟨.slice none 0 0, by go_simp⟩, ⟨.slice none 0 0, by go_simp⟩, fun i => by go_simp, by go_simp, by go_simp, by go_simp, by go_simp⟩
  have hgt := Aside0.mk gt
  clear gt
  generalize (((((w.alloc (Obj.cells #[Value.slice A n c, Value.slice B m d] 25)).alloc (Obj.cells #[Value.int IntKind.i64 ai, Value.int IntKind.i64 aK] 27)).alloc (Obj.cells #[Value.int IntKind.i64 bi, Value.int IntKind.i64 bK] 27)).alloc (Obj.cells #[Value.slice none 0 0, Value.slice none 0 0] 25)).alloc (Obj.cells #[Value.int IntKind.i64 ai, Value.int IntKind.i64 aK, Value.int IntKind.i64 bi, Value.int IntKind.i64 bK] 27)) = W1 at hgt ⊢
  generalize hx4 : w.heap.size + 1 + 1 + 1 + 1 = b4 at hgt ⊢
  generalize hx3 : w.heap.size + 1 + 1 + 1 = b3 at hgt ⊢
  generalize hx2 : w.heap.size + 1 + 1 = b2 at hgt ⊢
  generalize hx1 : w.heap.size + 1 = b1 at hgt ⊢
  generalize hx0 : w.heap.size = b0 at hgt ⊢
  clear hx0 hx1 hx2 hx3 hx4
  go_loopw [24] (fun v wr => ∃ j : Nat, j ≤ 2 ∧ v = .int .i64 j ∧ (1 ≤ j → ea = 0) ∧ (2 ≤ j → eb = 0) ∧ Aside0 (GT b0 b1 b2 b3 b4 (.slice A n c) (.slice B m d) ai aK bi bK w wr)) (fun v _ => 3 - (intOf v).toNat)
  case atStart => exact ⟨0, by omega, rfl, fun h => by omega, fun h => by omega, hgt⟩
  case round =>
    clear hgt
    obtain ⟨j, hj, rfl, hj1, hj2, hg⟩ := hrel
    have k0 := hg.out.k0
    have k1 := hg.out.k1
    have p0 := hg.out.p0
    have p1 := hg.out.p1
    have q0 := hg.out.q0
    have q1 := hg.out.q1
    obtain ⟨v0, r0⟩ := hg.out.r0
    obtain ⟨v1, r1⟩ := hg.out.r1
    have f3 := hg.out.f3
    have s0 := hg.out.s0
    have s1 := hg.out.s1
    have s2 := hg.out.s2
    have s3 := hg.out.s3
    have z0 : b0 < wr.heap.size := by have := hg.out.lo; omega
    have z3 : b3 < wr.heap.size := by have := hg.out.lo; omega
    obtain rfl | rfl | rfl : j = 0 ∨ j = 1 ∨ j = 2 := by omega
    · clear hj hj1 hj2
      by_cases h0 : ea = 0
      · subst h0
        go_wp2_with (first | (go_at_call 29; (with_reducible refine (check_is A B n c m d t ai aK 0 _ ha hea).mono ?_); rintro e w1 ⟨rfl, hbc⟩; have hg2 := Aside0.mk (hg.out.step (below_step ((Below.refl wr.heap.size wr).alloc (Nat.le_refl _) _) hbc)); clear hbc))
        go_roundw
        case rel => exact ⟨1, by omega, rfl, fun _ => by simp, fun h => by omega, hg2⟩
        case measure => simp [intOf]
      · have h1 : (ea == 0) = false := by simpa using h0
        have h2 : (ea != 0) = true := by simp [bne, h1]
        clear h0
        go_wp2_with (first | (go_at_call 29; (with_reducible refine (check_is A B n c m d t ai aK ea _ ha hea).mono ?_); rintro e w1 ⟨rfl, hbc⟩; have hg2 := Aside0.mk (hg.out.step (below_step ((Below.refl wr.heap.size wr).alloc (Nat.le_refl _) _) hbc)); clear hbc; have k0 := hg2.out.k0; have k1 := hg2.out.k1; obtain ⟨v0, r0⟩ := hg2.out.r0; obtain ⟨v1, r1⟩ := hg2.out.r1; have f3 := hg2.out.f3))
        have hbw := (hg2.out.below.setCell (p := ⟨b3, 0, none⟩) (by have := hg2.out.lo; show _ ≤ b3; omega) (.slice A n c)).setCell (p := ⟨b3, 1, none⟩) (by have := hg2.out.lo; show _ ≤ b3; omega) (.slice B m d)
        have y0 : ((w1.setCell ⟨b3, 0, none⟩ (.slice A n c)).setCell ⟨b3, 1, none⟩ (.slice B m d)).cell? ⟨b3, 0, none⟩ = some (.slice A n c) := csi (i := 1) (j := 0) (by decide) (World.cell?_setCell_same _ _ _ r0)
        have y1 : ((w1.setCell ⟨b3, 0, none⟩ (.slice A n c)).setCell ⟨b3, 1, none⟩ (.slice B m d)).cell? ⟨b3, 1, none⟩ = some (.slice B m d) := World.cell?_setCell_same _ _ _ (csi (i := 0) (j := 1) (by decide) r1)
        generalize (w1.setCell ⟨b3, 0, none⟩ (.slice A n c)).setCell ⟨b3, 1, none⟩ (.slice B m d) = W8 at hbw y0 y1 ⊢
        refine bodyPost_ret (v := .tuple #[.agg #[.slice A n c, .slice B m d], .int .i64 0, .int .i64 ea]) (by simp [results, Try.results22, go_sem, y0, y1]) rfl ⟨S, A, c, B, d, ?_, ?_, fun _ hj => .inl hj, hbw⟩
        all_goals
          have hbo := hs.out
          rw [bothS, hea.out, if_neg (by simpa using h1)] at hbo
          simp only [Prod.mk.injEq] at hbo
          obtain ⟨hb1, hb2, hb3⟩ := hbo
        · rw [← hb2, ← hb3]
        · rw [← hb1]; exact h.out.below hbw
    · obtain rfl := hj1 (Nat.le_refl _)
      clear hj hj1 hj2
      by_cases h0 : eb = 0
      · subst h0
        go_wp2_with (first | (go_at_call 29; (with_reducible refine (check_is A B n c m d t bi bK 0 _ hb heb).mono ?_); rintro e w1 ⟨rfl, hbc⟩; have hg2 := Aside0.mk (hg.out.step (below_step ((Below.refl wr.heap.size wr).alloc (Nat.le_refl _) _) hbc)); clear hbc; have k0 := hg2.out.k0; have k1 := hg2.out.k1; obtain ⟨v0, r0⟩ := hg2.out.r0; obtain ⟨v1, r1⟩ := hg2.out.r1; have f3 := hg2.out.f3))
        go_roundw
        case rel => exact ⟨2, by omega, rfl, fun _ => by simp, fun _ => by simp, hg2⟩
        case measure => simp [intOf]
      · have h1 : (eb == 0) = false := by simpa using h0
        have h2 : (eb != 0) = true := by simp [bne, h1]
        clear h0
        go_wp2_with (first | (go_at_call 29; (with_reducible refine (check_is A B n c m d t bi bK eb _ hb heb).mono ?_); rintro e w1 ⟨rfl, hbc⟩; have hg2 := Aside0.mk (hg.out.step (below_step ((Below.refl wr.heap.size wr).alloc (Nat.le_refl _) _) hbc)); clear hbc; have k0 := hg2.out.k0; have k1 := hg2.out.k1; obtain ⟨v0, r0⟩ := hg2.out.r0; obtain ⟨v1, r1⟩ := hg2.out.r1; have f3 := hg2.out.f3))
        have hbw := (hg2.out.below.setCell (p := ⟨b3, 0, none⟩) (by have := hg2.out.lo; show _ ≤ b3; omega) (.slice A n c)).setCell (p := ⟨b3, 1, none⟩) (by have := hg2.out.lo; show _ ≤ b3; omega) (.slice B m d)
        have y0 : ((w1.setCell ⟨b3, 0, none⟩ (.slice A n c)).setCell ⟨b3, 1, none⟩ (.slice B m d)).cell? ⟨b3, 0, none⟩ = some (.slice A n c) := csi (i := 1) (j := 0) (by decide) (World.cell?_setCell_same _ _ _ r0)
        have y1 : ((w1.setCell ⟨b3, 0, none⟩ (.slice A n c)).setCell ⟨b3, 1, none⟩ (.slice B m d)).cell? ⟨b3, 1, none⟩ = some (.slice B m d) := World.cell?_setCell_same _ _ _ (csi (i := 0) (j := 1) (by decide) r1)
        generalize (w1.setCell ⟨b3, 0, none⟩ (.slice A n c)).setCell ⟨b3, 1, none⟩ (.slice B m d) = W8 at hbw y0 y1 ⊢
        refine bodyPost_ret (v := .tuple #[.agg #[.slice A n c, .slice B m d], .int .i64 0, .int .i64 eb]) (by simp [results, Try.results22, go_sem, y0, y1]) rfl ⟨S, A, c, B, d, ?_, ?_, fun _ hj => .inl hj, hbw⟩
        all_goals
          have hbo := hs.out
          rw [bothS, hea.out, if_pos rfl, heb.out, if_neg (by simpa using h1)] at hbo
          simp only [Prod.mk.injEq] at hbo
          obtain ⟨hb1, hb2, hb3⟩ := hbo
        · rw [← hb2, ← hb3]
        · rw [← hb1]; exact h.out.below hbw
    · obtain rfl := hj1 (by omega)
      obtain rfl := hj2 (Nat.le_refl _)
      clear hj hj1 hj2
      obtain ⟨⟨LA, ka, eA⟩, hra⟩ : ∃ r, resS n m L t ai aK = r := ⟨_, rfl⟩
      obtain ⟨⟨LB, kb, eB⟩, hrb⟩ : ∃ r, resS n m LA t bi bK = r := ⟨_, rfl⟩
      replace hra : Hid (resS n m L t ai aK = (LA, ka, eA)) := hra
      replace hrb : Hid (resS n m LA t bi bK = (LB, kb, eB)) := hrb
      have hl0 : Aside0 (LV S n m A c B d L wr) := ⟨h.out.below hg.out.below⟩
      have z2 : b2 < wr.heap.size := lt2 hg.out
      have hwr := Aside0.mk hg.out.below.size
      clear p0 p1 s0 s1 s2 s3
      have p0 := hg.out.p0
      have p1 := hg.out.p1
      by_cases hka : ka = 0
      · subst hka
        go_wp2_with (first | (go_at_call 13; (with_reducible refine (reserve_is n m A c B d L t ai aK S _ hl0 ha LA 0 eA hra.out).mono ?_); rintro e w1 ⟨S1, A1, c1, B1, d1, rfl, hl1, hS1, hbb1⟩; have hg2 := Aside0.mk (hg.out.step hbb1); have hs1 := Aside0.mk hS1; have hl1 := Aside0.mk (hl1.below ((Below.refl w1.heap.size w1).alloc (Nat.le_refl _) (.cells #[.slice A1 n c1, .slice B1 m d1] 25))); clear hbb1 hS1 k0 k1 q0 q1 r0 r1 f3 z0 z2 z3; have k0 := hg2.out.k0; have k1 := hg2.out.k1; have q0 := hg2.out.q0; have q1 := hg2.out.q1; obtain ⟨v0, r0⟩ := hg2.out.r0; obtain ⟨v1, r1⟩ := hg2.out.r1; have f3 := hg2.out.f3; have z0 : b0 < w1.heap.size := lt0 hg2.out; have z2 : b2 < w1.heap.size := lt2 hg2.out; have z3 : b3 < w1.heap.size := lt3 hg2.out))
        have hbw := (hg2.out.below.setCell (p := ⟨b3, 0, none⟩) (by have := hg2.out.lo; show _ ≤ b3; omega) (.slice A n c)).setCell (p := ⟨b3, 1, none⟩) (by have := hg2.out.lo; show _ ≤ b3; omega) (.slice B m d)
        have y0 : ((w1.setCell ⟨b3, 0, none⟩ (.slice A n c)).setCell ⟨b3, 1, none⟩ (.slice B m d)).cell? ⟨b3, 0, none⟩ = some (.slice A n c) := csi (i := 1) (j := 0) (by decide) (World.cell?_setCell_same _ _ _ r0)
        have y1 : ((w1.setCell ⟨b3, 0, none⟩ (.slice A n c)).setCell ⟨b3, 1, none⟩ (.slice B m d)).cell? ⟨b3, 1, none⟩ = some (.slice B m d) := World.cell?_setCell_same _ _ _ (csi (i := 0) (j := 1) (by decide) r1)
        have z8 : b3 < ((w1.setCell ⟨b3, 0, none⟩ (.slice A n c)).setCell ⟨b3, 1, none⟩ (.slice B m d)).heap.size := by simpa using z3
        generalize (w1.setCell ⟨b3, 0, none⟩ (.slice A n c)).setCell ⟨b3, 1, none⟩ (.slice B m d) = W8 at hbw y0 y1 z8 ⊢
        refine bodyPost_ret (v := .tuple #[.agg #[.slice A n c, .slice B m d], .int .i64 0, .int .i64 0]) (by simp [results, Try.results22, go_sem, y0, y1, cell_alloc_lt, z8]) rfl ⟨S, A, c, B, d, ?_, ?_, fun _ hj => .inl hj, hbw.alloc hbw.size _⟩
        all_goals
          have hbo := hs.out
          rw [bothS, hea.out, if_pos rfl, heb.out, if_pos rfl, hra.out] at hbo
          rw [if_pos rfl] at hbo
          simp only [Prod.mk.injEq] at hbo
          obtain ⟨hb1, hb2, hb3⟩ := hbo
        · rw [← hb2, ← hb3]
        · rw [← hb1]; exact h.out.below (hbw.alloc hbw.size _)
      · have hk1 : (ka == 0) = false := by simpa using hka
        by_cases hkb : 0 < kb
        · have hk2 : decide (0 < kb) = true := decide_eq_true hkb
          go_wp2_with (first | (go_at_call 13; (with_reducible refine (reserve_is n m A c B d L t ai aK S _ hl0 ha LA ka eA hra.out).mono ?_); rintro e w1 ⟨S1, A1, c1, B1, d1, rfl, hl1, hS1, hbb1⟩; have hg2 := Aside0.mk (hg.out.step hbb1); have hs1 := Aside0.mk hS1; have hl1 := Aside0.mk (hl1.below ((Below.refl w1.heap.size w1).alloc (Nat.le_refl _) (.cells #[.slice A1 n c1, .slice B1 m d1] 25))); clear hbb1 hS1 k0 k1 q0 q1 r0 r1 f3 z0 z2 z3; have k0 := hg2.out.k0; have k1 := hg2.out.k1; have q0 := hg2.out.q0; have q1 := hg2.out.q1; obtain ⟨v0, r0⟩ := hg2.out.r0; obtain ⟨v1, r1⟩ := hg2.out.r1; have f3 := hg2.out.f3; have z0 : b0 < w1.heap.size := lt0 hg2.out; have z2 : b2 < w1.heap.size := lt2 hg2.out; have z3 : b3 < w1.heap.size := lt3 hg2.out) | (go_at_call 13; (with_reducible refine (reserve_is n m A1 c1 B1 d1 LA t bi bK S1 _ hl1 hb LB kb eB hrb.out).mono ?_); rintro e w2 ⟨S2, A2, c2, B2, d2, rfl, hl2, hS2, hbb2⟩; have hg3 := Aside0.mk (hg2.out.step (below_step ((Below.refl w1.heap.size w1).alloc (Nat.le_refl _) _) hbb2)); have hs2 := Aside0.mk hS2; have hl2 := Aside0.mk hl2; clear hbb2 hS2 k0 k1 q0 q1 r0 r1 f3 z0 z2 z3; have k0 := hg3.out.k0; have k1 := hg3.out.k1; have q0 := hg3.out.q0; have q1 := hg3.out.q1; obtain ⟨v0, r0⟩ := hg3.out.r0; obtain ⟨v1, r1⟩ := hg3.out.r1; have f3 := hg3.out.f3; have z0 : b0 < w2.heap.size := lt0 hg3.out; have z2 : b2 < w2.heap.size := lt2 hg3.out; have z3 : b3 < w2.heap.size := lt3 hg3.out))
          have hn2 : ¬ S2 b3 := fun hj => by
            have hlo := hg.out.lo
            have hz := hg2.out.lo
            rcases hs2.out b3 hj with h1 | h1
            · rcases hs1.out b3 h1 with h2 | h2
              · have := h.out.sz b3 h2; omega
              · omega
            · simp only [World.size_alloc] at h1; omega
          have hS2 : ∀ j, S2 j → S j ∨ w.heap.size ≤ j := fun j hj => by
            have hz := hg2.out.below.size
            have hy := hwr.out
            rcases hs2.out j hj with h1 | h1
            · rcases hs1.out j h1 with h2 | h2
              · exact .inl h2
              · exact .inr (by omega)
            · simp only [World.size_alloc] at h1; exact .inr (by omega)
          have hbw := (hg3.out.below.setCell (p := ⟨b3, 0, none⟩) (by have := hg3.out.lo; show _ ≤ b3; omega) (.slice A2 n c2)).setCell (p := ⟨b3, 1, none⟩) (by have := hg3.out.lo; show _ ≤ b3; omega) (.slice B2 m d2)
          have hlw := (hl2.out.store (i := 0) hn2 (.slice A2 n c2)).store (i := 1) hn2 (.slice B2 m d2)
          have y0 : ((w2.setCell ⟨b3, 0, none⟩ (.slice A2 n c2)).setCell ⟨b3, 1, none⟩ (.slice B2 m d2)).cell? ⟨b3, 0, none⟩ = some (.slice A2 n c2) := csi (i := 1) (j := 0) (by decide) (World.cell?_setCell_same _ _ _ r0)
          have y1 : ((w2.setCell ⟨b3, 0, none⟩ (.slice A2 n c2)).setCell ⟨b3, 1, none⟩ (.slice B2 m d2)).cell? ⟨b3, 1, none⟩ = some (.slice B2 m d2) := World.cell?_setCell_same _ _ _ (csi (i := 0) (j := 1) (by decide) r1)
          have z8 : b3 < ((w2.setCell ⟨b3, 0, none⟩ (.slice A2 n c2)).setCell ⟨b3, 1, none⟩ (.slice B2 m d2)).heap.size := by simpa using z3
          generalize (w2.setCell ⟨b3, 0, none⟩ (.slice A2 n c2)).setCell ⟨b3, 1, none⟩ (.slice B2 m d2) = W8 at hbw hlw y0 y1 z8 ⊢
          have hwk : wrap64 (ka + kb) = ka + kb := by
            have h1 := resS_le hra.out
            have h2 := resS_le hrb.out
            unfold wrap64; omega
          refine bodyPost_ret (v := .tuple #[.agg #[.slice A2 n c2, .slice B2 m d2], .int .i64 (ka + kb), .int .i64 0]) (by simp [results, Try.results22, go_sem, y0, y1, cell_alloc_lt, z8, hwk]) rfl ⟨S2, A2, c2, B2, d2, ?_, ?_, hS2, hbw.alloc hbw.size _⟩
          all_goals
            have hbo := hs.out
            rw [bothS, hea.out, if_pos rfl, heb.out, if_pos rfl, hra.out] at hbo
            dsimp only at hbo
            rw [if_neg hka, hrb.out, if_pos hkb] at hbo
            simp only [Prod.mk.injEq] at hbo
            obtain ⟨hb1, hb2, hb3⟩ := hbo
          · rw [← hb2, ← hb3]
          · rw [← hb1]; exact hlw.below ((Below.refl _ _).alloc (Nat.le_refl _) _)
        · have hk2 : decide (0 < kb) = false := decide_eq_false hkb
          go_wp2_with (first | (go_at_call 13; (with_reducible refine (reserve_is n m A c B d L t ai aK S _ hl0 ha LA ka eA hra.out).mono ?_); rintro e w1 ⟨S1, A1, c1, B1, d1, rfl, hl1, hS1, hbb1⟩; have hg2 := Aside0.mk (hg.out.step hbb1); have hs1 := Aside0.mk hS1; have hl1 := Aside0.mk (hl1.below ((Below.refl w1.heap.size w1).alloc (Nat.le_refl _) (.cells #[.slice A1 n c1, .slice B1 m d1] 25))); clear hbb1 hS1 k0 k1 q0 q1 r0 r1 f3 z0 z2 z3; have k0 := hg2.out.k0; have k1 := hg2.out.k1; have q0 := hg2.out.q0; have q1 := hg2.out.q1; obtain ⟨v0, r0⟩ := hg2.out.r0; obtain ⟨v1, r1⟩ := hg2.out.r1; have f3 := hg2.out.f3; have z0 : b0 < w1.heap.size := lt0 hg2.out; have z2 : b2 < w1.heap.size := lt2 hg2.out; have z3 : b3 < w1.heap.size := lt3 hg2.out) | (go_at_call 13; (with_reducible refine (reserve_is n m A1 c1 B1 d1 LA t bi bK S1 _ hl1 hb LB kb eB hrb.out).mono ?_); rintro e w2 ⟨S2, A2, c2, B2, d2, rfl, hl2, hS2, hbb2⟩; have hg3 := Aside0.mk (hg2.out.step (below_step ((Below.refl w1.heap.size w1).alloc (Nat.le_refl _) _) hbb2)); have hs2 := Aside0.mk hS2; have hl2 := Aside0.mk hl2; clear hbb2 hS2 k0 k1 q0 q1 r0 r1 f3 z0 z2 z3; have k0 := hg3.out.k0; have k1 := hg3.out.k1; have q0 := hg3.out.q0; have q1 := hg3.out.q1; obtain ⟨v0, r0⟩ := hg3.out.r0; obtain ⟨v1, r1⟩ := hg3.out.r1; have f3 := hg3.out.f3; have z0 : b0 < w2.heap.size := lt0 hg3.out; have z2 : b2 < w2.heap.size := lt2 hg3.out; have z3 : b3 < w2.heap.size := lt3 hg3.out))
          have hbw := (hg3.out.below.setCell (p := ⟨b3, 0, none⟩) (by have := hg3.out.lo; show _ ≤ b3; omega) (.slice A n c)).setCell (p := ⟨b3, 1, none⟩) (by have := hg3.out.lo; show _ ≤ b3; omega) (.slice B m d)
          have y0 : ((w2.setCell ⟨b3, 0, none⟩ (.slice A n c)).setCell ⟨b3, 1, none⟩ (.slice B m d)).cell? ⟨b3, 0, none⟩ = some (.slice A n c) := csi (i := 1) (j := 0) (by decide) (World.cell?_setCell_same _ _ _ r0)
          have y1 : ((w2.setCell ⟨b3, 0, none⟩ (.slice A n c)).setCell ⟨b3, 1, none⟩ (.slice B m d)).cell? ⟨b3, 1, none⟩ = some (.slice B m d) := World.cell?_setCell_same _ _ _ (csi (i := 0) (j := 1) (by decide) r1)
          have z8 : b3 < ((w2.setCell ⟨b3, 0, none⟩ (.slice A n c)).setCell ⟨b3, 1, none⟩ (.slice B m d)).heap.size := by simpa using z3
          generalize (w2.setCell ⟨b3, 0, none⟩ (.slice A n c)).setCell ⟨b3, 1, none⟩ (.slice B m d) = W8 at hbw y0 y1 z8 ⊢
          refine bodyPost_ret (v := .tuple #[.agg #[.slice A n c, .slice B m d], .int .i64 0, .int .i64 0]) (by simp [results, Try.results22, go_sem, y0, y1, cell_alloc_lt, z8]) rfl ⟨S, A, c, B, d, ?_, ?_, fun _ hj => .inl hj, hbw.alloc hbw.size _⟩
          all_goals
            have hbo := hs.out
            rw [bothS, hea.out, if_pos rfl, heb.out, if_pos rfl, hra.out] at hbo
            dsimp only at hbo
            rw [if_neg hka, hrb.out, if_neg (Int.not_lt.mpr hkb)] at hbo
            simp only [Prod.mk.injEq] at hbo
            obtain ⟨hb1, hb2, hb3⟩ := hbo
          · rw [← hb2, ← hb3]
          · rw [← hb1]; exact h.out.below (hbw.alloc hbw.size _)
end Go.Proofs.Ytlgoincnopfnjaa.Led
