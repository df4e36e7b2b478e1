/- A new ledger. -/
import Derived.Test.YtlgoincnopfnjaaLedL
import Derived.Test.YtlgoincnopfnjaaLedM
import Derived.Deep.DeepCutAuto
namespace Go.Proofs.Ytlgoincnopfnjaa.Led
open Go Go.RowKit Go.Proofs.YtlgoincnopfnjaaW.PrintWords Go.Proofs.YtlgoincnopfnjaaW.PrintMore Go.Proofs.YtlgoincnopfnjaaW.PrintLast
set_option linter.unusedSimpArgs false
set_option linter.unusedVariables false
attribute [local go_sem] max2_int min2_int max_two min_two eqA27
theorem RW.one (W : World) (z : Value) (e : TypeId) : RW W.heap.size 1 (fun _ => z) (W.alloc (.cells #[z] e)) := by
  refine ⟨by simp, fun i hi => ?_, fun i => ?_⟩
  · obtain rfl : i = 0 := by omega
    unfold World.cell?
    rw [heap_alloc_new]
    rfl
  · unfold World.frozen?
    rw [heap_alloc_new]
    simp
theorem RW.two (W : World) (z : Value) (e : TypeId) : RW W.heap.size 2 (fun _ => z) (W.alloc (.cells #[z, z] e)) := by
  refine ⟨by simp, fun i hi => ?_, fun i => ?_⟩
  · unfold World.cell?
    rw [heap_alloc_new]
    match i, hi with
    | 0, _ => rfl
    | 1, _ => rfl
  · unfold World.frozen?
    rw [heap_alloc_new]
    simp
/-- The result's box. -/
structure Z0 (b0 : Nat) (w W : World) : Prop where
  b : Below w.heap.size w W
  lo : w.heap.size ≤ b0
  lt : b0 < W.heap.size
  r : RW b0 2 (fun _ => .slice none 0 0) W
theorem Z0.step {b0 : Nat} {w W W2 : World} (h : Z0 b0 w W) (hb : Below W.heap.size W W2) : Z0 b0 w W2 := ⟨below_step h.b hb, h.lo, Nat.lt_of_lt_of_le h.lt hb.size, h.r.step hb⟩
/-- What New has made, with so many rows. -/
structure Nw (b0 b1 x1 x2 n m j : Nat) (hv : Int) (w W : World) : Prop where
  b : Below w.heap.size w W
  lo : w.heap.size ≤ b0 ∧ b0 < b1 ∧ b0 < x1 ∧ b0 < x2 ∧ x1 ≠ x2 ∧ x1 ≠ b1 ∧ x2 ≠ b1
  lt : b0 < W.heap.size
  r : RW b0 2 (fun _ => .slice none 0 0) W
  k : RW b1 2 (fun i => if i = 0 then .slice (some ⟨x1, 0, none⟩) n n else .slice (some ⟨x2, 0, none⟩) m m) W
  a : RW x1 n (fun _ => .int .i64 hv) W
  c : ∃ y : Nat → Nat, RW x2 m (fun u => if u < j then .slice (some ⟨y u, 0, none⟩) n n else .slice none 0 0) W ∧ ∀ u, u < j → b0 < y u ∧ y u ≠ x2 ∧ RW (y u) n (fun _ => .int .i64 0) W
theorem Nw.step {b0 b1 x1 x2 n m j : Nat} {hv : Int} {w W W2 : World} (h : Nw b0 b1 x1 x2 n m j hv w W) (hb : Below W.heap.size W W2) : Nw b0 b1 x1 x2 n m j hv w W2 := by
  obtain ⟨y, h1, h2⟩ := h.c
  exact ⟨below_step h.b hb, h.lo, Nat.lt_of_lt_of_le h.lt hb.size, h.r.step hb, h.k.step hb, h.a.step hb, y, h1.step hb, fun u hu => ⟨(h2 u hu).1, (h2 u hu).2.1, (h2 u hu).2.2.step hb⟩⟩
/-- One row more. -/
theorem Nw.more {b0 b1 x1 x2 n m j z : Nat} {hv : Int} {w W : World} (h : Nw b0 b1 x1 x2 n m j hv w W) (hj : j < m) (hz : RW z n (fun _ => .int .i64 0) W) (z0 : b0 < z) (z2 : x2 < z) :
    Nw b0 b1 x1 x2 n m (j + 1) hv w (W.setCell ⟨x2, j, none⟩ (.slice (some ⟨z, 0, none⟩) n n)) := by
  obtain ⟨y, h1, h2⟩ := h.c
  obtain ⟨l1, l2, l3, l4, l5, l6, l7⟩ := h.lo
  refine ⟨h.b.setCell (p := ⟨x2, j, none⟩) (by show w.heap.size ≤ x2; omega) _, h.lo, by simpa using h.lt, h.r.far (by omega) _, h.k.far (by omega) _, h.a.far (by omega) _, fun u => if u = j then z else y u, ?_, fun u hu => ?_⟩
  · have h3 := h1.put hj (.slice (some ⟨z, 0, none⟩) n n)
    refine ⟨h3.lt, fun u hu => (h3.e u hu).trans ?_, h3.z⟩
    congr 1
    by_cases e : u = j
    · rw [if_pos e, if_pos (by omega)]
      simp only [if_pos e]
    · rw [if_neg e]
      simp only [if_neg e]
      by_cases e2 : u < j
      · rw [if_pos e2, if_pos (by omega)]
      · rw [if_neg e2, if_neg (by omega)]
  · by_cases e : u = j
    · simp only [if_pos e]
      exact ⟨z0, by omega, hz.far (by omega) _⟩
    · simp only [if_neg e]
      have h4 := h2 u (by omega)
      exact ⟨h4.1, h4.2.1, h4.2.2.far (by have := h4.2.1; omega) _⟩
theorem replicate_getD {α : Type} {k i : Nat} {v d : α} (h : i < k) : (List.replicate k v).getD i d = v := by
  rw [List.getD_eq_getElem?_getD, List.getElem?_replicate, if_pos h]; rfl
/-- The new ledger can be read. -/
theorem Nw.lv {b0 b1 x1 x2 n m : Nat} {hv : Int} {w W : World} (h : Nw b0 b1 x1 x2 n m m hv w W) (hn : n ≤ 4) (hm : m ≤ 16) (hI : I64 hv) : ∃ S' : Nat → Prop, LV S' n m (some ⟨x1, 0, none⟩) n (some ⟨x2, 0, none⟩) m (newL n m hv) W ∧ ∀ j, S' j → b0 < j := by
  obtain ⟨y, h1, h2⟩ := h.c
  obtain ⟨l1, l2, l3, l4, l5, l6, l7⟩ := h.lo
  refine ⟨fun j => j = x1 ∨ j = x2 ∨ ∃ u, u < m ∧ j = y u, ⟨newL_good hI hn hm, ?_, ?_, Nat.le_refl _, ⟨fun u => some ⟨y u, 0, none⟩, fun _ => n, ?_, fun u hu => ⟨Nat.le_refl _, ?_⟩⟩, Nat.le_refl _⟩, ?_⟩
  · rintro k (rfl | rfl | ⟨u, hu, rfl⟩)
    · exact h.a.lt
    · exact h1.lt
    · exact (h2 u hu).2.2.lt
  · refine RW.rs ⟨h.a.lt, fun i hi => (h.a.e i hi).trans ?_, h.a.z⟩ (.inl rfl)
    show _ = some (Value.int .i64 ((List.replicate n hv).getD i 0))
    rw [replicate_getD hi]
  · refine RW.rs ⟨h1.lt, fun i hi => (h1.e i hi).trans ?_, h1.z⟩ (.inr (.inl rfl))
    rw [if_pos hi]
  · refine RW.rs ⟨(h2 u hu).2.2.lt, fun i hi => ((h2 u hu).2.2.e i hi).trans ?_, (h2 u hu).2.2.z⟩ (.inr (.inr ⟨u, hu, rfl⟩))
    have e : row (newL n m hv).hd (u : Int) = List.replicate n 0 := by
      unfold row newL
      rw [Int.toNat_natCast]
      exact replicate_getD hu
    rw [e, replicate_getD hi]
  · rintro k (rfl | rfl | ⟨u, hu, rfl⟩)
    · omega
    · omega
    · exact (h2 u hu).1
set_option maxHeartbeats 4000000 in
set_option maxRecDepth 100000 in
theorem new_ok (n m : Nat) (hv : Int) (w : World) (hn : 1 ≤ (n : Int) ∧ (n : Int) ≤ 4) (hm : 1 ≤ (m : Int) ∧ (m : Int) ≤ 16) (hI : I64 hv) :
    Calls Try.prog 24 #[.int .i64 n, .int .i64 m, .int .i64 hv] w fun e w' => ∃ (S' : Nat → Prop) (A' : Option Addr) (c' : Nat) (B' : Option Addr) (d' : Nat), e = .returned (.agg #[.slice A' n c', .slice B' m d']) ∧ LV S' n m A' c' B' d' (newL n m hv) w' ∧ (∀ j, S' j → w.heap.size ≤ j) ∧ Below w.heap.size w w' := by
  have HN := Aside0.mk hn
  have HM := Aside0.mk hm
  have t1 : ¬ (n : Int) < 1 := by omega
  have t2 : ¬ (n : Int) > 4 := by omega
  have t3 : ¬ (m : Int) < 1 := by omega
  have t4 : ¬ (m : Int) > 16 := by omega
  have hmk := run_make_row' (P := Try.prog) 23 22 (.slice none 0 0) 24 Try.underlying23 info22 rfl .i64 .i64 m (by omega) (by omega)
  have G0 := Aside0.mk (show Z0 w.heap.size w (w.alloc (.cells #[.slice none 0 0, .slice none 0 0] 25)) from ⟨(Below.refl _ _).alloc (Nat.le_refl _) _, Nat.le_refl _, by simp, RW.two w (.slice none 0 0) 25⟩)
  clear hn hm
  go_enter Try.func24, Try.ntmps24
  go_upto_region 3 with (fail)
  generalize (w.alloc (.cells #[.slice none 0 0, .slice none 0 0] 25)) = W0 at G0 ⊢
  generalize hb0 : w.heap.size = b0 at G0 ⊢
  replace hb0 := Aside0.mk hb0
  refine start_ (n := 9) (S := fun w' => Z0 b0 w w') (ds := [8]) #[false, false, false, false, false, false, false, false, false] (by kernel_rfl) rfl rfl (G0.out.step (below_drew1 (Below.refl W0.heap.size W0))) (fun hHeld => ?_)
  generalize W0.drew = V at hHeld ⊢
  refine pure_ (i := 0) (N := some 24) (v := ?_) (a' := ?_) #[true, false, false, false, false, false, false, false, false] rfl rfl (by kernel_rfl) (fun _ _ _ h => h) (Or.inl ⟨by rfl, ?_⟩) ?_ ?_
  rotate_left
  · intro w'
    go_simp
    with_reducible rfl
  rotate_left
  · simp only [Act.put, List.setIfInBounds_toArray, List.set_cons_zero, List.set_cons_succ, i64_w, i32_w]
    rfl
  refine pure_ (i := 2) (N := some 26) (v := ?_) (a' := ?_) #[true, false, true, false, false, false, false, false, false] rfl rfl (by kernel_rfl) (fun _ _ _ h => h) (Or.inl ⟨by rfl, ?_⟩) ?_ ?_
  rotate_left
  · intro w'
    go_simp
    with_reducible rfl
  rotate_left
  · simp only [Act.put, List.setIfInBounds_toArray, List.set_cons_zero, List.set_cons_succ, i64_w, i32_w]
    rfl
  refine pure_ (i := 4) (N := some 28) (v := ?_) (a' := ?_) #[true, false, true, false, true, false, false, false, false] rfl rfl (by kernel_rfl) (fun _ _ _ h => h) (Or.inl ⟨by rfl, ?_⟩) ?_ ?_
  rotate_left
  · intro w'
    go_simp
    with_reducible rfl
  rotate_left
  · simp only [Act.put, List.setIfInBounds_toArray, List.set_cons_zero, List.set_cons_succ, i64_w, i32_w]
    rfl
  refine join_ (σ := Nat × Nat × Nat × Nat) 1 #[true, true, true, true, true, true, true, true, false] (fun s => [(25, .slice (some ⟨s.1, 0, none⟩) 1 1), (27, .slice (some ⟨s.2.1, 0, none⟩) n n), (29, .slice (some ⟨s.2.2.1, 0, none⟩) m m), (7, .pointer (some ⟨s.2.2.2, 0, none⟩)), (30, .agg #[.slice (some ⟨s.2.1, 0, none⟩) n n, .slice (some ⟨s.2.2.1, 0, none⟩) m m])]) (fun s w' => Z0 b0 w w' ∧ RW s.2.1 n (fun _ => .int .i64 hv) w' ∧ RW s.2.2.1 m (fun _ => .slice none 0 0) w' ∧ RW s.2.2.2 2 (fun _ => .slice none 0 0) w' ∧ b0 < s.2.1 ∧ b0 < s.2.2.1 ∧ b0 < s.2.2.2 ∧ s.2.1 ≠ s.2.2.1 ∧ s.2.1 ≠ s.2.2.2 ∧ s.2.2.1 ≠ s.2.2.2) ?_ ?_
  rotate_left
  · intro hCont
    refine three_ (i := 1) (j := 5) (k := 7) (Ni := some 25) (Nj := some 29) (Nk := some 7) #[true, true, true, false, true, false, false, false, false] #[true, false, true, false, true, true, false, false, false] #[true, false, true, false, true, false, false, true, false] rfl rfl rfl rfl rfl rfl (by kernel_rfl) (by decide) (by decide) (by decide) (fun K hK => ?_) (fun K hK => ?_) (fun K hK => ?_)
    · skip
      refine value_ (w1 := ?_) (v := ?_) (by rfl) rfl ?_ ?_
      rotate_left 2
      · go_simp
        constructor
        · rfl
        · rfl
      have bk := (Below.refl V.heap.size V).alloc (Nat.le_refl _) (.cells #[.int .i64 hv] 3)
      have r1 := Aside0.mk (RW.one V (.int .i64 hv) 3)
      have l1 := Aside0.mk hHeld.lt
      replace hHeld := hHeld.step bk
      clear bk
      generalize V.alloc (.cells #[.int .i64 hv] 3) = V1 at hHeld r1 ⊢
      generalize V.heap.size = y at r1 l1  ⊢
      refine hK.out _ _ (hHeld) (fun hHeld => ?_)
      clear hK K
      refine norm_ (a' := ?_) ?_ ?_
      rotate_left
      · show Act.put _ (some 25) _ = _
        simp only [Act.put, List.setIfInBounds_toArray, List.set_cons_zero, List.set_cons_succ, i64_w, i32_w]
        rfl
      refine three_ (i := 3) (j := 5) (k := 7) (Ni := some 27) (Nj := some 29) (Nk := some 7) #[true, true, true, true, true, false, false, false, false] #[true, true, true, false, true, true, false, false, false] #[true, true, true, false, true, false, false, true, false] rfl rfl rfl rfl rfl rfl (by kernel_rfl) (by decide) (by decide) (by decide) (fun K hK => ?_) (fun K hK => ?_) (fun K hK => ?_)
      · skip
        refine goes_ Try.func37 (by kernel_rfl) rfl #[.slice (some ⟨y, 0, none⟩) 1 1, .int .i64 n] (by rfl) rfl rfl (by simp only [List.map_toArray, List.map_cons, List.map_nil]; rfl) ?_
        with_reducible refine (repeat_is ⟨y, 0, none⟩ 1 hv n _ (r1.out.e 0 (by decide)) r1.out.lt HN.out).mono ?_
        rintro e V13 ⟨x1, rfl, q3, r3, bk⟩
        refine ⟨_, rfl, ?_⟩
        have r3 := Aside0.mk r3
        have d13 := Aside0.mk (Nat.lt_of_lt_of_le r1.out.lt q3)
        have l3 := Aside0.mk (Nat.lt_of_lt_of_le hHeld.lt q3)
        replace r1 := Aside0.mk (r1.out.step bk)
        replace hHeld := hHeld.step bk
        clear bk q3
        refine hK.out _ _ (hHeld) (fun hHeld => ?_)
        clear hK K
        refine norm_ (a' := ?_) ?_ ?_
        rotate_left
        · show Act.put _ (some 27) _ = _
          simp only [Act.put, List.setIfInBounds_toArray, List.set_cons_zero, List.set_cons_succ, i64_w, i32_w]
          rfl
        refine two_ (i := 5) (j := 7) (Ni := some 29) (Nj := some 7) #[true, true, true, true, true, true, false, false, false] #[true, true, true, true, true, false, false, true, false] rfl rfl rfl rfl (by kernel_rfl) (by decide) (by decide) (fun K hK => ?_) (fun K hK => ?_)
        · skip
          refine value_ (w1 := ?_) (v := ?_) (by rfl) rfl ?_ ?_
          rotate_left 2
          · go_simp
            constructor
            · rfl
            · rfl
          have bk := (Below.refl V13.heap.size V13).alloc (Nat.le_refl _) (.cells (madeCells #[.slice none 0 0] m) 22)
          have r5 := Aside0.mk (RW.made V13 m (.slice none 0 0) 22)
          have d15 := Aside0.mk r1.out.lt
          have d35 := Aside0.mk r3.out.lt
          have l5 := Aside0.mk hHeld.lt
          replace r1 := Aside0.mk (r1.out.step bk)
          replace r3 := Aside0.mk (r3.out.step bk)
          replace hHeld := hHeld.step bk
          clear bk
          generalize V13.alloc (.cells (madeCells #[.slice none 0 0] m) 22) = V135 at hHeld r1 r3 r5 ⊢
          generalize V13.heap.size = x2 at r5 l5 d15 d35 ⊢
          refine hK.out _ _ (hHeld) (fun hHeld => ?_)
          clear hK K
          refine norm_ (a' := ?_) ?_ ?_
          rotate_left
          · show Act.put _ (some 29) _ = _
            simp only [Act.put, List.setIfInBounds_toArray, List.set_cons_zero, List.set_cons_succ, i64_w, i32_w]
            rfl
          refine pure_ (i := 6) (N := some 30) (v := ?_) (a' := ?_) #[true, true, true, true, true, true, true, false, false] rfl rfl (by kernel_rfl) (fun _ _ _ h => h) (Or.inl ⟨by rfl, ?_⟩) ?_ ?_
          rotate_left
          · intro w'
            go_simp
            with_reducible rfl
          rotate_left
          · simp only [Act.put, List.setIfInBounds_toArray, List.set_cons_zero, List.set_cons_succ, i64_w, i32_w]
            rfl
          refine one_ (i := 7) (N := some 7) #[true, true, true, true, true, true, true, true, false] rfl rfl (by kernel_rfl) (by decide) (fun K hK => ?_)
          refine value_ (w1 := ?_) (v := ?_) (by rfl) rfl ?_ ?_
          rotate_left 2
          · go_simp
            constructor
            · rfl
            · rfl
          have bk := (Below.refl V135.heap.size V135).alloc (Nat.le_refl _) (.cells #[.slice none 0 0, .slice none 0 0] 25)
          have r7 := Aside0.mk (RW.two V135 (.slice none 0 0) 25)
          have d17 := Aside0.mk r1.out.lt
          have d37 := Aside0.mk r3.out.lt
          have d57 := Aside0.mk r5.out.lt
          have l7 := Aside0.mk hHeld.lt
          replace r1 := Aside0.mk (r1.out.step bk)
          replace r3 := Aside0.mk (r3.out.step bk)
          replace r5 := Aside0.mk (r5.out.step bk)
          replace hHeld := hHeld.step bk
          clear bk
          generalize V135.alloc (.cells #[.slice none 0 0, .slice none 0 0] 25) = V1357 at hHeld r1 r3 r5 r7 ⊢
          generalize V135.heap.size = b1 at r7 l7 d17 d37 d57 ⊢
          refine hK.out _ _ (hHeld) (fun hHeld => ?_)
          clear hK K
          refine norm_ (a' := ?_) ?_ ?_
          rotate_left
          · show Act.put _ (some 7) _ = _
            simp only [Act.put, List.setIfInBounds_toArray, List.set_cons_zero, List.set_cons_succ, i64_w, i32_w]
            rfl
          exact norm_ (by first | (simp only [putAll, Act.put, List.setIfInBounds_toArray, List.set_cons_zero, List.set_cons_succ]; done) | (simp only [putAll, Act.put, List.setIfInBounds_toArray, List.set_cons_zero, List.set_cons_succ]; rfl)) (hCont (y, x1, x2, b1) _ ⟨hHeld, r3.out, r5.out, r7.out, l3.out, l5.out, l7.out, by have ed13 := d13.out; have ed15 := d15.out; have ed17 := d17.out; have ed35 := d35.out; have ed37 := d37.out; have ed57 := d57.out; show x1 ≠ x2 ∧ x1 ≠ b1 ∧ x2 ≠ b1; exact ⟨by omega, by omega, by omega⟩⟩)
        · skip
          refine value_ (w1 := ?_) (v := ?_) (by rfl) rfl ?_ ?_
          rotate_left 2
          · go_simp
            constructor
            · rfl
            · rfl
          have bk := (Below.refl V13.heap.size V13).alloc (Nat.le_refl _) (.cells #[.slice none 0 0, .slice none 0 0] 25)
          have r7 := Aside0.mk (RW.two V13 (.slice none 0 0) 25)
          have d17 := Aside0.mk r1.out.lt
          have d37 := Aside0.mk r3.out.lt
          have l7 := Aside0.mk hHeld.lt
          replace r1 := Aside0.mk (r1.out.step bk)
          replace r3 := Aside0.mk (r3.out.step bk)
          replace hHeld := hHeld.step bk
          clear bk
          generalize V13.alloc (.cells #[.slice none 0 0, .slice none 0 0] 25) = V137 at hHeld r1 r3 r7 ⊢
          generalize V13.heap.size = b1 at r7 l7 d17 d37 ⊢
          refine hK.out _ _ (hHeld) (fun hHeld => ?_)
          clear hK K
          refine norm_ (a' := ?_) ?_ ?_
          rotate_left
          · show Act.put _ (some 7) _ = _
            simp only [Act.put, List.setIfInBounds_toArray, List.set_cons_zero, List.set_cons_succ, i64_w, i32_w]
            rfl
          refine one_ (i := 5) (N := some 29) #[true, true, true, true, true, true, false, true, false] rfl rfl (by kernel_rfl) (by decide) (fun K hK => ?_)
          refine value_ (w1 := ?_) (v := ?_) (by rfl) rfl ?_ ?_
          rotate_left 2
          · go_simp
            constructor
            · rfl
            · rfl
          have bk := (Below.refl V137.heap.size V137).alloc (Nat.le_refl _) (.cells (madeCells #[.slice none 0 0] m) 22)
          have r5 := Aside0.mk (RW.made V137 m (.slice none 0 0) 22)
          have d15 := Aside0.mk r1.out.lt
          have d35 := Aside0.mk r3.out.lt
          have d75 := Aside0.mk r7.out.lt
          have l5 := Aside0.mk hHeld.lt
          replace r1 := Aside0.mk (r1.out.step bk)
          replace r3 := Aside0.mk (r3.out.step bk)
          replace r7 := Aside0.mk (r7.out.step bk)
          replace hHeld := hHeld.step bk
          clear bk
          generalize V137.alloc (.cells (madeCells #[.slice none 0 0] m) 22) = V1375 at hHeld r1 r3 r7 r5 ⊢
          generalize V137.heap.size = x2 at r5 l5 d15 d35 d75 ⊢
          refine hK.out _ _ (hHeld) (fun hHeld => ?_)
          clear hK K
          refine norm_ (a' := ?_) ?_ ?_
          rotate_left
          · show Act.put _ (some 29) _ = _
            simp only [Act.put, List.setIfInBounds_toArray, List.set_cons_zero, List.set_cons_succ, i64_w, i32_w]
            rfl
          refine pure_ (i := 6) (N := some 30) (v := ?_) (a' := ?_) #[true, true, true, true, true, true, true, true, false] rfl rfl (by kernel_rfl) (fun _ _ _ h => h) (Or.inl ⟨by rfl, ?_⟩) ?_ ?_
          rotate_left
          · intro w'
            go_simp
            with_reducible rfl
          rotate_left
          · simp only [Act.put, List.setIfInBounds_toArray, List.set_cons_zero, List.set_cons_succ, i64_w, i32_w]
            rfl
          exact norm_ (by first | (simp only [putAll, Act.put, List.setIfInBounds_toArray, List.set_cons_zero, List.set_cons_succ]; done) | (simp only [putAll, Act.put, List.setIfInBounds_toArray, List.set_cons_zero, List.set_cons_succ]; rfl)) (hCont (y, x1, x2, b1) _ ⟨hHeld, r3.out, r5.out, r7.out, l3.out, l5.out, l7.out, by have ed13 := d13.out; have ed17 := d17.out; have ed15 := d15.out; have ed37 := d37.out; have ed35 := d35.out; have ed75 := d75.out; show x1 ≠ x2 ∧ x1 ≠ b1 ∧ x2 ≠ b1; exact ⟨by omega, by omega, by omega⟩⟩)
      · skip
        refine value_ (w1 := ?_) (v := ?_) (by rfl) rfl ?_ ?_
        rotate_left 2
        · go_simp
          constructor
          · rfl
          · rfl
        have bk := (Below.refl V1.heap.size V1).alloc (Nat.le_refl _) (.cells (madeCells #[.slice none 0 0] m) 22)
        have r5 := Aside0.mk (RW.made V1 m (.slice none 0 0) 22)
        have d15 := Aside0.mk r1.out.lt
        have l5 := Aside0.mk hHeld.lt
        replace r1 := Aside0.mk (r1.out.step bk)
        replace hHeld := hHeld.step bk
        clear bk
        generalize V1.alloc (.cells (madeCells #[.slice none 0 0] m) 22) = V15 at hHeld r1 r5 ⊢
        generalize V1.heap.size = x2 at r5 l5 d15 ⊢
        refine hK.out _ _ (hHeld) (fun hHeld => ?_)
        clear hK K
        refine norm_ (a' := ?_) ?_ ?_
        rotate_left
        · show Act.put _ (some 29) _ = _
          simp only [Act.put, List.setIfInBounds_toArray, List.set_cons_zero, List.set_cons_succ, i64_w, i32_w]
          rfl
        refine two_ (i := 3) (j := 7) (Ni := some 27) (Nj := some 7) #[true, true, true, true, true, true, false, false, false] #[true, true, true, false, true, true, false, true, false] rfl rfl rfl rfl (by kernel_rfl) (by decide) (by decide) (fun K hK => ?_) (fun K hK => ?_)
        · skip
          refine goes_ Try.func37 (by kernel_rfl) rfl #[.slice (some ⟨y, 0, none⟩) 1 1, .int .i64 n] (by rfl) rfl rfl (by simp only [List.map_toArray, List.map_cons, List.map_nil]; rfl) ?_
          with_reducible refine (repeat_is ⟨y, 0, none⟩ 1 hv n _ (r1.out.e 0 (by decide)) r1.out.lt HN.out).mono ?_
          rintro e V153 ⟨x1, rfl, q3, r3, bk⟩
          refine ⟨_, rfl, ?_⟩
          have r3 := Aside0.mk r3
          have d13 := Aside0.mk (Nat.lt_of_lt_of_le r1.out.lt q3)
          have d53 := Aside0.mk (Nat.lt_of_lt_of_le r5.out.lt q3)
          have l3 := Aside0.mk (Nat.lt_of_lt_of_le hHeld.lt q3)
          replace r1 := Aside0.mk (r1.out.step bk)
          replace r5 := Aside0.mk (r5.out.step bk)
          replace hHeld := hHeld.step bk
          clear bk q3
          refine hK.out _ _ (hHeld) (fun hHeld => ?_)
          clear hK K
          refine norm_ (a' := ?_) ?_ ?_
          rotate_left
          · show Act.put _ (some 27) _ = _
            simp only [Act.put, List.setIfInBounds_toArray, List.set_cons_zero, List.set_cons_succ, i64_w, i32_w]
            rfl
          refine pure_ (i := 6) (N := some 30) (v := ?_) (a' := ?_) #[true, true, true, true, true, true, true, false, false] rfl rfl (by kernel_rfl) (fun _ _ _ h => h) (Or.inl ⟨by rfl, ?_⟩) ?_ ?_
          rotate_left
          · intro w'
            go_simp
            with_reducible rfl
          rotate_left
          · simp only [Act.put, List.setIfInBounds_toArray, List.set_cons_zero, List.set_cons_succ, i64_w, i32_w]
            rfl
          refine one_ (i := 7) (N := some 7) #[true, true, true, true, true, true, true, true, false] rfl rfl (by kernel_rfl) (by decide) (fun K hK => ?_)
          refine value_ (w1 := ?_) (v := ?_) (by rfl) rfl ?_ ?_
          rotate_left 2
          · go_simp
            constructor
            · rfl
            · rfl
          have bk := (Below.refl V153.heap.size V153).alloc (Nat.le_refl _) (.cells #[.slice none 0 0, .slice none 0 0] 25)
          have r7 := Aside0.mk (RW.two V153 (.slice none 0 0) 25)
          have d17 := Aside0.mk r1.out.lt
          have d57 := Aside0.mk r5.out.lt
          have d37 := Aside0.mk r3.out.lt
          have l7 := Aside0.mk hHeld.lt
          replace r1 := Aside0.mk (r1.out.step bk)
          replace r5 := Aside0.mk (r5.out.step bk)
          replace r3 := Aside0.mk (r3.out.step bk)
          replace hHeld := hHeld.step bk
          clear bk
          generalize V153.alloc (.cells #[.slice none 0 0, .slice none 0 0] 25) = V1537 at hHeld r1 r5 r3 r7 ⊢
          generalize V153.heap.size = b1 at r7 l7 d17 d57 d37 ⊢
          refine hK.out _ _ (hHeld) (fun hHeld => ?_)
          clear hK K
          refine norm_ (a' := ?_) ?_ ?_
          rotate_left
          · show Act.put _ (some 7) _ = _
            simp only [Act.put, List.setIfInBounds_toArray, List.set_cons_zero, List.set_cons_succ, i64_w, i32_w]
            rfl
          exact norm_ (by first | (simp only [putAll, Act.put, List.setIfInBounds_toArray, List.set_cons_zero, List.set_cons_succ]; done) | (simp only [putAll, Act.put, List.setIfInBounds_toArray, List.set_cons_zero, List.set_cons_succ]; rfl)) (hCont (y, x1, x2, b1) _ ⟨hHeld, r3.out, r5.out, r7.out, l3.out, l5.out, l7.out, by have ed15 := d15.out; have ed13 := d13.out; have ed17 := d17.out; have ed53 := d53.out; have ed57 := d57.out; have ed37 := d37.out; show x1 ≠ x2 ∧ x1 ≠ b1 ∧ x2 ≠ b1; exact ⟨by omega, by omega, by omega⟩⟩)
        · skip
          refine value_ (w1 := ?_) (v := ?_) (by rfl) rfl ?_ ?_
          rotate_left 2
          · go_simp
            constructor
            · rfl
            · rfl
          have bk := (Below.refl V15.heap.size V15).alloc (Nat.le_refl _) (.cells #[.slice none 0 0, .slice none 0 0] 25)
          have r7 := Aside0.mk (RW.two V15 (.slice none 0 0) 25)
          have d17 := Aside0.mk r1.out.lt
          have d57 := Aside0.mk r5.out.lt
          have l7 := Aside0.mk hHeld.lt
          replace r1 := Aside0.mk (r1.out.step bk)
          replace r5 := Aside0.mk (r5.out.step bk)
          replace hHeld := hHeld.step bk
          clear bk
          generalize V15.alloc (.cells #[.slice none 0 0, .slice none 0 0] 25) = V157 at hHeld r1 r5 r7 ⊢
          generalize V15.heap.size = b1 at r7 l7 d17 d57 ⊢
          refine hK.out _ _ (hHeld) (fun hHeld => ?_)
          clear hK K
          refine norm_ (a' := ?_) ?_ ?_
          rotate_left
          · show Act.put _ (some 7) _ = _
            simp only [Act.put, List.setIfInBounds_toArray, List.set_cons_zero, List.set_cons_succ, i64_w, i32_w]
            rfl
          refine one_ (i := 3) (N := some 27) #[true, true, true, true, true, true, false, true, false] rfl rfl (by kernel_rfl) (by decide) (fun K hK => ?_)
          refine goes_ Try.func37 (by kernel_rfl) rfl #[.slice (some ⟨y, 0, none⟩) 1 1, .int .i64 n] (by rfl) rfl rfl (by simp only [List.map_toArray, List.map_cons, List.map_nil]; rfl) ?_
          with_reducible refine (repeat_is ⟨y, 0, none⟩ 1 hv n _ (r1.out.e 0 (by decide)) r1.out.lt HN.out).mono ?_
          rintro e V1573 ⟨x1, rfl, q3, r3, bk⟩
          refine ⟨_, rfl, ?_⟩
          have r3 := Aside0.mk r3
          have d13 := Aside0.mk (Nat.lt_of_lt_of_le r1.out.lt q3)
          have d53 := Aside0.mk (Nat.lt_of_lt_of_le r5.out.lt q3)
          have d73 := Aside0.mk (Nat.lt_of_lt_of_le r7.out.lt q3)
          have l3 := Aside0.mk (Nat.lt_of_lt_of_le hHeld.lt q3)
          replace r1 := Aside0.mk (r1.out.step bk)
          replace r5 := Aside0.mk (r5.out.step bk)
          replace r7 := Aside0.mk (r7.out.step bk)
          replace hHeld := hHeld.step bk
          clear bk q3
          refine hK.out _ _ (hHeld) (fun hHeld => ?_)
          clear hK K
          refine norm_ (a' := ?_) ?_ ?_
          rotate_left
          · show Act.put _ (some 27) _ = _
            simp only [Act.put, List.setIfInBounds_toArray, List.set_cons_zero, List.set_cons_succ, i64_w, i32_w]
            rfl
          refine pure_ (i := 6) (N := some 30) (v := ?_) (a' := ?_) #[true, true, true, true, true, true, true, true, false] rfl rfl (by kernel_rfl) (fun _ _ _ h => h) (Or.inl ⟨by rfl, ?_⟩) ?_ ?_
          rotate_left
          · intro w'
            go_simp
            with_reducible rfl
          rotate_left
          · simp only [Act.put, List.setIfInBounds_toArray, List.set_cons_zero, List.set_cons_succ, i64_w, i32_w]
            rfl
          exact norm_ (by first | (simp only [putAll, Act.put, List.setIfInBounds_toArray, List.set_cons_zero, List.set_cons_succ]; done) | (simp only [putAll, Act.put, List.setIfInBounds_toArray, List.set_cons_zero, List.set_cons_succ]; rfl)) (hCont (y, x1, x2, b1) _ ⟨hHeld, r3.out, r5.out, r7.out, l3.out, l5.out, l7.out, by have ed15 := d15.out; have ed17 := d17.out; have ed13 := d13.out; have ed57 := d57.out; have ed53 := d53.out; have ed73 := d73.out; show x1 ≠ x2 ∧ x1 ≠ b1 ∧ x2 ≠ b1; exact ⟨by omega, by omega, by omega⟩⟩)
      · skip
        refine value_ (w1 := ?_) (v := ?_) (by rfl) rfl ?_ ?_
        rotate_left 2
        · go_simp
          constructor
          · rfl
          · rfl
        have bk := (Below.refl V1.heap.size V1).alloc (Nat.le_refl _) (.cells #[.slice none 0 0, .slice none 0 0] 25)
        have r7 := Aside0.mk (RW.two V1 (.slice none 0 0) 25)
        have d17 := Aside0.mk r1.out.lt
        have l7 := Aside0.mk hHeld.lt
        replace r1 := Aside0.mk (r1.out.step bk)
        replace hHeld := hHeld.step bk
        clear bk
        generalize V1.alloc (.cells #[.slice none 0 0, .slice none 0 0] 25) = V17 at hHeld r1 r7 ⊢
        generalize V1.heap.size = b1 at r7 l7 d17 ⊢
        refine hK.out _ _ (hHeld) (fun hHeld => ?_)
        clear hK K
        refine norm_ (a' := ?_) ?_ ?_
        rotate_left
        · show Act.put _ (some 7) _ = _
          simp only [Act.put, List.setIfInBounds_toArray, List.set_cons_zero, List.set_cons_succ, i64_w, i32_w]
          rfl
        refine two_ (i := 3) (j := 5) (Ni := some 27) (Nj := some 29) #[true, true, true, true, true, false, false, true, false] #[true, true, true, false, true, true, false, true, false] rfl rfl rfl rfl (by kernel_rfl) (by decide) (by decide) (fun K hK => ?_) (fun K hK => ?_)
        · skip
          refine goes_ Try.func37 (by kernel_rfl) rfl #[.slice (some ⟨y, 0, none⟩) 1 1, .int .i64 n] (by rfl) rfl rfl (by simp only [List.map_toArray, List.map_cons, List.map_nil]; rfl) ?_
          with_reducible refine (repeat_is ⟨y, 0, none⟩ 1 hv n _ (r1.out.e 0 (by decide)) r1.out.lt HN.out).mono ?_
          rintro e V173 ⟨x1, rfl, q3, r3, bk⟩
          refine ⟨_, rfl, ?_⟩
          have r3 := Aside0.mk r3
          have d13 := Aside0.mk (Nat.lt_of_lt_of_le r1.out.lt q3)
          have d73 := Aside0.mk (Nat.lt_of_lt_of_le r7.out.lt q3)
          have l3 := Aside0.mk (Nat.lt_of_lt_of_le hHeld.lt q3)
          replace r1 := Aside0.mk (r1.out.step bk)
          replace r7 := Aside0.mk (r7.out.step bk)
          replace hHeld := hHeld.step bk
          clear bk q3
          refine hK.out _ _ (hHeld) (fun hHeld => ?_)
          clear hK K
          refine norm_ (a' := ?_) ?_ ?_
          rotate_left
          · show Act.put _ (some 27) _ = _
            simp only [Act.put, List.setIfInBounds_toArray, List.set_cons_zero, List.set_cons_succ, i64_w, i32_w]
            rfl
          refine one_ (i := 5) (N := some 29) #[true, true, true, true, true, true, false, true, false] rfl rfl (by kernel_rfl) (by decide) (fun K hK => ?_)
          refine value_ (w1 := ?_) (v := ?_) (by rfl) rfl ?_ ?_
          rotate_left 2
          · go_simp
            constructor
            · rfl
            · rfl
          have bk := (Below.refl V173.heap.size V173).alloc (Nat.le_refl _) (.cells (madeCells #[.slice none 0 0] m) 22)
          have r5 := Aside0.mk (RW.made V173 m (.slice none 0 0) 22)
          have d15 := Aside0.mk r1.out.lt
          have d75 := Aside0.mk r7.out.lt
          have d35 := Aside0.mk r3.out.lt
          have l5 := Aside0.mk hHeld.lt
          replace r1 := Aside0.mk (r1.out.step bk)
          replace r7 := Aside0.mk (r7.out.step bk)
          replace r3 := Aside0.mk (r3.out.step bk)
          replace hHeld := hHeld.step bk
          clear bk
          generalize V173.alloc (.cells (madeCells #[.slice none 0 0] m) 22) = V1735 at hHeld r1 r7 r3 r5 ⊢
          generalize V173.heap.size = x2 at r5 l5 d15 d75 d35 ⊢
          refine hK.out _ _ (hHeld) (fun hHeld => ?_)
          clear hK K
          refine norm_ (a' := ?_) ?_ ?_
          rotate_left
          · show Act.put _ (some 29) _ = _
            simp only [Act.put, List.setIfInBounds_toArray, List.set_cons_zero, List.set_cons_succ, i64_w, i32_w]
            rfl
          refine pure_ (i := 6) (N := some 30) (v := ?_) (a' := ?_) #[true, true, true, true, true, true, true, true, false] rfl rfl (by kernel_rfl) (fun _ _ _ h => h) (Or.inl ⟨by rfl, ?_⟩) ?_ ?_
          rotate_left
          · intro w'
            go_simp
            with_reducible rfl
          rotate_left
          · simp only [Act.put, List.setIfInBounds_toArray, List.set_cons_zero, List.set_cons_succ, i64_w, i32_w]
            rfl
          exact norm_ (by first | (simp only [putAll, Act.put, List.setIfInBounds_toArray, List.set_cons_zero, List.set_cons_succ]; done) | (simp only [putAll, Act.put, List.setIfInBounds_toArray, List.set_cons_zero, List.set_cons_succ]; rfl)) (hCont (y, x1, x2, b1) _ ⟨hHeld, r3.out, r5.out, r7.out, l3.out, l5.out, l7.out, by have ed17 := d17.out; have ed13 := d13.out; have ed15 := d15.out; have ed73 := d73.out; have ed75 := d75.out; have ed35 := d35.out; show x1 ≠ x2 ∧ x1 ≠ b1 ∧ x2 ≠ b1; exact ⟨by omega, by omega, by omega⟩⟩)
        · skip
          refine value_ (w1 := ?_) (v := ?_) (by rfl) rfl ?_ ?_
          rotate_left 2
          · go_simp
            constructor
            · rfl
            · rfl
          have bk := (Below.refl V17.heap.size V17).alloc (Nat.le_refl _) (.cells (madeCells #[.slice none 0 0] m) 22)
          have r5 := Aside0.mk (RW.made V17 m (.slice none 0 0) 22)
          have d15 := Aside0.mk r1.out.lt
          have d75 := Aside0.mk r7.out.lt
          have l5 := Aside0.mk hHeld.lt
          replace r1 := Aside0.mk (r1.out.step bk)
          replace r7 := Aside0.mk (r7.out.step bk)
          replace hHeld := hHeld.step bk
          clear bk
          generalize V17.alloc (.cells (madeCells #[.slice none 0 0] m) 22) = V175 at hHeld r1 r7 r5 ⊢
          generalize V17.heap.size = x2 at r5 l5 d15 d75 ⊢
          refine hK.out _ _ (hHeld) (fun hHeld => ?_)
          clear hK K
          refine norm_ (a' := ?_) ?_ ?_
          rotate_left
          · show Act.put _ (some 29) _ = _
            simp only [Act.put, List.setIfInBounds_toArray, List.set_cons_zero, List.set_cons_succ, i64_w, i32_w]
            rfl
          refine one_ (i := 3) (N := some 27) #[true, true, true, true, true, true, false, true, false] rfl rfl (by kernel_rfl) (by decide) (fun K hK => ?_)
          refine goes_ Try.func37 (by kernel_rfl) rfl #[.slice (some ⟨y, 0, none⟩) 1 1, .int .i64 n] (by rfl) rfl rfl (by simp only [List.map_toArray, List.map_cons, List.map_nil]; rfl) ?_
          with_reducible refine (repeat_is ⟨y, 0, none⟩ 1 hv n _ (r1.out.e 0 (by decide)) r1.out.lt HN.out).mono ?_
          rintro e V1753 ⟨x1, rfl, q3, r3, bk⟩
          refine ⟨_, rfl, ?_⟩
          have r3 := Aside0.mk r3
          have d13 := Aside0.mk (Nat.lt_of_lt_of_le r1.out.lt q3)
          have d73 := Aside0.mk (Nat.lt_of_lt_of_le r7.out.lt q3)
          have d53 := Aside0.mk (Nat.lt_of_lt_of_le r5.out.lt q3)
          have l3 := Aside0.mk (Nat.lt_of_lt_of_le hHeld.lt q3)
          replace r1 := Aside0.mk (r1.out.step bk)
          replace r7 := Aside0.mk (r7.out.step bk)
          replace r5 := Aside0.mk (r5.out.step bk)
          replace hHeld := hHeld.step bk
          clear bk q3
          refine hK.out _ _ (hHeld) (fun hHeld => ?_)
          clear hK K
          refine norm_ (a' := ?_) ?_ ?_
          rotate_left
          · show Act.put _ (some 27) _ = _
            simp only [Act.put, List.setIfInBounds_toArray, List.set_cons_zero, List.set_cons_succ, i64_w, i32_w]
            rfl
          refine pure_ (i := 6) (N := some 30) (v := ?_) (a' := ?_) #[true, true, true, true, true, true, true, true, false] rfl rfl (by kernel_rfl) (fun _ _ _ h => h) (Or.inl ⟨by rfl, ?_⟩) ?_ ?_
          rotate_left
          · intro w'
            go_simp
            with_reducible rfl
          rotate_left
          · simp only [Act.put, List.setIfInBounds_toArray, List.set_cons_zero, List.set_cons_succ, i64_w, i32_w]
            rfl
          exact norm_ (by first | (simp only [putAll, Act.put, List.setIfInBounds_toArray, List.set_cons_zero, List.set_cons_succ]; done) | (simp only [putAll, Act.put, List.setIfInBounds_toArray, List.set_cons_zero, List.set_cons_succ]; rfl)) (hCont (y, x1, x2, b1) _ ⟨hHeld, r3.out, r5.out, r7.out, l3.out, l5.out, l7.out, by have ed17 := d17.out; have ed15 := d15.out; have ed13 := d13.out; have ed75 := d75.out; have ed73 := d73.out; have ed53 := d53.out; show x1 ≠ x2 ∧ x1 ≠ b1 ∧ x2 ≠ b1; exact ⟨by omega, by omega, by omega⟩⟩)
    · skip
      refine value_ (w1 := ?_) (v := ?_) (by rfl) rfl ?_ ?_
      rotate_left 2
      · go_simp
        constructor
        · rfl
        · rfl
      have bk := (Below.refl V.heap.size V).alloc (Nat.le_refl _) (.cells (madeCells #[.slice none 0 0] m) 22)
      have r5 := Aside0.mk (RW.made V m (.slice none 0 0) 22)
      have l5 := Aside0.mk hHeld.lt
      replace hHeld := hHeld.step bk
      clear bk
      generalize V.alloc (.cells (madeCells #[.slice none 0 0] m) 22) = V5 at hHeld r5 ⊢
      generalize V.heap.size = x2 at r5 l5  ⊢
      refine hK.out _ _ (hHeld) (fun hHeld => ?_)
      clear hK K
      refine norm_ (a' := ?_) ?_ ?_
      rotate_left
      · show Act.put _ (some 29) _ = _
        simp only [Act.put, List.setIfInBounds_toArray, List.set_cons_zero, List.set_cons_succ, i64_w, i32_w]
        rfl
      refine two_ (i := 1) (j := 7) (Ni := some 25) (Nj := some 7) #[true, true, true, false, true, true, false, false, false] #[true, false, true, false, true, true, false, true, false] rfl rfl rfl rfl (by kernel_rfl) (by decide) (by decide) (fun K hK => ?_) (fun K hK => ?_)
      · skip
        refine value_ (w1 := ?_) (v := ?_) (by rfl) rfl ?_ ?_
        rotate_left 2
        · go_simp
          constructor
          · rfl
          · rfl
        have bk := (Below.refl V5.heap.size V5).alloc (Nat.le_refl _) (.cells #[.int .i64 hv] 3)
        have r1 := Aside0.mk (RW.one V5 (.int .i64 hv) 3)
        have d51 := Aside0.mk r5.out.lt
        have l1 := Aside0.mk hHeld.lt
        replace r5 := Aside0.mk (r5.out.step bk)
        replace hHeld := hHeld.step bk
        clear bk
        generalize V5.alloc (.cells #[.int .i64 hv] 3) = V51 at hHeld r5 r1 ⊢
        generalize V5.heap.size = y at r1 l1 d51 ⊢
        refine hK.out _ _ (hHeld) (fun hHeld => ?_)
        clear hK K
        refine norm_ (a' := ?_) ?_ ?_
        rotate_left
        · show Act.put _ (some 25) _ = _
          simp only [Act.put, List.setIfInBounds_toArray, List.set_cons_zero, List.set_cons_succ, i64_w, i32_w]
          rfl
        refine two_ (i := 3) (j := 7) (Ni := some 27) (Nj := some 7) #[true, true, true, true, true, true, false, false, false] #[true, true, true, false, true, true, false, true, false] rfl rfl rfl rfl (by kernel_rfl) (by decide) (by decide) (fun K hK => ?_) (fun K hK => ?_)
        · skip
          refine goes_ Try.func37 (by kernel_rfl) rfl #[.slice (some ⟨y, 0, none⟩) 1 1, .int .i64 n] (by rfl) rfl rfl (by simp only [List.map_toArray, List.map_cons, List.map_nil]; rfl) ?_
          with_reducible refine (repeat_is ⟨y, 0, none⟩ 1 hv n _ (r1.out.e 0 (by decide)) r1.out.lt HN.out).mono ?_
          rintro e V513 ⟨x1, rfl, q3, r3, bk⟩
          refine ⟨_, rfl, ?_⟩
          have r3 := Aside0.mk r3
          have d53 := Aside0.mk (Nat.lt_of_lt_of_le r5.out.lt q3)
          have d13 := Aside0.mk (Nat.lt_of_lt_of_le r1.out.lt q3)
          have l3 := Aside0.mk (Nat.lt_of_lt_of_le hHeld.lt q3)
          replace r5 := Aside0.mk (r5.out.step bk)
          replace r1 := Aside0.mk (r1.out.step bk)
          replace hHeld := hHeld.step bk
          clear bk q3
          refine hK.out _ _ (hHeld) (fun hHeld => ?_)
          clear hK K
          refine norm_ (a' := ?_) ?_ ?_
          rotate_left
          · show Act.put _ (some 27) _ = _
            simp only [Act.put, List.setIfInBounds_toArray, List.set_cons_zero, List.set_cons_succ, i64_w, i32_w]
            rfl
          refine pure_ (i := 6) (N := some 30) (v := ?_) (a' := ?_) #[true, true, true, true, true, true, true, false, false] rfl rfl (by kernel_rfl) (fun _ _ _ h => h) (Or.inl ⟨by rfl, ?_⟩) ?_ ?_
          rotate_left
          · intro w'
            go_simp
            with_reducible rfl
          rotate_left
          · simp only [Act.put, List.setIfInBounds_toArray, List.set_cons_zero, List.set_cons_succ, i64_w, i32_w]
            rfl
          refine one_ (i := 7) (N := some 7) #[true, true, true, true, true, true, true, true, false] rfl rfl (by kernel_rfl) (by decide) (fun K hK => ?_)
          refine value_ (w1 := ?_) (v := ?_) (by rfl) rfl ?_ ?_
          rotate_left 2
          · go_simp
            constructor
            · rfl
            · rfl
          have bk := (Below.refl V513.heap.size V513).alloc (Nat.le_refl _) (.cells #[.slice none 0 0, .slice none 0 0] 25)
          have r7 := Aside0.mk (RW.two V513 (.slice none 0 0) 25)
          have d57 := Aside0.mk r5.out.lt
          have d17 := Aside0.mk r1.out.lt
          have d37 := Aside0.mk r3.out.lt
          have l7 := Aside0.mk hHeld.lt
          replace r5 := Aside0.mk (r5.out.step bk)
          replace r1 := Aside0.mk (r1.out.step bk)
          replace r3 := Aside0.mk (r3.out.step bk)
          replace hHeld := hHeld.step bk
          clear bk
          generalize V513.alloc (.cells #[.slice none 0 0, .slice none 0 0] 25) = V5137 at hHeld r5 r1 r3 r7 ⊢
          generalize V513.heap.size = b1 at r7 l7 d57 d17 d37 ⊢
          refine hK.out _ _ (hHeld) (fun hHeld => ?_)
          clear hK K
          refine norm_ (a' := ?_) ?_ ?_
          rotate_left
          · show Act.put _ (some 7) _ = _
            simp only [Act.put, List.setIfInBounds_toArray, List.set_cons_zero, List.set_cons_succ, i64_w, i32_w]
            rfl
          exact norm_ (by first | (simp only [putAll, Act.put, List.setIfInBounds_toArray, List.set_cons_zero, List.set_cons_succ]; done) | (simp only [putAll, Act.put, List.setIfInBounds_toArray, List.set_cons_zero, List.set_cons_succ]; rfl)) (hCont (y, x1, x2, b1) _ ⟨hHeld, r3.out, r5.out, r7.out, l3.out, l5.out, l7.out, by have ed51 := d51.out; have ed53 := d53.out; have ed57 := d57.out; have ed13 := d13.out; have ed17 := d17.out; have ed37 := d37.out; show x1 ≠ x2 ∧ x1 ≠ b1 ∧ x2 ≠ b1; exact ⟨by omega, by omega, by omega⟩⟩)
        · skip
          refine value_ (w1 := ?_) (v := ?_) (by rfl) rfl ?_ ?_
          rotate_left 2
          · go_simp
            constructor
            · rfl
            · rfl
          have bk := (Below.refl V51.heap.size V51).alloc (Nat.le_refl _) (.cells #[.slice none 0 0, .slice none 0 0] 25)
          have r7 := Aside0.mk (RW.two V51 (.slice none 0 0) 25)
          have d57 := Aside0.mk r5.out.lt
          have d17 := Aside0.mk r1.out.lt
          have l7 := Aside0.mk hHeld.lt
          replace r5 := Aside0.mk (r5.out.step bk)
          replace r1 := Aside0.mk (r1.out.step bk)
          replace hHeld := hHeld.step bk
          clear bk
          generalize V51.alloc (.cells #[.slice none 0 0, .slice none 0 0] 25) = V517 at hHeld r5 r1 r7 ⊢
          generalize V51.heap.size = b1 at r7 l7 d57 d17 ⊢
          refine hK.out _ _ (hHeld) (fun hHeld => ?_)
          clear hK K
          refine norm_ (a' := ?_) ?_ ?_
          rotate_left
          · show Act.put _ (some 7) _ = _
            simp only [Act.put, List.setIfInBounds_toArray, List.set_cons_zero, List.set_cons_succ, i64_w, i32_w]
            rfl
          refine one_ (i := 3) (N := some 27) #[true, true, true, true, true, true, false, true, false] rfl rfl (by kernel_rfl) (by decide) (fun K hK => ?_)
          refine goes_ Try.func37 (by kernel_rfl) rfl #[.slice (some ⟨y, 0, none⟩) 1 1, .int .i64 n] (by rfl) rfl rfl (by simp only [List.map_toArray, List.map_cons, List.map_nil]; rfl) ?_
          with_reducible refine (repeat_is ⟨y, 0, none⟩ 1 hv n _ (r1.out.e 0 (by decide)) r1.out.lt HN.out).mono ?_
          rintro e V5173 ⟨x1, rfl, q3, r3, bk⟩
          refine ⟨_, rfl, ?_⟩
          have r3 := Aside0.mk r3
          have d53 := Aside0.mk (Nat.lt_of_lt_of_le r5.out.lt q3)
          have d13 := Aside0.mk (Nat.lt_of_lt_of_le r1.out.lt q3)
          have d73 := Aside0.mk (Nat.lt_of_lt_of_le r7.out.lt q3)
          have l3 := Aside0.mk (Nat.lt_of_lt_of_le hHeld.lt q3)
          replace r5 := Aside0.mk (r5.out.step bk)
          replace r1 := Aside0.mk (r1.out.step bk)
          replace r7 := Aside0.mk (r7.out.step bk)
          replace hHeld := hHeld.step bk
          clear bk q3
          refine hK.out _ _ (hHeld) (fun hHeld => ?_)
          clear hK K
          refine norm_ (a' := ?_) ?_ ?_
          rotate_left
          · show Act.put _ (some 27) _ = _
            simp only [Act.put, List.setIfInBounds_toArray, List.set_cons_zero, List.set_cons_succ, i64_w, i32_w]
            rfl
          refine pure_ (i := 6) (N := some 30) (v := ?_) (a' := ?_) #[true, true, true, true, true, true, true, true, false] rfl rfl (by kernel_rfl) (fun _ _ _ h => h) (Or.inl ⟨by rfl, ?_⟩) ?_ ?_
          rotate_left
          · intro w'
            go_simp
            with_reducible rfl
          rotate_left
          · simp only [Act.put, List.setIfInBounds_toArray, List.set_cons_zero, List.set_cons_succ, i64_w, i32_w]
            rfl
          exact norm_ (by first | (simp only [putAll, Act.put, List.setIfInBounds_toArray, List.set_cons_zero, List.set_cons_succ]; done) | (simp only [putAll, Act.put, List.setIfInBounds_toArray, List.set_cons_zero, List.set_cons_succ]; rfl)) (hCont (y, x1, x2, b1) _ ⟨hHeld, r3.out, r5.out, r7.out, l3.out, l5.out, l7.out, by have ed51 := d51.out; have ed57 := d57.out; have ed53 := d53.out; have ed17 := d17.out; have ed13 := d13.out; have ed73 := d73.out; show x1 ≠ x2 ∧ x1 ≠ b1 ∧ x2 ≠ b1; exact ⟨by omega, by omega, by omega⟩⟩)
      · skip
        refine value_ (w1 := ?_) (v := ?_) (by rfl) rfl ?_ ?_
        rotate_left 2
        · go_simp
          constructor
          · rfl
          · rfl
        have bk := (Below.refl V5.heap.size V5).alloc (Nat.le_refl _) (.cells #[.slice none 0 0, .slice none 0 0] 25)
        have r7 := Aside0.mk (RW.two V5 (.slice none 0 0) 25)
        have d57 := Aside0.mk r5.out.lt
        have l7 := Aside0.mk hHeld.lt
        replace r5 := Aside0.mk (r5.out.step bk)
        replace hHeld := hHeld.step bk
        clear bk
        generalize V5.alloc (.cells #[.slice none 0 0, .slice none 0 0] 25) = V57 at hHeld r5 r7 ⊢
        generalize V5.heap.size = b1 at r7 l7 d57 ⊢
        refine hK.out _ _ (hHeld) (fun hHeld => ?_)
        clear hK K
        refine norm_ (a' := ?_) ?_ ?_
        rotate_left
        · show Act.put _ (some 7) _ = _
          simp only [Act.put, List.setIfInBounds_toArray, List.set_cons_zero, List.set_cons_succ, i64_w, i32_w]
          rfl
        refine one_ (i := 1) (N := some 25) #[true, true, true, false, true, true, false, true, false] rfl rfl (by kernel_rfl) (by decide) (fun K hK => ?_)
        refine value_ (w1 := ?_) (v := ?_) (by rfl) rfl ?_ ?_
        rotate_left 2
        · go_simp
          constructor
          · rfl
          · rfl
        have bk := (Below.refl V57.heap.size V57).alloc (Nat.le_refl _) (.cells #[.int .i64 hv] 3)
        have r1 := Aside0.mk (RW.one V57 (.int .i64 hv) 3)
        have d51 := Aside0.mk r5.out.lt
        have d71 := Aside0.mk r7.out.lt
        have l1 := Aside0.mk hHeld.lt
        replace r5 := Aside0.mk (r5.out.step bk)
        replace r7 := Aside0.mk (r7.out.step bk)
        replace hHeld := hHeld.step bk
        clear bk
        generalize V57.alloc (.cells #[.int .i64 hv] 3) = V571 at hHeld r5 r7 r1 ⊢
        generalize V57.heap.size = y at r1 l1 d51 d71 ⊢
        refine hK.out _ _ (hHeld) (fun hHeld => ?_)
        clear hK K
        refine norm_ (a' := ?_) ?_ ?_
        rotate_left
        · show Act.put _ (some 25) _ = _
          simp only [Act.put, List.setIfInBounds_toArray, List.set_cons_zero, List.set_cons_succ, i64_w, i32_w]
          rfl
        refine one_ (i := 3) (N := some 27) #[true, true, true, true, true, true, false, true, false] rfl rfl (by kernel_rfl) (by decide) (fun K hK => ?_)
        refine goes_ Try.func37 (by kernel_rfl) rfl #[.slice (some ⟨y, 0, none⟩) 1 1, .int .i64 n] (by rfl) rfl rfl (by simp only [List.map_toArray, List.map_cons, List.map_nil]; rfl) ?_
        with_reducible refine (repeat_is ⟨y, 0, none⟩ 1 hv n _ (r1.out.e 0 (by decide)) r1.out.lt HN.out).mono ?_
        rintro e V5713 ⟨x1, rfl, q3, r3, bk⟩
        refine ⟨_, rfl, ?_⟩
        have r3 := Aside0.mk r3
        have d53 := Aside0.mk (Nat.lt_of_lt_of_le r5.out.lt q3)
        have d73 := Aside0.mk (Nat.lt_of_lt_of_le r7.out.lt q3)
        have d13 := Aside0.mk (Nat.lt_of_lt_of_le r1.out.lt q3)
        have l3 := Aside0.mk (Nat.lt_of_lt_of_le hHeld.lt q3)
        replace r5 := Aside0.mk (r5.out.step bk)
        replace r7 := Aside0.mk (r7.out.step bk)
        replace r1 := Aside0.mk (r1.out.step bk)
        replace hHeld := hHeld.step bk
        clear bk q3
        refine hK.out _ _ (hHeld) (fun hHeld => ?_)
        clear hK K
        refine norm_ (a' := ?_) ?_ ?_
        rotate_left
        · show Act.put _ (some 27) _ = _
          simp only [Act.put, List.setIfInBounds_toArray, List.set_cons_zero, List.set_cons_succ, i64_w, i32_w]
          rfl
        refine pure_ (i := 6) (N := some 30) (v := ?_) (a' := ?_) #[true, true, true, true, true, true, true, true, false] rfl rfl (by kernel_rfl) (fun _ _ _ h => h) (Or.inl ⟨by rfl, ?_⟩) ?_ ?_
        rotate_left
        · intro w'
          go_simp
          with_reducible rfl
        rotate_left
        · simp only [Act.put, List.setIfInBounds_toArray, List.set_cons_zero, List.set_cons_succ, i64_w, i32_w]
          rfl
        exact norm_ (by first | (simp only [putAll, Act.put, List.setIfInBounds_toArray, List.set_cons_zero, List.set_cons_succ]; done) | (simp only [putAll, Act.put, List.setIfInBounds_toArray, List.set_cons_zero, List.set_cons_succ]; rfl)) (hCont (y, x1, x2, b1) _ ⟨hHeld, r3.out, r5.out, r7.out, l3.out, l5.out, l7.out, by have ed57 := d57.out; have ed51 := d51.out; have ed53 := d53.out; have ed71 := d71.out; have ed73 := d73.out; have ed13 := d13.out; show x1 ≠ x2 ∧ x1 ≠ b1 ∧ x2 ≠ b1; exact ⟨by omega, by omega, by omega⟩⟩)
    · skip
      refine value_ (w1 := ?_) (v := ?_) (by rfl) rfl ?_ ?_
      rotate_left 2
      · go_simp
        constructor
        · rfl
        · rfl
      have bk := (Below.refl V.heap.size V).alloc (Nat.le_refl _) (.cells #[.slice none 0 0, .slice none 0 0] 25)
      have r7 := Aside0.mk (RW.two V (.slice none 0 0) 25)
      have l7 := Aside0.mk hHeld.lt
      replace hHeld := hHeld.step bk
      clear bk
      generalize V.alloc (.cells #[.slice none 0 0, .slice none 0 0] 25) = V7 at hHeld r7 ⊢
      generalize V.heap.size = b1 at r7 l7  ⊢
      refine hK.out _ _ (hHeld) (fun hHeld => ?_)
      clear hK K
      refine norm_ (a' := ?_) ?_ ?_
      rotate_left
      · show Act.put _ (some 7) _ = _
        simp only [Act.put, List.setIfInBounds_toArray, List.set_cons_zero, List.set_cons_succ, i64_w, i32_w]
        rfl
      refine two_ (i := 1) (j := 5) (Ni := some 25) (Nj := some 29) #[true, true, true, false, true, false, false, true, false] #[true, false, true, false, true, true, false, true, false] rfl rfl rfl rfl (by kernel_rfl) (by decide) (by decide) (fun K hK => ?_) (fun K hK => ?_)
      · skip
        refine value_ (w1 := ?_) (v := ?_) (by rfl) rfl ?_ ?_
        rotate_left 2
        · go_simp
          constructor
          · rfl
          · rfl
        have bk := (Below.refl V7.heap.size V7).alloc (Nat.le_refl _) (.cells #[.int .i64 hv] 3)
        have r1 := Aside0.mk (RW.one V7 (.int .i64 hv) 3)
        have d71 := Aside0.mk r7.out.lt
        have l1 := Aside0.mk hHeld.lt
        replace r7 := Aside0.mk (r7.out.step bk)
        replace hHeld := hHeld.step bk
        clear bk
        generalize V7.alloc (.cells #[.int .i64 hv] 3) = V71 at hHeld r7 r1 ⊢
        generalize V7.heap.size = y at r1 l1 d71 ⊢
        refine hK.out _ _ (hHeld) (fun hHeld => ?_)
        clear hK K
        refine norm_ (a' := ?_) ?_ ?_
        rotate_left
        · show Act.put _ (some 25) _ = _
          simp only [Act.put, List.setIfInBounds_toArray, List.set_cons_zero, List.set_cons_succ, i64_w, i32_w]
          rfl
        refine two_ (i := 3) (j := 5) (Ni := some 27) (Nj := some 29) #[true, true, true, true, true, false, false, true, false] #[true, true, true, false, true, true, false, true, false] rfl rfl rfl rfl (by kernel_rfl) (by decide) (by decide) (fun K hK => ?_) (fun K hK => ?_)
        · skip
          refine goes_ Try.func37 (by kernel_rfl) rfl #[.slice (some ⟨y, 0, none⟩) 1 1, .int .i64 n] (by rfl) rfl rfl (by simp only [List.map_toArray, List.map_cons, List.map_nil]; rfl) ?_
          with_reducible refine (repeat_is ⟨y, 0, none⟩ 1 hv n _ (r1.out.e 0 (by decide)) r1.out.lt HN.out).mono ?_
          rintro e V713 ⟨x1, rfl, q3, r3, bk⟩
          refine ⟨_, rfl, ?_⟩
          have r3 := Aside0.mk r3
          have d73 := Aside0.mk (Nat.lt_of_lt_of_le r7.out.lt q3)
          have d13 := Aside0.mk (Nat.lt_of_lt_of_le r1.out.lt q3)
          have l3 := Aside0.mk (Nat.lt_of_lt_of_le hHeld.lt q3)
          replace r7 := Aside0.mk (r7.out.step bk)
          replace r1 := Aside0.mk (r1.out.step bk)
          replace hHeld := hHeld.step bk
          clear bk q3
          refine hK.out _ _ (hHeld) (fun hHeld => ?_)
          clear hK K
          refine norm_ (a' := ?_) ?_ ?_
          rotate_left
          · show Act.put _ (some 27) _ = _
            simp only [Act.put, List.setIfInBounds_toArray, List.set_cons_zero, List.set_cons_succ, i64_w, i32_w]
            rfl
          refine one_ (i := 5) (N := some 29) #[true, true, true, true, true, true, false, true, false] rfl rfl (by kernel_rfl) (by decide) (fun K hK => ?_)
          refine value_ (w1 := ?_) (v := ?_) (by rfl) rfl ?_ ?_
          rotate_left 2
          · go_simp
            constructor
            · rfl
            · rfl
          have bk := (Below.refl V713.heap.size V713).alloc (Nat.le_refl _) (.cells (madeCells #[.slice none 0 0] m) 22)
          have r5 := Aside0.mk (RW.made V713 m (.slice none 0 0) 22)
          have d75 := Aside0.mk r7.out.lt
          have d15 := Aside0.mk r1.out.lt
          have d35 := Aside0.mk r3.out.lt
          have l5 := Aside0.mk hHeld.lt
          replace r7 := Aside0.mk (r7.out.step bk)
          replace r1 := Aside0.mk (r1.out.step bk)
          replace r3 := Aside0.mk (r3.out.step bk)
          replace hHeld := hHeld.step bk
          clear bk
          generalize V713.alloc (.cells (madeCells #[.slice none 0 0] m) 22) = V7135 at hHeld r7 r1 r3 r5 ⊢
          generalize V713.heap.size = x2 at r5 l5 d75 d15 d35 ⊢
          refine hK.out _ _ (hHeld) (fun hHeld => ?_)
          clear hK K
          refine norm_ (a' := ?_) ?_ ?_
          rotate_left
          · show Act.put _ (some 29) _ = _
            simp only [Act.put, List.setIfInBounds_toArray, List.set_cons_zero, List.set_cons_succ, i64_w, i32_w]
            rfl
          refine pure_ (i := 6) (N := some 30) (v := ?_) (a' := ?_) #[true, true, true, true, true, true, true, true, false] rfl rfl (by kernel_rfl) (fun _ _ _ h => h) (Or.inl ⟨by rfl, ?_⟩) ?_ ?_
          rotate_left
          · intro w'
            go_simp
            with_reducible rfl
          rotate_left
          · simp only [Act.put, List.setIfInBounds_toArray, List.set_cons_zero, List.set_cons_succ, i64_w, i32_w]
            rfl
          exact norm_ (by first | (simp only [putAll, Act.put, List.setIfInBounds_toArray, List.set_cons_zero, List.set_cons_succ]; done) | (simp only [putAll, Act.put, List.setIfInBounds_toArray, List.set_cons_zero, List.set_cons_succ]; rfl)) (hCont (y, x1, x2, b1) _ ⟨hHeld, r3.out, r5.out, r7.out, l3.out, l5.out, l7.out, by have ed71 := d71.out; have ed73 := d73.out; have ed75 := d75.out; have ed13 := d13.out; have ed15 := d15.out; have ed35 := d35.out; show x1 ≠ x2 ∧ x1 ≠ b1 ∧ x2 ≠ b1; exact ⟨by omega, by omega, by omega⟩⟩)
        · skip
          refine value_ (w1 := ?_) (v := ?_) (by rfl) rfl ?_ ?_
          rotate_left 2
          · go_simp
            constructor
            · rfl
            · rfl
          have bk := (Below.refl V71.heap.size V71).alloc (Nat.le_refl _) (.cells (madeCells #[.slice none 0 0] m) 22)
          have r5 := Aside0.mk (RW.made V71 m (.slice none 0 0) 22)
          have d75 := Aside0.mk r7.out.lt
          have d15 := Aside0.mk r1.out.lt
          have l5 := Aside0.mk hHeld.lt
          replace r7 := Aside0.mk (r7.out.step bk)
          replace r1 := Aside0.mk (r1.out.step bk)
          replace hHeld := hHeld.step bk
          clear bk
          generalize V71.alloc (.cells (madeCells #[.slice none 0 0] m) 22) = V715 at hHeld r7 r1 r5 ⊢
          generalize V71.heap.size = x2 at r5 l5 d75 d15 ⊢
          refine hK.out _ _ (hHeld) (fun hHeld => ?_)
          clear hK K
          refine norm_ (a' := ?_) ?_ ?_
          rotate_left
          · show Act.put _ (some 29) _ = _
            simp only [Act.put, List.setIfInBounds_toArray, List.set_cons_zero, List.set_cons_succ, i64_w, i32_w]
            rfl
          refine one_ (i := 3) (N := some 27) #[true, true, true, true, true, true, false, true, false] rfl rfl (by kernel_rfl) (by decide) (fun K hK => ?_)
          refine goes_ Try.func37 (by kernel_rfl) rfl #[.slice (some ⟨y, 0, none⟩) 1 1, .int .i64 n] (by rfl) rfl rfl (by simp only [List.map_toArray, List.map_cons, List.map_nil]; rfl) ?_
          with_reducible refine (repeat_is ⟨y, 0, none⟩ 1 hv n _ (r1.out.e 0 (by decide)) r1.out.lt HN.out).mono ?_
          rintro e V7153 ⟨x1, rfl, q3, r3, bk⟩
          refine ⟨_, rfl, ?_⟩
          have r3 := Aside0.mk r3
          have d73 := Aside0.mk (Nat.lt_of_lt_of_le r7.out.lt q3)
          have d13 := Aside0.mk (Nat.lt_of_lt_of_le r1.out.lt q3)
          have d53 := Aside0.mk (Nat.lt_of_lt_of_le r5.out.lt q3)
          have l3 := Aside0.mk (Nat.lt_of_lt_of_le hHeld.lt q3)
          replace r7 := Aside0.mk (r7.out.step bk)
          replace r1 := Aside0.mk (r1.out.step bk)
          replace r5 := Aside0.mk (r5.out.step bk)
          replace hHeld := hHeld.step bk
          clear bk q3
          refine hK.out _ _ (hHeld) (fun hHeld => ?_)
          clear hK K
          refine norm_ (a' := ?_) ?_ ?_
          rotate_left
          · show Act.put _ (some 27) _ = _
            simp only [Act.put, List.setIfInBounds_toArray, List.set_cons_zero, List.set_cons_succ, i64_w, i32_w]
            rfl
          refine pure_ (i := 6) (N := some 30) (v := ?_) (a' := ?_) #[true, true, true, true, true, true, true, true, false] rfl rfl (by kernel_rfl) (fun _ _ _ h => h) (Or.inl ⟨by rfl, ?_⟩) ?_ ?_
          rotate_left
          · intro w'
            go_simp
            with_reducible rfl
          rotate_left
          · simp only [Act.put, List.setIfInBounds_toArray, List.set_cons_zero, List.set_cons_succ, i64_w, i32_w]
            rfl
          exact norm_ (by first | (simp only [putAll, Act.put, List.setIfInBounds_toArray, List.set_cons_zero, List.set_cons_succ]; done) | (simp only [putAll, Act.put, List.setIfInBounds_toArray, List.set_cons_zero, List.set_cons_succ]; rfl)) (hCont (y, x1, x2, b1) _ ⟨hHeld, r3.out, r5.out, r7.out, l3.out, l5.out, l7.out, by have ed71 := d71.out; have ed75 := d75.out; have ed73 := d73.out; have ed15 := d15.out; have ed13 := d13.out; have ed53 := d53.out; show x1 ≠ x2 ∧ x1 ≠ b1 ∧ x2 ≠ b1; exact ⟨by omega, by omega, by omega⟩⟩)
      · skip
        refine value_ (w1 := ?_) (v := ?_) (by rfl) rfl ?_ ?_
        rotate_left 2
        · go_simp
          constructor
          · rfl
          · rfl
        have bk := (Below.refl V7.heap.size V7).alloc (Nat.le_refl _) (.cells (madeCells #[.slice none 0 0] m) 22)
        have r5 := Aside0.mk (RW.made V7 m (.slice none 0 0) 22)
        have d75 := Aside0.mk r7.out.lt
        have l5 := Aside0.mk hHeld.lt
        replace r7 := Aside0.mk (r7.out.step bk)
        replace hHeld := hHeld.step bk
        clear bk
        generalize V7.alloc (.cells (madeCells #[.slice none 0 0] m) 22) = V75 at hHeld r7 r5 ⊢
        generalize V7.heap.size = x2 at r5 l5 d75 ⊢
        refine hK.out _ _ (hHeld) (fun hHeld => ?_)
        clear hK K
        refine norm_ (a' := ?_) ?_ ?_
        rotate_left
        · show Act.put _ (some 29) _ = _
          simp only [Act.put, List.setIfInBounds_toArray, List.set_cons_zero, List.set_cons_succ, i64_w, i32_w]
          rfl
        refine one_ (i := 1) (N := some 25) #[true, true, true, false, true, true, false, true, false] rfl rfl (by kernel_rfl) (by decide) (fun K hK => ?_)
        refine value_ (w1 := ?_) (v := ?_) (by rfl) rfl ?_ ?_
        rotate_left 2
        · go_simp
          constructor
          · rfl
          · rfl
        have bk := (Below.refl V75.heap.size V75).alloc (Nat.le_refl _) (.cells #[.int .i64 hv] 3)
        have r1 := Aside0.mk (RW.one V75 (.int .i64 hv) 3)
        have d71 := Aside0.mk r7.out.lt
        have d51 := Aside0.mk r5.out.lt
        have l1 := Aside0.mk hHeld.lt
        replace r7 := Aside0.mk (r7.out.step bk)
        replace r5 := Aside0.mk (r5.out.step bk)
        replace hHeld := hHeld.step bk
        clear bk
        generalize V75.alloc (.cells #[.int .i64 hv] 3) = V751 at hHeld r7 r5 r1 ⊢
        generalize V75.heap.size = y at r1 l1 d71 d51 ⊢
        refine hK.out _ _ (hHeld) (fun hHeld => ?_)
        clear hK K
        refine norm_ (a' := ?_) ?_ ?_
        rotate_left
        · show Act.put _ (some 25) _ = _
          simp only [Act.put, List.setIfInBounds_toArray, List.set_cons_zero, List.set_cons_succ, i64_w, i32_w]
          rfl
        refine one_ (i := 3) (N := some 27) #[true, true, true, true, true, true, false, true, false] rfl rfl (by kernel_rfl) (by decide) (fun K hK => ?_)
        refine goes_ Try.func37 (by kernel_rfl) rfl #[.slice (some ⟨y, 0, none⟩) 1 1, .int .i64 n] (by rfl) rfl rfl (by simp only [List.map_toArray, List.map_cons, List.map_nil]; rfl) ?_
        with_reducible refine (repeat_is ⟨y, 0, none⟩ 1 hv n _ (r1.out.e 0 (by decide)) r1.out.lt HN.out).mono ?_
        rintro e V7513 ⟨x1, rfl, q3, r3, bk⟩
        refine ⟨_, rfl, ?_⟩
        have r3 := Aside0.mk r3
        have d73 := Aside0.mk (Nat.lt_of_lt_of_le r7.out.lt q3)
        have d53 := Aside0.mk (Nat.lt_of_lt_of_le r5.out.lt q3)
        have d13 := Aside0.mk (Nat.lt_of_lt_of_le r1.out.lt q3)
        have l3 := Aside0.mk (Nat.lt_of_lt_of_le hHeld.lt q3)
        replace r7 := Aside0.mk (r7.out.step bk)
        replace r5 := Aside0.mk (r5.out.step bk)
        replace r1 := Aside0.mk (r1.out.step bk)
        replace hHeld := hHeld.step bk
        clear bk q3
        refine hK.out _ _ (hHeld) (fun hHeld => ?_)
        clear hK K
        refine norm_ (a' := ?_) ?_ ?_
        rotate_left
        · show Act.put _ (some 27) _ = _
          simp only [Act.put, List.setIfInBounds_toArray, List.set_cons_zero, List.set_cons_succ, i64_w, i32_w]
          rfl
        refine pure_ (i := 6) (N := some 30) (v := ?_) (a' := ?_) #[true, true, true, true, true, true, true, true, false] rfl rfl (by kernel_rfl) (fun _ _ _ h => h) (Or.inl ⟨by rfl, ?_⟩) ?_ ?_
        rotate_left
        · intro w'
          go_simp
          with_reducible rfl
        rotate_left
        · simp only [Act.put, List.setIfInBounds_toArray, List.set_cons_zero, List.set_cons_succ, i64_w, i32_w]
          rfl
        exact norm_ (by first | (simp only [putAll, Act.put, List.setIfInBounds_toArray, List.set_cons_zero, List.set_cons_succ]; done) | (simp only [putAll, Act.put, List.setIfInBounds_toArray, List.set_cons_zero, List.set_cons_succ]; rfl)) (hCont (y, x1, x2, b1) _ ⟨hHeld, r3.out, r5.out, r7.out, l3.out, l5.out, l7.out, by have ed75 := d75.out; have ed71 := d71.out; have ed73 := d73.out; have ed51 := d51.out; have ed53 := d53.out; have ed13 := d13.out; show x1 ≠ x2 ∧ x1 ≠ b1 ∧ x2 ≠ b1; exact ⟨by omega, by omega, by omega⟩⟩)
  rintro ⟨y, x1, x2, b1⟩ V9 ⟨hHeld, r3, r5, r7, l3, l5, l7, n35, n37, n57⟩
  have r3 := Aside0.mk r3
  have r5 := Aside0.mk r5
  have r7 := Aside0.mk r7
  have Z9 := Aside0.mk hHeld
  dsimp only at l3 l5 l7 n35 n37 n57
  have ll := Aside0.mk (And.intro l3 (And.intro l5 l7))
  have nn := Aside0.mk (And.intro n35 (And.intro n37 n57))
  clear l3 l5 l7 n35 n37 n57
  dsimp only at r3 r5 r7
  refine norm_ (a' := ?_) ?_ ?_
  rotate_left
  · simp only [putAll, Act.put, List.setIfInBounds_toArray, List.set_cons_zero, List.set_cons_succ]
    rfl
  refine last_ (i := 8) (N := none) #[true, true, true, true, true, true, true, true, true] rfl rfl (by kernel_rfl) (by decide) (fun K hK => ?_)
  have hf0 := r7.out.z
  have hk0 := r7.out.e 0 (by decide)
  have hk1 := r7.out.e 1 (by decide)
  refine skip_ (w1 := ?_) (by rfl) rfl ?_ ?_
  rotate_left
  · go_simp
    rfl
  refine hK.out _ _ ?_
  clear hK K
  refine done_ (by kernel_rfl) ?_

  clear hf0 hk0 hk1 hHeld
  have N9 : Aside0 (Nw b0 b1 x1 x2 n m 0 hv w ((V9.setCell ⟨b1, 0, none⟩ (.slice (some ⟨x1, 0, none⟩) n n)).setCell ⟨b1, 1, none⟩ (.slice (some ⟨x2, 0, none⟩) m m))) := by
    have h1 := Z9.out
    have l1 := ll.out
    have l2 := nn.out
    have h2 := (r7.out.put (j := 0) (by decide) (.slice (some ⟨x1, 0, none⟩) n n)).put (j := 1) (by decide) (.slice (some ⟨x2, 0, none⟩) m m)
    have h3 := (r5.out.far (y := b1) (j := 0) (by omega) (.slice (some ⟨x1, 0, none⟩) n n)).far (y := b1) (j := 1) (by omega) (.slice (some ⟨x2, 0, none⟩) m m)
    refine ⟨⟨(h1.b.setCell (by have := h1.lo; show _ ≤ b1; omega) _).setCell (by have := h1.lo; show _ ≤ b1; omega) _, ⟨h1.lo, by omega, by omega, by omega, by omega, by omega, by omega⟩, by simpa using h1.lt, (h1.r.far (by omega) _).far (by omega) _, ⟨h2.lt, fun i hi => (h2.e i hi).trans ?_, h2.z⟩, (r3.out.far (by omega) _).far (by omega) _, ⟨fun _ => 0, ⟨h3.lt, fun i hi => (h3.e i hi).trans (by rw [if_neg (by omega)]), h3.z⟩, fun u hu => by omega⟩⟩⟩
    match i, hi with
    | 0, _ => rfl
    | 1, _ => rfl
  clear r3 r5 r7 ll nn Z9
  generalize (V9.setCell ⟨b1, 0, none⟩ (.slice (some ⟨x1, 0, none⟩) n n)).setCell ⟨b1, 1, none⟩ (.slice (some ⟨x2, 0, none⟩) m m) = W9 at N9 ⊢
  clear hmk
  go_upto_region 5 with (fail)
  go_loopw [8, 32] (fun v8 v32 wr => ∃ j : Nat, j ≤ m ∧ v32 = .int .i64 j ∧ Aside0 (Nw b0 b1 x1 x2 n m j hv w wr)) (fun _ v _ => m - (intOf v).toNat)
  case atStart => exact ⟨0, by omega, rfl, N9⟩
  case round =>
    obtain ⟨j, hj, rfl, hnw⟩ := hrel
    by_cases hjm : (j : Int) < m
    · have hmk := run_make_row' (P := Try.prog) 22 3 (.int .i64 0) 8 Try.underlying22 info3 rfl .i64 .i64 n (by have := HN.out; omega) (by have := HN.out; omega)
      have hNd := Aside0.mk (hnw.out.step (below_drew1 (Below.refl wr.heap.size wr)))
      have hwj : IntKind.i64.wrap ((j : Int) + 1) = (j : Int) + 1 := by have := HM.out; rw [Go.IntKind.wrap_i64]; omega
      go_upto_region 7 with (fail)
      refine start_ (n := 7) (S := fun w' => w'.cell? ⟨b1, 1, none⟩ = some (.slice (some ⟨x2, 0, none⟩) m m) ∧ Nw b0 b1 x1 x2 n m j hv w w') (ds := [6]) #[false, false, false, false, false, false, false] (by kernel_rfl) rfl rfl ⟨hNd.out.k.e 1 (by decide), hNd.out⟩ (fun hHeld => ?_)
      generalize wr.drew = V at hNd hHeld ⊢
      refine pure_ (i := 0) (N := some 35) (v := ?_) (a' := ?_) #[true, false, false, false, false, false, false] rfl rfl (by kernel_rfl) (fun _ _ _ h => h) (Or.inl ⟨by rfl, ?_⟩) ?_ ?_
      rotate_left
      · intro w'
        go_simp
        with_reducible rfl
      rotate_left
      · simp only [Act.put, List.setIfInBounds_toArray, List.set_cons_zero, List.set_cons_succ, i64_w, i32_w]
        rfl
      refine pure_ (i := 2) (N := some 37) (v := ?_) (a' := ?_) #[true, false, true, false, false, false, false] rfl rfl (by kernel_rfl) (fun _ _ _ h => h) (Or.inl ⟨by rfl, ?_⟩) ?_ ?_
      rotate_left
      · intro w'
        go_simp
        with_reducible rfl
      rotate_left
      · simp only [Act.put, List.setIfInBounds_toArray, List.set_cons_zero, List.set_cons_succ, i64_w, i32_w]
        rfl
      refine pure_ (i := 3) (N := some 38) (v := ?_) (a' := ?_) #[true, false, true, true, false, false, false] rfl rfl (by kernel_rfl) (fun _ _ _ h => h) (Or.inl ⟨by rfl, ?_⟩) ?_ ?_
      rotate_left
      · intro w'
        go_simp
        with_reducible rfl
      rotate_left
      · simp only [Act.put, List.setIfInBounds_toArray, List.set_cons_zero, List.set_cons_succ, i64_w, i32_w]
        rfl
      refine take_ (i := 1) (N := some 36) (v := ?_) (a' := ?_) #[true, true, true, true, false, false, false] rfl rfl (by kernel_rfl) (fun _ _ _ h => h) (Or.inl ⟨by rfl, ?_⟩) hHeld ?_ ?_
      rotate_left
      · rintro w' ⟨s0, s1⟩
        go_simp
        with_reducible rfl
      rotate_left
      · simp only [Act.put, List.setIfInBounds_toArray, List.set_cons_zero, List.set_cons_succ, i64_w, i32_w]
        rfl
      refine one_ (i := 4) (N := some 39) #[true, true, true, true, true, false, false] rfl rfl (by kernel_rfl) (by decide) (fun K hK => ?_)
      refine value_ (w1 := ?_) (v := ?_) (by rfl) rfl ?_ ?_
      rotate_left 2
      · go_simp
        constructor
        · rfl
        · rfl
      have bk := (Below.refl V.heap.size V).alloc (Nat.le_refl _) (.cells (madeCells #[.int .i64 0] n) 3)
      have rz := Aside0.mk (RW.made V n (.int .i64 0) 3)
      have zl := Aside0.mk (And.intro hHeld.2.lt (let ⟨_, h, _⟩ := hHeld.2.c; h.lt))
      have hN2 := Aside0.mk (hHeld.2.step bk)
      clear bk
      generalize V.alloc (.cells (madeCells #[.int .i64 0] n) 3) = V4 at rz hN2 ⊢
      generalize V.heap.size = z at rz zl ⊢
      refine hK.out _ _ ⟨hN2.out.k.e 1 (by decide), hN2.out⟩ (fun hHeld => ?_)
      clear hK K
      refine norm_ (a' := ?_) ?_ ?_
      rotate_left
      · show Act.put _ (some 39) _ = _
        simp only [Act.put, List.setIfInBounds_toArray, List.set_cons_zero, List.set_cons_succ, i64_w, i32_w]
        rfl
      refine pure_ (i := 5) (N := some 40) (v := ?_) (a' := ?_) #[true, true, true, true, true, true, false] rfl rfl (by kernel_rfl) (fun _ _ _ h => h) (Or.inl ⟨by rfl, ?_⟩) ?_ ?_
      rotate_left
      · intro w'
        go_simp
        with_reducible rfl
      rotate_left
      · simp only [Act.put, List.setIfInBounds_toArray, List.set_cons_zero, List.set_cons_succ, i64_w, i32_w]
        rfl
      refine last_ (i := 6) (N := none) #[true, true, true, true, true, true, true] rfl rfl (by kernel_rfl) (by decide) (fun K hK => ?_)
      obtain ⟨yy, yr, _⟩ := hN2.out.c
      have hf0 := yr.z
      have hk0 := yr.e j (by omega)
      refine skip_ (w1 := ?_) (by rfl) rfl ?_ ?_
      rotate_left
      · go_simp
        rfl
      refine hK.out _ _ ?_
      clear hK K
      refine done_ (by kernel_rfl) ?_

      have N3 := Aside0.mk (hN2.out.more (by omega) rz.out (by have := zl.out; omega) (by have := zl.out; omega))
      clear hf0 hk0 hHeld yr hN2 rz hmk hNd
      generalize V4.setCell ⟨x2, j, none⟩ (.slice (some ⟨z, 0, none⟩) n n) = W4 at N3 ⊢
      go_wp2
      go_roundw
      case rel => exact ⟨j + 1, by omega, by simp, N3⟩
      case measure => simp [intOf]; omega
    · obtain rfl : j = m := by omega
      clear N9
      have k0 := hnw.out.k.e 0 (by decide)
      have k1 := hnw.out.k.e 1 (by decide)
      have r0 := hnw.out.r.e 0 (by decide)
      have r1 := hnw.out.r.e 1 (by decide)
      have f0 := hnw.out.r.z
      rw [if_pos rfl] at k0
      rw [if_neg (by decide)] at k1
      go_wp2
      obtain ⟨S', hl, hS⟩ := hnw.out.lv (by have := HN.out; omega) (by have := HM.out; omega) hI
      have hlo := hnw.out.lo.1
      have hl2 := (hl.store (x := b0) (i := 0) (fun h => Nat.lt_irrefl _ (hS _ h)) (.slice (some ⟨x1, 0, none⟩) n n)).store (x := b0) (i := 1) (fun h => Nat.lt_irrefl _ (hS _ h)) (.slice (some ⟨x2, 0, none⟩) j j)
      have hb2 := (hnw.out.b.setCell (p := ⟨b0, 0, none⟩) hlo (.slice (some ⟨x1, 0, none⟩) n n)).setCell (p := ⟨b0, 1, none⟩) hlo (.slice (some ⟨x2, 0, none⟩) j j)
      have s0 : ((wr.setCell ⟨b0, 0, none⟩ (.slice (some ⟨x1, 0, none⟩) n n)).setCell ⟨b0, 1, none⟩ (.slice (some ⟨x2, 0, none⟩) j j)).cell? ⟨b0, 0, none⟩ = some (.slice (some ⟨x1, 0, none⟩) n n) := csi (i := 1) (j := 0) (by decide) (World.cell?_setCell_same _ _ _ r0)
      have s1 : ((wr.setCell ⟨b0, 0, none⟩ (.slice (some ⟨x1, 0, none⟩) n n)).setCell ⟨b0, 1, none⟩ (.slice (some ⟨x2, 0, none⟩) j j)).cell? ⟨b0, 1, none⟩ = some (.slice (some ⟨x2, 0, none⟩) j j) := World.cell?_setCell_same _ _ _ (csi (i := 0) (j := 1) (by decide) r1)
      generalize (wr.setCell ⟨b0, 0, none⟩ (.slice (some ⟨x1, 0, none⟩) n n)).setCell ⟨b0, 1, none⟩ (.slice (some ⟨x2, 0, none⟩) j j) = W8 at hl2 hb2 s0 s1 ⊢
      refine bodyPost_ret (v := .agg #[.slice (some ⟨x1, 0, none⟩) n n, .slice (some ⟨x2, 0, none⟩) j j]) (by simp [results, Try.results24, go_sem, s0, s1]) rfl ⟨S', _, _, _, _, rfl, hl2, fun k hk => by have := hS k hk; omega, hb2⟩
theorem no_lv (w : World) : LV (fun _ => False) 0 0 none 0 none 0 (newL 0 0 0) w :=
  ⟨newL_good (by unfold I64; omega) (by omega) (by omega), fun _ h => h.elim, .inl rfl, Nat.le_refl _, ⟨fun _ => none, fun _ => 0, .inl rfl, fun u hu => by omega⟩, Nat.le_refl _⟩
set_option maxHeartbeats 4000000 in
set_option maxRecDepth 100000 in
theorem new_bad (n m hv : Int) (w : World) (h : n < 1 ∨ 4 < n ∨ m < 1 ∨ 16 < m) :
    Calls Try.prog 24 #[.int .i64 n, .int .i64 m, .int .i64 hv] w fun e w' => e = .returned (.agg #[.slice none 0 0, .slice none 0 0]) ∧ Below w.heap.size w w' := by
  by_cases t1 : n < 1
  · clear h
    go_enter Try.func24, Try.ntmps24
    go_wp2
    refine bodyPost_ret (v := .agg #[.slice none 0 0, .slice none 0 0]) (by simp [results, Try.results24, go_sem]) rfl ⟨rfl, ?_⟩
    exact ((Below.refl _ _).alloc (Nat.le_refl _) _)
  by_cases t2 : n > 4
  · clear h
    go_enter Try.func24, Try.ntmps24
    go_wp2
    refine bodyPost_ret (v := .agg #[.slice none 0 0, .slice none 0 0]) (by simp [results, Try.results24, go_sem]) rfl ⟨rfl, ?_⟩
    exact ((Below.refl _ _).alloc (Nat.le_refl _) _)
  by_cases t3 : m < 1
  · clear h
    go_enter Try.func24, Try.ntmps24
    go_wp2
    refine bodyPost_ret (v := .agg #[.slice none 0 0, .slice none 0 0]) (by simp [results, Try.results24, go_sem]) rfl ⟨rfl, ?_⟩
    exact ((Below.refl _ _).alloc (Nat.le_refl _) _)
  · have t4 : m > 16 := by omega
    clear h
    go_enter Try.func24, Try.ntmps24
    go_wp2
    refine bodyPost_ret (v := .agg #[.slice none 0 0, .slice none 0 0]) (by simp [results, Try.results24, go_sem]) rfl ⟨rfl, ?_⟩
    exact ((Below.refl _ _).alloc (Nat.le_refl _) _)
end Go.Proofs.Ytlgoincnopfnjaa.Led
