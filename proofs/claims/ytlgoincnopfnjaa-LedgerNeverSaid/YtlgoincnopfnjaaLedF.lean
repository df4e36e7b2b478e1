/- The program's Restock. -/
import Derived.Test.YtlgoincnopfnjaaLedE
namespace Go.Proofs.Ytlgoincnopfnjaa.Led
open Go Go.RowKit Go.Proofs.YtlgoincnopfnjaaW.PrintWords Go.Proofs.YtlgoincnopfnjaaW.PrintMore Go.Proofs.YtlgoincnopfnjaaW.PrintLast
set_option linter.unusedSimpArgs false
set_option linter.unusedVariables false
attribute [local go_sem] max2_int min2_int max_two min_two eqA27
def stS (L : LG) (item q : Int) : LG := ⟨L.hv.set item.toNat (wrap64 (rd L.hv item + q)), L.hd⟩
def rsS (n : Nat) (L : LG) (item q : Int) : LG × Int := if 0 ≤ item ∧ item < n then (if 1 ≤ q ∧ q ≤ 1048576 then (stS L item q, 0) else (L, 201)) else (L, 1)
theorem Good.st {n m : Nat} {L : LG} (h : Good n m L) (i q : Int) : Good n m (stS L i q) := by
  refine ⟨by simp [stS, h.hn], h.hm, h.rows, fun x hx => ?_, h.rb, h.n20, h.m40⟩
  rcases List.mem_or_eq_of_mem_set hx with h2 | rfl
  · exact h.ra x h2
  · exact wrap64_I64 _
/-- What a call tells: a ledger, and a number. -/
def Told1 (S : Nat → Prop) (n m : Nat) (L : LG) (er : Int) (w : World) (e : Ending) (w' : World) : Prop :=
  ∃ (S' : Nat → Prop) (A' : Option Addr) (c' : Nat) (B' : Option Addr) (d' : Nat), e = .returned (.tuple #[.agg #[.slice A' n c', .slice B' m d'], .int .i64 er]) ∧ LV S' n m A' c' B' d' L w' ∧ (∀ j, S' j → S j ∨ w.heap.size ≤ j) ∧ Below w.heap.size w w'
theorem GX.u {b0 b1 b2 : Nat} {u0 u1 : Value} {item K : Int} {w w' : World} (h : GX b0 b1 b2 u0 u1 item K w w') (v : Value) : GX b0 b1 b2 v u1 item K w (w'.setCell ⟨b0, 0, none⟩ v) := by
  obtain ⟨h1, h2, h3, h4⟩ := h.lo
  obtain ⟨a0, e0⟩ := h.r0
  obtain ⟨a1, e1⟩ := h.r1
  exact ⟨h.below.setCell h1 v, by simpa using h.lo, World.cell?_setCell_same _ _ _ h.k0, csi (by decide) h.k1, cso (by show b0 ≠ b1; omega) h.k2, cso (by show b0 ≠ b1; omega) h.k3,
    ⟨a0, cso (by show b0 ≠ b2; omega) e0⟩, ⟨a1, cso (by show b0 ≠ b2; omega) e1⟩, fun i => by simpa using h.f0 i, fun i => by simpa using h.f2 i, fun i => by simpa using h.f1 i⟩
theorem rest_end {n m : Nat} {A : Option Addr} {c : Nat} {B : Option Addr} {d : Nat} {L : LG} {S : Nat → Prop} {item q a0 : Int} {w W : World} {x1 c1 : Nat} (h : LV S n m A c B d L w) (ha0 : a0 = L.hv.getD item.toNat 0)
    (w1 : RW x1 n (fun i => if i = item.toNat then .int .i64 (wrap64 (a0 + q)) else .int .i64 (L.hv.getD i 0)) W) (hb : Below w.heap.size w W) (l1 : n ≤ c1) : LV (fun k => S k ∨ k = x1) n m (some ⟨x1, 0, none⟩) c1 B d (stS L item q) W := by
  have hf : Fo S w W := Fo.of_below h.sz hb
  obtain ⟨rA, rc, hB, hR⟩ := h.b
  refine ⟨h.g.st item q, fun k hk => ?_, ?_, l1, ⟨rA, rc, (hB.fo hf).mono (fun _ hk => .inl hk), fun u hu => ⟨(hR u hu).1, ((hR u hu).2.fo hf).mono (fun _ hk => .inl hk)⟩⟩, h.bd⟩
  · rcases hk with hk | hk
    · exact Nat.lt_of_lt_of_le (h.sz k hk) hb.size
    · rw [hk]; exact w1.lt
  · refine .inr ⟨_, rfl, .inr rfl, fun i hi => ?_⟩
    rw [Go.WideShapes.add_plain, Nat.zero_add, w1.e i hi]
    show _ = some (Value.int .i64 ((L.hv.set item.toNat (wrap64 (rd L.hv item + q))).getD i 0))
    rw [set_getD _ (by rw [h.g.hn]; exact hi), show rd L.hv item = a0 by rw [ha0]; rfl]
    split <;> rfl

set_option maxHeartbeats 4000000 in
set_option maxRecDepth 100000 in
theorem restock_bad1 (n m : Nat) (A : Option Addr) (c : Nat) (B : Option Addr) (d : Nat) (L : LG) (item q : Int) (S : Nat → Prop) (w : World) (h : Aside0 (LV S n m A c B d L w)) (hq : Aside0 (-9223372036854775808 ≤ q ∧ q ≤ 9223372036854775807)) (L' : LG) (er : Int) (h1 : Hid (decide (0 ≤ item ∧ item < (n : Int)) = false)) (hL : L = L') (he : 1 = er) :
    Calls Try.prog 20 #[.agg #[.slice A n c, .slice B m d], .agg #[.int .i64 item, .int .i64 q]] w (Told1 S n m L' er w) := by
  subst hL
  subst he
  go_enter Try.func20, Try.ntmps20
  go_upto_region 1 with (fail)
  have ga : GX w.heap.size (w.heap.size + 1) (w.heap.size + 1 + 1) (.slice A n c) (.slice B m d) item q w (((w.alloc (Obj.cells #[Value.slice A n c, Value.slice B m d] 25)).alloc (Obj.cells #[Value.int IntKind.i64 item, Value.int IntKind.i64 q] 27)).alloc (Obj.cells #[Value.slice none 0 0, Value.slice none 0 0] 25)) :=
    ⟨((((Below.refl _ _).alloc (Nat.le_refl _) _).alloc (by simp) _).alloc (by simp; omega) _), ⟨Nat.le_refl _, by omega, by omega, by simp⟩, by go_simp, by go_simp, by go_simp, by go_simp, ⟨.slice none 0 0, by go_simp⟩, ⟨.slice none 0 0, by go_simp⟩, fun i => by go_simp, fun i => by go_simp, fun i => by go_simp⟩
  have hga := Aside0.mk ga
  clear ga
  generalize (((w.alloc (Obj.cells #[Value.slice A n c, Value.slice B m d] 25)).alloc (Obj.cells #[Value.int IntKind.i64 item, Value.int IntKind.i64 q] 27)).alloc (Obj.cells #[Value.slice none 0 0, Value.slice none 0 0] 25)) = wa at hga ⊢
  generalize hb1 : w.heap.size + 1 = b1 at hga ⊢
  generalize hb0 : w.heap.size = b0 at hga ⊢
  generalize b1 + 1 = b2 at hga ⊢
  clear hb0 hb1
  have k0 := hga.out.k0
  have k1 := hga.out.k1
  have k2 := hga.out.k2
  have k3 := hga.out.k3
  obtain ⟨v0, r0⟩ := hga.out.r0
  obtain ⟨v1, r1⟩ := hga.out.r1
  have f2 := hga.out.f2
  have f1 := hga.out.f1
  have f0 := hga.out.f0
  go_wp2_with (first | (go_at_call 34; (with_reducible refine (in_is item (n : Int) _ _ h1).mono ?_); rintro e w1 ⟨rfl, rfl⟩))
  have hbw := (hga.out.below.setCell (p := ⟨b2, 0, none⟩) (by have := hga.out.lo; show _ ≤ b2; omega) (.slice A n c)).setCell (p := ⟨b2, 1, none⟩) (by have := hga.out.lo; show _ ≤ b2; omega) (.slice B m d)
  have s0 : ((wa.setCell ⟨b2, 0, none⟩ (.slice A n c)).setCell ⟨b2, 1, none⟩ (.slice B m d)).cell? ⟨b2, 0, none⟩ = some (.slice A n c) := csi (i := 1) (j := 0) (by decide) (World.cell?_setCell_same _ _ _ r0)
  have s1 : ((wa.setCell ⟨b2, 0, none⟩ (.slice A n c)).setCell ⟨b2, 1, none⟩ (.slice B m d)).cell? ⟨b2, 1, none⟩ = some (.slice B m d) := World.cell?_setCell_same _ _ _ (csi (i := 0) (j := 1) (by decide) r1)
  generalize (wa.setCell ⟨b2, 0, none⟩ (.slice A n c)).setCell ⟨b2, 1, none⟩ (.slice B m d) = W8 at hbw s0 s1 ⊢
  refine bodyPost_ret (v := .tuple #[.agg #[.slice A n c, .slice B m d], .int .i64 1]) (by simp [results, Try.results20, go_sem, s0, s1]) rfl ⟨S, A, c, B, d, rfl, h.out.below hbw, fun _ hj => .inl hj, hbw⟩

set_option maxHeartbeats 4000000 in
set_option maxRecDepth 100000 in
theorem restock_bad2 (n m : Nat) (A : Option Addr) (c : Nat) (B : Option Addr) (d : Nat) (L : LG) (item q : Int) (S : Nat → Prop) (w : World) (h : Aside0 (LV S n m A c B d L w)) (hq : Aside0 (-9223372036854775808 ≤ q ∧ q ≤ 9223372036854775807)) (L' : LG) (er : Int) (h1 : Hid (decide (0 ≤ item ∧ item < (n : Int)) = true)) (h2 : Hid (decide (0 ≤ wrap64 (q - 1) ∧ wrap64 (q - 1) < 1048576) = false)) (hL : L = L') (he : 201 = er) :
    Calls Try.prog 20 #[.agg #[.slice A n c, .slice B m d], .agg #[.int .i64 item, .int .i64 q]] w (Told1 S n m L' er w) := by
  subst hL
  subst he
  go_enter Try.func20, Try.ntmps20
  go_upto_region 1 with (fail)
  have ga : GX w.heap.size (w.heap.size + 1) (w.heap.size + 1 + 1) (.slice A n c) (.slice B m d) item q w (((w.alloc (Obj.cells #[Value.slice A n c, Value.slice B m d] 25)).alloc (Obj.cells #[Value.int IntKind.i64 item, Value.int IntKind.i64 q] 27)).alloc (Obj.cells #[Value.slice none 0 0, Value.slice none 0 0] 25)) :=
    ⟨((((Below.refl _ _).alloc (Nat.le_refl _) _).alloc (by simp) _).alloc (by simp; omega) _), ⟨Nat.le_refl _, by omega, by omega, by simp⟩, by go_simp, by go_simp, by go_simp, by go_simp, ⟨.slice none 0 0, by go_simp⟩, ⟨.slice none 0 0, by go_simp⟩, fun i => by go_simp, fun i => by go_simp, fun i => by go_simp⟩
  have hga := Aside0.mk ga
  clear ga
  generalize (((w.alloc (Obj.cells #[Value.slice A n c, Value.slice B m d] 25)).alloc (Obj.cells #[Value.int IntKind.i64 item, Value.int IntKind.i64 q] 27)).alloc (Obj.cells #[Value.slice none 0 0, Value.slice none 0 0] 25)) = wa at hga ⊢
  generalize hb1 : w.heap.size + 1 = b1 at hga ⊢
  generalize hb0 : w.heap.size = b0 at hga ⊢
  generalize b1 + 1 = b2 at hga ⊢
  clear hb0 hb1
  have k0 := hga.out.k0
  have k1 := hga.out.k1
  have k2 := hga.out.k2
  have k3 := hga.out.k3
  obtain ⟨v0, r0⟩ := hga.out.r0
  obtain ⟨v1, r1⟩ := hga.out.r1
  have f2 := hga.out.f2
  have f1 := hga.out.f1
  have f0 := hga.out.f0
  go_wp2_with (first | (go_at_call 34; (with_reducible refine (in_is item (n : Int) _ _ h1).mono ?_); rintro e w1 ⟨rfl, rfl⟩) | (go_at_call 34; (with_reducible refine (in_is (wrap64 (q - 1)) 1048576 _ _ h2).mono ?_); rintro e w1 ⟨rfl, rfl⟩))
  have hbw := (hga.out.below.setCell (p := ⟨b2, 0, none⟩) (by have := hga.out.lo; show _ ≤ b2; omega) (.slice A n c)).setCell (p := ⟨b2, 1, none⟩) (by have := hga.out.lo; show _ ≤ b2; omega) (.slice B m d)
  have s0 : ((wa.setCell ⟨b2, 0, none⟩ (.slice A n c)).setCell ⟨b2, 1, none⟩ (.slice B m d)).cell? ⟨b2, 0, none⟩ = some (.slice A n c) := csi (i := 1) (j := 0) (by decide) (World.cell?_setCell_same _ _ _ r0)
  have s1 : ((wa.setCell ⟨b2, 0, none⟩ (.slice A n c)).setCell ⟨b2, 1, none⟩ (.slice B m d)).cell? ⟨b2, 1, none⟩ = some (.slice B m d) := World.cell?_setCell_same _ _ _ (csi (i := 0) (j := 1) (by decide) r1)
  generalize (wa.setCell ⟨b2, 0, none⟩ (.slice A n c)).setCell ⟨b2, 1, none⟩ (.slice B m d) = W8 at hbw s0 s1 ⊢
  refine bodyPost_ret (v := .tuple #[.agg #[.slice A n c, .slice B m d], .int .i64 201]) (by simp [results, Try.results20, go_sem, s0, s1]) rfl ⟨S, A, c, B, d, rfl, h.out.below hbw, fun _ hj => .inl hj, hbw⟩

set_option maxHeartbeats 4000000 in
set_option maxRecDepth 100000 in
theorem restock_ok (n m : Nat) (A : Option Addr) (c : Nat) (B : Option Addr) (d : Nat) (L : LG) (item q : Int) (S : Nat → Prop) (w : World) (h : Aside0 (LV S n m A c B d L w)) (hq : Aside0 (-9223372036854775808 ≤ q ∧ q ≤ 9223372036854775807)) (L' : LG) (er : Int) (h1 : Hid (decide (0 ≤ item ∧ item < (n : Int)) = true)) (h2 : Hid (decide (0 ≤ wrap64 (q - 1) ∧ wrap64 (q - 1) < 1048576) = true)) (hL : stS L item q = L') (he : 0 = er) :
    Calls Try.prog 20 #[.agg #[.slice A n c, .slice B m d], .agg #[.int .i64 item, .int .i64 q]] w (Told1 S n m L' er w) := by
  subst hL
  subst he
  have i0 : 0 ≤ item := (of_decide_eq_true h1.out).1
  have i1 : item < n := (of_decide_eq_true h1.out).2
  have hRa := Aside0.mk (h.out.a.rv h.out.sz)
  obtain ⟨a0, ha0⟩ : ∃ a, a = L.hv.getD item.toNat 0 := ⟨_, rfl⟩
  replace ha0 := Aside0.mk ha0
  have HN := Aside0.mk h.out.g.n20
  have TN := Aside0.mk (show item.toNat < n by omega)
  go_enter Try.func20, Try.ntmps20
  go_upto_region 1 with (fail)
  have ga : GX w.heap.size (w.heap.size + 1) (w.heap.size + 1 + 1) (.slice A n c) (.slice B m d) item q w (((w.alloc (Obj.cells #[Value.slice A n c, Value.slice B m d] 25)).alloc (Obj.cells #[Value.int IntKind.i64 item, Value.int IntKind.i64 q] 27)).alloc (Obj.cells #[Value.slice none 0 0, Value.slice none 0 0] 25)) :=
    ⟨((((Below.refl _ _).alloc (Nat.le_refl _) _).alloc (by simp) _).alloc (by simp; omega) _), ⟨Nat.le_refl _, by omega, by omega, by simp⟩, by go_simp, by go_simp, by go_simp, by go_simp, ⟨.slice none 0 0, by go_simp⟩, ⟨.slice none 0 0, by go_simp⟩, fun i => by go_simp, fun i => by go_simp, fun i => by go_simp⟩
  have hga := Aside0.mk ga
  clear ga
  generalize (((w.alloc (Obj.cells #[Value.slice A n c, Value.slice B m d] 25)).alloc (Obj.cells #[Value.int IntKind.i64 item, Value.int IntKind.i64 q] 27)).alloc (Obj.cells #[Value.slice none 0 0, Value.slice none 0 0] 25)) = wa at hga ⊢
  generalize hb1 : w.heap.size + 1 = b1 at hga ⊢
  generalize hb0 : w.heap.size = b0 at hga ⊢
  generalize b1 + 1 = b2 at hga ⊢
  clear hb0 hb1
  have k0 := hga.out.k0
  have k1 := hga.out.k1
  have k2 := hga.out.k2
  have k3 := hga.out.k3
  obtain ⟨v0, r0⟩ := hga.out.r0
  obtain ⟨v1, r1⟩ := hga.out.r1
  have f2 := hga.out.f2
  have f1 := hga.out.f1
  have f0 := hga.out.f0
  go_upto_region 6 with (first | (go_at_call 34; (with_reducible refine (in_is item (n : Int) _ _ h1).mono ?_); rintro e w1 ⟨rfl, rfl⟩) | (go_at_call 34; (with_reducible refine (in_is (wrap64 (q - 1)) 1048576 _ _ h2).mono ?_); rintro e w1 ⟨rfl, rfl⟩) | (go_at_call 35; (with_reducible refine (clone_ints A n c _ _ ⟨hRa.out.below hga.out.below⟩ ⟨fun _ _ => rfl⟩ (by have := HN.out; omega)).mono ?_); rintro e wb ⟨A1, c1, rfl, o1, l1, ba⟩; have g1 := Aside0.mk (hga.out.step ba); have o1 := Aside0.mk o1; have l1 := Aside0.mk l1; have lo1 := Aside0.mk hga.out.lo; clear hga k0 k1 k2 k3 r0 r1 f2 f1 f0 ba; have k0 := g1.out.k0; have f0 := g1.out.f0))
  clear k0 f0
  obtain ⟨x1, rfl, q1, w1⟩ := o1.out.rw (by have := TN.out; omega)
  have bx : b2 < x1 := Nat.lt_of_lt_of_le lo1.out.2.2.2 q1
  have g2 := Aside0.mk (g1.out.u (.slice (some ⟨x1, 0, none⟩) n c1))
  have w1d := Aside0.mk (w1.far (y := b0) (j := 0) (by have := lo1.out; omega) (.slice (some ⟨x1, 0, none⟩) n c1))
  have BX := Aside0.mk bx
  clear g1 o1 lo1 q1 w1 bx
  generalize wb.setCell ⟨b0, 0, none⟩ (.slice (some ⟨x1, 0, none⟩) n c1) = W5 at g2 w1d ⊢
  have g3 := Aside0.mk (g2.out.step (below_drew1 (Below.refl W5.heap.size W5)))
  replace w1d := Aside0.mk (w1d.out.step (below_drew1 (Below.refl W5.heap.size W5)))
  clear g2
  refine start_ (n := 11) (S := fun w' => w'.cell? ⟨b0, 0, none⟩ = some (.slice (some ⟨x1, 0, none⟩) n c1) ∧ w'.cell? ⟨b1, 0, none⟩ = some (.int .i64 item) ∧ w'.cell? ⟨b1, 1, none⟩ = some (.int .i64 q) ∧ w'.cell? ⟨x1, item.toNat, none⟩ = some (.int .i64 a0)) (ds := [10]) #[false, false, false, false, false, false, false, false, false, false, false] (by kernel_rfl) rfl rfl ⟨g3.out.k0, g3.out.k2, g3.out.k3, ((w1d.out.e item.toNat TN.out).trans (by rw [← ha0.out]))⟩ (fun hHeld => ?_)
  generalize W5.drew = V5 at g3 w1d hHeld ⊢
  refine pure_ (i := 0) (N := some 26) (v := ?_) (a' := ?_) #[true, false, false, false, false, false, false, false, false, false, false] rfl rfl (by kernel_rfl) (fun _ _ _ h => h) (Or.inl ⟨by rfl, ?_⟩) ?_ ?_
  rotate_left
  · intro w'
    go_simp
    with_reducible rfl
  rotate_left
  · simp only [Act.put, List.setIfInBounds_toArray, List.set_cons_zero, List.set_cons_succ, i64_w, i32_w]
    rfl
  refine pure_ (i := 2) (N := some 28) (v := ?_) (a' := ?_) #[true, false, true, false, false, false, false, false, false, false, false] rfl rfl (by kernel_rfl) (fun _ _ _ h => h) (Or.inl ⟨by rfl, ?_⟩) ?_ ?_
  rotate_left
  · intro w'
    go_simp
    with_reducible rfl
  rotate_left
  · simp only [Act.put, List.setIfInBounds_toArray, List.set_cons_zero, List.set_cons_succ, i64_w, i32_w]
    rfl
  refine pure_ (i := 6) (N := some 32) (v := ?_) (a' := ?_) #[true, false, true, false, false, false, true, false, false, false, false] rfl rfl (by kernel_rfl) (fun _ _ _ h => h) (Or.inl ⟨by rfl, ?_⟩) ?_ ?_
  rotate_left
  · intro w'
    go_simp
    with_reducible rfl
  rotate_left
  · simp only [Act.put, List.setIfInBounds_toArray, List.set_cons_zero, List.set_cons_succ, i64_w, i32_w]
    rfl
  refine take_ (i := 1) (N := some 27) (v := ?_) (a' := ?_) #[true, true, true, false, false, false, true, false, false, false, false] rfl rfl (by kernel_rfl) (fun _ _ _ h => h) (Or.inl ⟨by rfl, ?_⟩) hHeld ?_ ?_
  rotate_left
  · rintro w' ⟨s0, s1, s2, s3⟩
    go_simp
    with_reducible rfl
  rotate_left
  · simp only [Act.put, List.setIfInBounds_toArray, List.set_cons_zero, List.set_cons_succ, i64_w, i32_w]
    rfl
  refine take_ (i := 3) (N := some 29) (v := ?_) (a' := ?_) #[true, true, true, true, false, false, true, false, false, false, false] rfl rfl (by kernel_rfl) (fun _ _ _ h => h) (Or.inl ⟨by rfl, ?_⟩) hHeld ?_ ?_
  rotate_left
  · rintro w' ⟨s0, s1, s2, s3⟩
    go_simp
    with_reducible rfl
  rotate_left
  · simp only [Act.put, List.setIfInBounds_toArray, List.set_cons_zero, List.set_cons_succ, i64_w, i32_w]
    rfl
  refine pure_ (i := 4) (N := some 30) (v := ?_) (a' := ?_) #[true, true, true, true, true, false, true, false, false, false, false] rfl rfl (by kernel_rfl) (fun _ _ _ h => h) (Or.inl ⟨by rfl, ?_⟩) ?_ ?_
  rotate_left
  · intro w'
    go_simp
    with_reducible rfl
  rotate_left
  · simp only [Act.put, List.setIfInBounds_toArray, List.set_cons_zero, List.set_cons_succ, i64_w, i32_w]
    rfl
  refine take_ (i := 5) (N := some 31) (v := ?_) (a' := ?_) #[true, true, true, true, true, true, true, false, false, false, false] rfl rfl (by kernel_rfl) (fun _ _ _ h => h) (Or.inl ⟨by rfl, ?_⟩) hHeld ?_ ?_
  rotate_left
  · rintro w' ⟨s0, s1, s2, s3⟩
    go_simp
    with_reducible rfl
  rotate_left
  · simp only [Act.put, List.setIfInBounds_toArray, List.set_cons_zero, List.set_cons_succ, i64_w, i32_w]
    rfl
  refine take_ (i := 7) (N := some 33) (v := ?_) (a' := ?_) #[true, true, true, true, true, true, true, true, false, false, false] rfl rfl (by kernel_rfl) (fun _ _ _ h => h) (Or.inl ⟨by rfl, ?_⟩) hHeld ?_ ?_
  rotate_left
  · rintro w' ⟨s0, s1, s2, s3⟩
    go_simp
    with_reducible rfl
  rotate_left
  · simp only [Act.put, List.setIfInBounds_toArray, List.set_cons_zero, List.set_cons_succ, i64_w, i32_w]
    rfl
  refine pure_ (i := 8) (N := some 34) (v := ?_) (a' := ?_) #[true, true, true, true, true, true, true, true, true, false, false] rfl rfl (by kernel_rfl) (fun _ _ _ h => h) (Or.inl ⟨by rfl, ?_⟩) ?_ ?_
  rotate_left
  · intro w'
    go_simp
    with_reducible rfl
  rotate_left
  · simp only [Act.put, List.setIfInBounds_toArray, List.set_cons_zero, List.set_cons_succ, i64_w, i32_w]
    rfl
  refine pure_ (i := 9) (N := some 35) (v := ?_) (a' := ?_) #[true, true, true, true, true, true, true, true, true, true, false] rfl rfl (by kernel_rfl) (fun _ _ _ h => h) (Or.inl ⟨by rfl, ?_⟩) ?_ ?_
  rotate_left
  · intro w'
    go_simp
    with_reducible rfl
  rotate_left
  · simp only [Act.put, List.setIfInBounds_toArray, List.set_cons_zero, List.set_cons_succ, i64_w, i32_w]
    rfl
  refine last_ (i := 10) (N := none) #[true, true, true, true, true, true, true, true, true, true, true] rfl rfl (by kernel_rfl) (by decide) (fun K hK => ?_)
  have hf0 := w1d.out.z
  have hk0 := w1d.out.e item.toNat TN.out
  refine skip_ (w1 := ?_) (by rfl) rfl ?_ ?_
  rotate_left
  · go_simp
    rfl
  refine hK.out _ _ ?_
  clear hK K
  refine done_ (by kernel_rfl) ?_
  clear hf0 hk0 hHeld
  have g4 := Aside0.mk (g3.out.far (x := x1) (i := item.toNat) BX.out (.int .i64 (wrap64 (a0 + q))))
  have w1e := Aside0.mk (w1d.out.put TN.out (.int .i64 (wrap64 (a0 + q))))
  clear g3 w1d
  generalize V5.setCell ⟨x1, item.toNat, none⟩ (.int .i64 (wrap64 (a0 + q))) = W6 at g4 w1e ⊢
  have k0 := g4.out.k0
  have k1 := g4.out.k1
  have k2 := g4.out.k2
  have k3 := g4.out.k3
  obtain ⟨v0, r0⟩ := g4.out.r0
  obtain ⟨v1, r1⟩ := g4.out.r1
  have f2 := g4.out.f2
  have f1 := g4.out.f1
  have f0 := g4.out.f0
  go_wp2
  have hbw := (g4.out.below.setCell (p := ⟨b2, 0, none⟩) (by have := g4.out.lo; show _ ≤ b2; omega) (.slice (some ⟨x1, 0, none⟩) n c1)).setCell (p := ⟨b2, 1, none⟩) (by have := g4.out.lo; show _ ≤ b2; omega) (.slice B m d)
  have nb : b2 ≠ x1 := by have := BX.out; omega
  have w1g := (w1e.out.far (y := b2) (j := 0) nb (.slice (some ⟨x1, 0, none⟩) n c1)).far (y := b2) (j := 1) nb (.slice B m d)
  have s0 : ((W6.setCell ⟨b2, 0, none⟩ (.slice (some ⟨x1, 0, none⟩) n c1)).setCell ⟨b2, 1, none⟩ (.slice B m d)).cell? ⟨b2, 0, none⟩ = some (.slice (some ⟨x1, 0, none⟩) n c1) := csi (i := 1) (j := 0) (by decide) (World.cell?_setCell_same _ _ _ r0)
  have s1 : ((W6.setCell ⟨b2, 0, none⟩ (.slice (some ⟨x1, 0, none⟩) n c1)).setCell ⟨b2, 1, none⟩ (.slice B m d)).cell? ⟨b2, 1, none⟩ = some (.slice B m d) := World.cell?_setCell_same _ _ _ (csi (i := 0) (j := 1) (by decide) r1)
  have hl := g4.out.lo
  generalize (W6.setCell ⟨b2, 0, none⟩ (.slice (some ⟨x1, 0, none⟩) n c1)).setCell ⟨b2, 1, none⟩ (.slice B m d) = W8 at hbw w1g s0 s1 ⊢
  refine bodyPost_ret (v := .tuple #[.agg #[.slice (some ⟨x1, 0, none⟩) n c1, .slice B m d], .int .i64 0]) (by simp [results, Try.results20, go_sem, s0, s1]) rfl ⟨fun k => S k ∨ k = x1, some ⟨x1, 0, none⟩, c1, B, d, rfl, rest_end h.out ha0.out w1g hbw l1.out, ?_, hbw⟩
  intro j hj
  have h1 := BX.out
  rcases hj with hj | hj
  · exact .inl hj
  · exact .inr (by omega)

theorem restock_is (n m : Nat) (A : Option Addr) (c : Nat) (B : Option Addr) (d : Nat) (L : LG) (item q : Int) (S : Nat → Prop) (w : World) (h : Aside0 (LV S n m A c B d L w)) (hq : Aside0 (-9223372036854775808 ≤ q ∧ q ≤ 9223372036854775807)) (L' : LG) (er : Int) (hs : rsS n L item q = (L', er)) :
    Calls Try.prog 20 #[.agg #[.slice A n c, .slice B m d], .agg #[.int .i64 item, .int .i64 q]] w (Told1 S n m L' er w) := by
  unfold rsS at hs
  by_cases h1 : 0 ≤ item ∧ item < (n : Int)
  · rw [if_pos h1] at hs
    have h1' : Hid (decide (0 ≤ item ∧ item < (n : Int)) = true) := decide_eq_true h1
    by_cases h2 : 1 ≤ q ∧ q ≤ 1048576
    · rw [if_pos h2] at hs
      simp only [Prod.mk.injEq] at hs
      exact restock_ok n m A c B d L item q S w h hq L' er h1' (decide_eq_true (by unfold wrap64; omega)) hs.1 hs.2
    · rw [if_neg h2] at hs
      simp only [Prod.mk.injEq] at hs
      have hqq := hq.out
      exact restock_bad2 n m A c B d L item q S w h hq L' er h1' (decide_eq_false (by unfold wrap64; omega)) hs.1 hs.2
  · rw [if_neg h1] at hs
    simp only [Prod.mk.injEq] at hs
    exact restock_bad1 n m A c B d L item q S w h hq L' er (decide_eq_false h1) hs.1 hs.2

end Go.Proofs.Ytlgoincnopfnjaa.Led
