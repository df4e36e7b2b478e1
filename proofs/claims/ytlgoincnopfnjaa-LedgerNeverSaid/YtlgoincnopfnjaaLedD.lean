/- The program's give. -/
import Derived.Test.YtlgoincnopfnjaaLedC
namespace Go.Proofs.Ytlgoincnopfnjaa.Led
open Go Go.RowKit Go.Proofs.YtlgoincnopfnjaaW.PrintWords Go.Proofs.YtlgoincnopfnjaaW.PrintMore Go.Proofs.YtlgoincnopfnjaaW.PrintLast
set_option linter.unusedSimpArgs false
set_option linter.unusedVariables false
attribute [local go_sem] max2_int min2_int max_two min_two eqA27
theorem one_slice (A : Option Addr) (n c : Nat) : (Value.slice A n c).oneCell' = true := by first | rfl | (unfold Value.oneCell'; rfl) | simp [Value.oneCell', Value.cells]
theorem cso {w : World} {p q : Addr} {v u : Value} (hne : p.block ≠ q.block) (h : w.cell? q = some u) : (w.setCell p v).cell? q = some u := by
  rw [World.cell?_setCell_other (h := fun e => hne (by rw [e]))]; exact h
theorem csi {w : World} {g i j : Nat} {v u : Value} (hne : i ≠ j) (h : w.cell? ⟨g, j, none⟩ = some u) : (w.setCell ⟨g, i, none⟩ v).cell? ⟨g, j, none⟩ = some u := by
  rw [World.cell?_setCell_other (h := fun e => hne (by injection e))]; exact h
/-- The boxes of give. -/
structure GX (b0 b1 b2 : Nat) (u0 u1 : Value) (item K : Int) (w w' : World) : Prop where
  below : Below w.heap.size w w'
  lo : w.heap.size ≤ b0 ∧ b0 < b1 ∧ b1 < b2 ∧ b2 < w'.heap.size
  k0 : w'.cell? ⟨b0, 0, none⟩ = some u0
  k1 : w'.cell? ⟨b0, 1, none⟩ = some u1
  k2 : w'.cell? ⟨b1, 0, none⟩ = some (.int .i64 item)
  k3 : w'.cell? ⟨b1, 1, none⟩ = some (.int .i64 K)
  r0 : ∃ v, w'.cell? ⟨b2, 0, none⟩ = some v
  r1 : ∃ v, w'.cell? ⟨b2, 1, none⟩ = some v
  f0 : ∀ i, w'.frozen? ⟨b0, i, none⟩ = false
  f2 : ∀ i, w'.frozen? ⟨b2, i, none⟩ = false
  f1 : ∀ i, w'.frozen? ⟨b1, i, none⟩ = false
theorem GX.step {b0 b1 b2 : Nat} {u0 u1 : Value} {item K : Int} {w w' w2 : World} (h : GX b0 b1 b2 u0 u1 item K w w') (hb : Below w'.heap.size w' w2) : GX b0 b1 b2 u0 u1 item K w w2 := by
  obtain ⟨h1, h2, h3, h4⟩ := h.lo
  obtain ⟨v0, e0⟩ := h.r0
  obtain ⟨v1, e1⟩ := h.r1
  exact ⟨below_step h.below hb, ⟨h1, h2, h3, Nat.lt_of_lt_of_le h4 hb.size⟩, (hb.cell (p := ⟨b0, 0, none⟩) (by show b0 < _; omega)).trans h.k0, (hb.cell (p := ⟨b0, 1, none⟩) (by show b0 < _; omega)).trans h.k1,
    (hb.cell (p := ⟨b1, 0, none⟩) (by show b1 < _; omega)).trans h.k2, (hb.cell (p := ⟨b1, 1, none⟩) (by show b1 < _; omega)).trans h.k3,
    ⟨v0, (hb.cell (p := ⟨b2, 0, none⟩) h4).trans e0⟩, ⟨v1, (hb.cell (p := ⟨b2, 1, none⟩) h4).trans e1⟩,
    fun i => (hb.frozen (p := ⟨b0, i, none⟩) (by show b0 < _; omega)).trans (h.f0 i), fun i => (hb.frozen (p := ⟨b2, i, none⟩) h4).trans (h.f2 i), fun i => (hb.frozen (p := ⟨b1, i, none⟩) (by show b1 < _; omega)).trans (h.f1 i)⟩
theorem GX.far {b0 b1 b2 : Nat} {u0 u1 : Value} {item K : Int} {w w' : World} (h : GX b0 b1 b2 u0 u1 item K w w') {x i : Nat} (hx : b2 < x) (v : Value) : GX b0 b1 b2 u0 u1 item K w (w'.setCell ⟨x, i, none⟩ v) := by
  obtain ⟨h1, h2, h3, h4⟩ := h.lo
  obtain ⟨v0, e0⟩ := h.r0
  obtain ⟨v1, e1⟩ := h.r1
  exact ⟨h.below.setCell (by show _ ≤ x; omega) v, by simpa using h.lo, cso (by show x ≠ b0; omega) h.k0, cso (by show x ≠ b0; omega) h.k1, cso (by show x ≠ b1; omega) h.k2, cso (by show x ≠ b1; omega) h.k3,
    ⟨v0, cso (by show x ≠ b2; omega) e0⟩, ⟨v1, cso (by show x ≠ b2; omega) e1⟩, fun i => by simpa using h.f0 i, fun i => by simpa using h.f2 i, fun i => by simpa using h.f1 i⟩
theorem GX.put {b0 b1 b2 : Nat} {u0 u1 : Value} {item K : Int} {w w' : World} (h : GX b0 b1 b2 u0 u1 item K w w') (v0 v1 : Value) : GX b0 b1 b2 v0 v1 item K w ((w'.setCell ⟨b0, 0, none⟩ v0).setCell ⟨b0, 1, none⟩ v1) := by
  obtain ⟨h1, h2, h3, h4⟩ := h.lo
  obtain ⟨a0, e0⟩ := h.r0
  obtain ⟨a1, e1⟩ := h.r1
  exact ⟨(h.below.setCell h1 v0).setCell h1 v1, by simpa using h.lo, csi (i := 1) (j := 0) (by decide) (World.cell?_setCell_same _ _ _ h.k0), World.cell?_setCell_same _ _ _ (csi (i := 0) (j := 1) (by decide) h.k1), cso (by show b0 ≠ b1; omega) (cso (by show b0 ≠ b1; omega) h.k2), cso (by show b0 ≠ b1; omega) (cso (by show b0 ≠ b1; omega) h.k3),
    ⟨a0, cso (by show b0 ≠ b2; omega) (cso (by show b0 ≠ b2; omega) e0)⟩, ⟨a1, cso (by show b0 ≠ b2; omega) (cso (by show b0 ≠ b2; omega) e1)⟩, fun i => by simpa using h.f0 i, fun i => by simpa using h.f2 i, fun i => by simpa using h.f1 i⟩
/-- A row of the call's own. -/
structure RW (x n : Nat) (X : Nat → Value) (w : World) : Prop where
  lt : x < w.heap.size
  e : ∀ i, i < n → w.cell? ⟨x, i, none⟩ = some (X i)
  z : ∀ i, w.frozen? ⟨x, i, none⟩ = false
theorem RW.step {x n : Nat} {X : Nat → Value} {w w2 : World} (h : RW x n X w) (hb : Below w.heap.size w w2) : RW x n X w2 :=
  ⟨Nat.lt_of_lt_of_le h.lt hb.size, fun i hi => (hb.cell (p := ⟨x, i, none⟩) h.lt).trans (h.e i hi), fun i => (hb.frozen (p := ⟨x, i, none⟩) h.lt).trans (h.z i)⟩
theorem RW.far {x n : Nat} {X : Nat → Value} {w : World} (h : RW x n X w) {y j : Nat} (hne : y ≠ x) (v : Value) : RW x n X (w.setCell ⟨y, j, none⟩ v) :=
  ⟨by simpa using h.lt, fun i hi => cso hne (h.e i hi), fun i => by simpa using h.z i⟩
theorem RW.put {x n : Nat} {X : Nat → Value} {w : World} (h : RW x n X w) {j : Nat} (hj : j < n) (v : Value) : RW x n (fun i => if i = j then v else X i) (w.setCell ⟨x, j, none⟩ v) := by
  refine ⟨by simpa using h.lt, fun i hi => ?_, fun i => by simpa using h.z i⟩
  by_cases hij : i = j
  · subst hij
    rw [if_pos rfl]
    exact World.cell?_setCell_same _ _ _ (h.e i hi)
  · rw [if_neg hij]
    exact csi (fun e => hij e.symm) (h.e i hi)
theorem Ow.rw {A : Option Addr} {n : Nat} {vs : Nat → Value} {base : Nat} {w : World} (h : Ow A n vs base w) (hn : 0 < n) : ∃ x, A = some ⟨x, 0, none⟩ ∧ base ≤ x ∧ RW x n vs w := by
  rcases h with ⟨_, h⟩ | ⟨g, rfl, h0, h1, h2, h3⟩
  · omega
  · exact ⟨g, rfl, h0, h1, h2, h3⟩
theorem set_getD {l : List Int} {i k : Nat} (v : Int) (hk : k < l.length) : (l.set i v).getD k 0 = if k = i then v else l.getD k 0 := by
  rw [List.getD_eq_getElem?_getD, List.getElem?_set, List.getD_eq_getElem?_getD]
  by_cases h : i = k
  · subst h; simp [hk]
  · rw [if_neg h, if_neg (fun e => h e.symm)]
theorem row_set {hd : List (List Int)} {t : Int} {u : Nat} (r : List Int) (hu : u < hd.length) : row (hd.set t.toNat r) (u : Int) = if u = t.toNat then r else row hd (u : Int) := by
  unfold row
  rw [List.getD_eq_getElem?_getD, List.getElem?_set, List.getD_eq_getElem?_getD, Int.toNat_natCast]
  by_cases h : t.toNat = u
  · subst h; simp [hu]
  · rw [if_neg h, if_neg (fun e => h e.symm)]
/-- What give leaves. -/
theorem RW.rs {x n : Nat} {X : Nat → Value} {S : Nat → Prop} {w : World} (h : RW x n X w) (hS : S x) : RS S (some ⟨x, 0, none⟩) n X w :=
  .inr ⟨_, rfl, hS, fun i hi => by rw [Go.WideShapes.add_plain, Nat.zero_add]; exact h.e i hi⟩
theorem give_end {n m : Nat} {A : Option Addr} {c : Nat} {B : Option Addr} {d : Nat} {L : LG} {S : Nat → Prop} {t item K a0 a1 : Int} {w W : World} {vs : Nat → Value} {rA : Nat → Option Addr} {rc : Nat → Nat} {x1 x2 x3 c1 d1 c3 : Nat} (h : LV S n m A c B d L w) (t0 : 0 ≤ t) (t1 : t < m) (HN : n ≤ 20 ∧ m ≤ 40)
    (hvs : vs = fun u => .slice (rA u) n (rc u)) (_hB : RS S B m (fun u => .slice (rA u) n (rc u)) w) (hR : ∀ u, u < m → n ≤ rc u ∧ RS S (rA u) n (fun i => .int .i64 ((row L.hd u).getD i 0)) w) (hrl : (row L.hd t).length = n) (ha0 : a0 = L.hv.getD item.toNat 0) (ha1 : a1 = (row L.hd t).getD item.toNat 0)
    (w1 : RW x1 n (fun i => if i = item.toNat then .int .i64 (wrap64 (a0 - K)) else .int .i64 (L.hv.getD i 0)) W) (w2 : RW x2 m (fun u => if u = t.toNat then .slice (some ⟨x3, 0, none⟩) n c3 else vs u) W) (w3 : RW x3 n (fun i => if i = item.toNat then .int .i64 (wrap64 (a1 + K)) else .int .i64 ((row L.hd t).getD i 0)) W)
    (hb : Below w.heap.size w W) (l1 : n ≤ c1) (l2 : m ≤ d1) (l3 : n ≤ c3) : LV (fun k => S k ∨ k = x1 ∨ k = x2 ∨ k = x3) n m (some ⟨x1, 0, none⟩) c1 (some ⟨x2, 0, none⟩) d1 (mvS L t item K) W := by
  have hG := h.g.mv K (i := item) t0 t1
  have hf : Fo S w W := Fo.of_below h.sz hb
  refine ⟨hG, fun k hk => ?_, ?_, l1, ⟨fun u => if u = t.toNat then some ⟨x3, 0, none⟩ else rA u, fun u => if u = t.toNat then c3 else rc u, ?_, fun u hu => ?_⟩, l2⟩
  · rcases hk with hk | hk | hk | hk
    · exact Nat.lt_of_lt_of_le (h.sz k hk) hb.size
    · rw [hk]; exact w1.lt
    · rw [hk]; exact w2.lt
    · rw [hk]; exact w3.lt
  · have e : (fun i => if i = item.toNat then Value.int .i64 (wrap64 (a0 - K)) else .int .i64 (L.hv.getD i 0)) = fun i => if i = item.toNat then Value.int .i64 (wrap64 (rd L.hv item - K)) else .int .i64 (L.hv.getD i 0) := by rw [ha0]; rfl
    refine .inr ⟨_, rfl, .inr (.inl rfl), fun i hi => ?_⟩
    rw [Go.WideShapes.add_plain, Nat.zero_add, w1.e i hi]
    show _ = some (Value.int .i64 ((L.hv.set item.toNat (wrap64 (rd L.hv item - K))).getD i 0))
    rw [set_getD _ (by rw [h.g.hn]; exact hi), show rd L.hv item = a0 by rw [ha0]; rfl]
    split <;> rfl
  · refine .inr ⟨_, rfl, .inr (.inr (.inl rfl)), fun i hi => ?_⟩
    rw [Go.WideShapes.add_plain, Nat.zero_add, w2.e i hi, hvs]
    by_cases hit : i = t.toNat
    · simp only [if_pos hit]
    · simp only [if_neg hit]
  · have e : row (mvS L t item K).hd (u : Int) = if u = t.toNat then ((row L.hd t).set item.toNat (wrap64 (rd (row L.hd t) item + K))) else row L.hd (u : Int) := row_set _ (by rw [h.g.hm]; exact hu)
    rw [e]
    by_cases hut : u = t.toNat
    · simp only [if_pos hut]
      refine ⟨l3, .inr ⟨_, rfl, .inr (.inr (.inr rfl)), fun i hi => ?_⟩⟩
      rw [Go.WideShapes.add_plain, Nat.zero_add, w3.e i hi]
      show _ = some (Value.int .i64 (((row L.hd t).set item.toNat (wrap64 (rd (row L.hd t) item + K))).getD i 0))
      rw [set_getD _ (by rw [hrl]; exact hi), show rd (row L.hd t) item = a1 by rw [ha1]; rfl]
      split <;> rfl
    · simp only [if_neg hut]
      exact ⟨(hR u hu).1, ((hR u hu).2.fo hf).mono (fun _ hk => .inl hk)⟩
set_option maxHeartbeats 4000000 in
set_option maxRecDepth 100000 in
theorem give_is (n m : Nat) (A : Option Addr) (c : Nat) (B : Option Addr) (d : Nat) (L : LG) (t item K : Int) (S : Nat → Prop) (w : World) (h : Aside0 (LV S n m A c B d L w)) (t0 : 0 ≤ t) (t1 : t < m) (i0 : 0 ≤ item) (i1 : item < n) (hK : (K == 0) = false) :
    Calls Try.prog 30 #[.agg #[.slice A n c, .slice B m d], .int .i64 t, .agg #[.int .i64 item, .int .i64 K]] w fun e w' => ∃ (S' : Nat → Prop) (A' : Option Addr) (c' : Nat) (B' : Option Addr) (d' : Nat), e = .returned (.agg #[.slice A' n c', .slice B' m d']) ∧ LV S' n m A' c' B' d' (mvS L t item K) w' ∧ (∀ j, S' j → S j ∨ w.heap.size ≤ j) ∧ Below w.heap.size w w' := by
  have hRa := Aside0.mk (h.out.a.rv h.out.sz)
  obtain ⟨rA, rc, hB, hR⟩ := h.out.b
  obtain ⟨hlt, hCt⟩ := hR t.toNat (by omega)
  rw [Int.toNat_of_nonneg t0] at hCt
  obtain ⟨vs, hvs⟩ : ∃ vs : Nat → Value, vs = fun u => .slice (rA u) n (rc u) := ⟨_, rfl⟩
  obtain ⟨At, hAt⟩ : ∃ At, At = rA t.toNat := ⟨_, rfl⟩
  obtain ⟨ct, hct⟩ : ∃ ct, ct = rc t.toNat := ⟨_, rfl⟩
  have HVS := Aside0.mk (show RV B m vs w by rw [hvs]; exact hB.rv h.out.sz)
  have HROW := Aside0.mk (And.intro hvs (And.intro hB hR))
  have HN := Aside0.mk (And.intro h.out.g.n20 h.out.g.m40)
  have hrl : (row L.hd t).length = n := h.out.g.rows _ (row_mem t0 (by rw [h.out.g.hm]; exact t1))
  have HET := Aside0.mk (show vs t.toNat = .slice At n ct by rw [hvs, hAt, hct])
  have HRT := Aside0.mk (show RV At n (fun i => .int .i64 ((row L.hd t).getD i 0)) w by rw [hAt]; exact hCt.rv h.out.sz)
  have TN := Aside0.mk (And.intro (show t.toNat < m by omega) (show item.toNat < n by omega))
  have HHT := Aside0.mk hrl
  clear hvs hlt hCt hB hR hAt hct hrl
  obtain ⟨a0, ha0⟩ : ∃ a, a = L.hv.getD item.toNat 0 := ⟨_, rfl⟩
  obtain ⟨a1, ha1⟩ : ∃ a, a = (row L.hd t).getD item.toNat 0 := ⟨_, rfl⟩
  replace ha0 := Aside0.mk ha0
  replace ha1 := Aside0.mk ha1
  go_enter Try.func30, Try.ntmps30
  go_upto_region 3 with (fail)
  have ga : GX w.heap.size (w.heap.size + 1) (w.heap.size + 1 + 1) (.slice A n c) (.slice B m d) item K w (((w.alloc (Obj.cells #[Value.slice A n c, Value.slice B m d] 25)).alloc (Obj.cells #[Value.int IntKind.i64 item, Value.int IntKind.i64 K] 27)).alloc (Obj.cells #[Value.slice none 0 0, Value.slice none 0 0] 25)) :=
    ⟨((((Below.refl _ _).alloc (Nat.le_refl _) _).alloc (by simp) _).alloc (by simp; omega) _), ⟨Nat.le_refl _, by omega, by omega, by simp⟩, by go_simp, by go_simp, by go_simp, by go_simp, ⟨.slice none 0 0, by go_simp⟩, ⟨.slice none 0 0, by go_simp⟩, fun i => by go_simp, fun i => by go_simp, fun i => by go_simp⟩
  have hga := Aside0.mk ga
  clear ga
  generalize (((w.alloc (Obj.cells #[Value.slice A n c, Value.slice B m d] 25)).alloc (Obj.cells #[Value.int IntKind.i64 item, Value.int IntKind.i64 K] 27)).alloc (Obj.cells #[Value.slice none 0 0, Value.slice none 0 0] 25)) = W3 at hga ⊢
  generalize hb1 : w.heap.size + 1 = b1 at hga ⊢
  generalize hb0 : w.heap.size = b0 at hga ⊢
  generalize b1 + 1 = b2 at hga ⊢
  clear hb0 hb1
  have hgd := Aside0.mk (hga.out.step (below_drew1 (Below.refl W3.heap.size W3)))
  refine start_ (n := 10) (S := fun w' => w'.cell? ⟨b0, 0, none⟩ = some (.slice A n c) ∧ w'.cell? ⟨b0, 1, none⟩ = some (.slice B m d) ∧ GX b0 b1 b2 (.slice A n c) (.slice B m d) item K w w') (ds := [7, 9]) #[false, false, false, false, false, false, false, false, false, false] (by kernel_rfl) rfl rfl ⟨hgd.out.k0, hgd.out.k1, hgd.out⟩ (fun hHeld => ?_)
  refine pure_ (i := 0) (N := some 13) (v := ?_) (a' := ?_) #[true, false, false, false, false, false, false, false, false, false] rfl rfl (by kernel_rfl) (fun _ _ _ h => h) (Or.inl ⟨by rfl, ?_⟩) ?_ ?_
  rotate_left
  · intro w'
    go_simp
    with_reducible rfl
  rotate_left
  · simp only [Act.put, List.setIfInBounds_toArray, List.set_cons_zero, List.set_cons_succ, i64_w, i32_w]
    rfl
  refine pure_ (i := 3) (N := some 16) (v := ?_) (a' := ?_) #[true, false, false, true, false, false, false, false, false, false] rfl rfl (by kernel_rfl) (fun _ _ _ h => h) (Or.inl ⟨by rfl, ?_⟩) ?_ ?_
  rotate_left
  · intro w'
    go_simp
    with_reducible rfl
  rotate_left
  · simp only [Act.put, List.setIfInBounds_toArray, List.set_cons_zero, List.set_cons_succ, i64_w, i32_w]
    rfl
  refine take_ (i := 1) (N := some 14) (v := ?_) (a' := ?_) #[true, true, false, true, false, false, false, false, false, false] rfl rfl (by kernel_rfl) (fun _ _ _ h => h) (Or.inl ⟨by rfl, ?_⟩) hHeld ?_ ?_
  rotate_left
  · rintro w' ⟨s0, s1, s2⟩
    go_simp
    with_reducible rfl
  rotate_left
  · simp only [Act.put, List.setIfInBounds_toArray, List.set_cons_zero, List.set_cons_succ, i64_w, i32_w]
    rfl
  refine take_ (i := 4) (N := some 17) (v := ?_) (a' := ?_) #[true, true, false, true, true, false, false, false, false, false] rfl rfl (by kernel_rfl) (fun _ _ _ h => h) (Or.inl ⟨by rfl, ?_⟩) hHeld ?_ ?_
  rotate_left
  · rintro w' ⟨s0, s1, s2⟩
    go_simp
    with_reducible rfl
  rotate_left
  · simp only [Act.put, List.setIfInBounds_toArray, List.set_cons_zero, List.set_cons_succ, i64_w, i32_w]
    rfl
  refine one_ (i := 2) (N := some 15) #[true, true, true, true, true, false, false, false, false, false] rfl rfl (by kernel_rfl) (by decide) (fun K hK => ?_)
  refine goes_ Try.func35 (by kernel_rfl) rfl #[.slice A n c] (by rfl) rfl rfl (by simp only [List.map_toArray, List.map_cons, List.map_nil]; rfl) ?_
  with_reducible refine (clone_ints A n c _ _ ⟨hRa.out.below hHeld.2.2.below⟩ ⟨fun _ _ => rfl⟩ (by have := HN.out; omega)).mono ?_
  rintro e wa ⟨A1, c1, rfl, o1, l1, ba⟩
  refine ⟨_, rfl, ?_⟩
  have g1 := hHeld.2.2.step ba
  have o1 := Aside0.mk o1
  have l1 := Aside0.mk l1
  have lo1 := Aside0.mk hHeld.2.2.lo
  clear hHeld
  refine hK.out _ _ ⟨g1.k0, g1.k1, g1⟩ (fun hHeld => ?_)
  clear hK K
  refine norm_ (a' := ?_) ?_ ?_
  rotate_left
  · show Act.put _ (some 15) _ = _
    simp only [Act.put, List.setIfInBounds_toArray, List.set_cons_zero, List.set_cons_succ, i64_w, i32_w]
    rfl
  refine pure_ (i := 6) (N := some 19) (v := ?_) (a' := ?_) #[true, true, true, true, true, false, true, false, false, false] rfl rfl (by kernel_rfl) (fun _ _ _ h => h) (Or.inl ⟨by rfl, ?_⟩) ?_ ?_
  rotate_left
  · intro w'
    go_simp
    with_reducible rfl
  rotate_left
  · simp only [Act.put, List.setIfInBounds_toArray, List.set_cons_zero, List.set_cons_succ, i64_w, i32_w]
    rfl
  refine one_ (i := 5) (N := some 18) #[true, true, true, true, true, true, true, false, false, false] rfl rfl (by kernel_rfl) (by decide) (fun K hK => ?_)
  refine goes_ Try.func38 (by kernel_rfl) rfl #[.slice B m d] (by rfl) rfl rfl (by simp only [List.map_toArray, List.map_cons, List.map_nil]; rfl) ?_
  with_reducible refine (clone_rows B m d _ _ ⟨HVS.out.below hHeld.2.2.below⟩ ⟨fun i hi => by rw [HROW.out.1]; exact one_slice _ _ _⟩ (by have := HN.out; omega)).mono ?_
  rintro e wb ⟨B1, d1, rfl, o2, l2, bb⟩
  refine ⟨_, rfl, ?_⟩
  have g2 := Aside0.mk (hHeld.2.2.step bb)
  have o2 := Aside0.mk o2
  have l2 := Aside0.mk l2
  have bb := Aside0.mk bb
  have g2 := Aside0.mk g2.out
  clear hHeld
  refine hK.out _ _ ⟨g2.out.k0, g2.out.k1, g2.out⟩ (fun hHeld => ?_)
  clear hK K
  refine norm_ (a' := ?_) ?_ ?_
  rotate_left
  · show Act.put _ (some 18) _ = _
    simp only [Act.put, List.setIfInBounds_toArray, List.set_cons_zero, List.set_cons_succ, i64_w, i32_w]
    rfl
  refine last_ (i := 7) (N := none) #[true, true, true, true, true, true, true, true, false, false] rfl rfl (by kernel_rfl) (by decide) (fun K hK => ?_)
  have hf0 := g2.out.f0
  have hk0 := g2.out.k0
  have hk1 := g2.out.k1
  refine skip_ (w1 := ?_) (by rfl) rfl ?_ ?_
  rotate_left
  · go_simp
    rfl
  refine hK.out _ _ ?_
  clear hK K
  refine pure_ (i := 8) (N := some 20) (v := ?_) (a' := ?_) #[true, true, true, true, true, true, true, true, true, false] rfl rfl (by kernel_rfl) (fun _ _ _ h => h) (Or.inl ⟨by rfl, ?_⟩) ?_ ?_
  rotate_left
  · intro w'
    go_simp
    with_reducible rfl
  rotate_left
  · simp only [Act.put, List.setIfInBounds_toArray, List.set_cons_zero, List.set_cons_succ, i64_w, i32_w]
    rfl
  refine last_ (i := 9) (N := none) #[true, true, true, true, true, true, true, true, true, true] rfl rfl (by kernel_rfl) (by decide) (fun K hK => ?_)
  refine skip_ (w1 := ?_) (by rfl) rfl ?_ ?_
  rotate_left
  · go_simp
    rfl
  refine hK.out _ _ ?_
  clear hK K
  refine done_ (by kernel_rfl) ?_
  clear hf0 hk0 hk1 hHeld
  obtain ⟨x1, rfl, q1, w1⟩ := o1.out.rw (by have := TN.out; omega)
  obtain ⟨x2, rfl, q2, w2⟩ := o2.out.rw (by have := TN.out; omega)
  have x12 : x1 < x2 := Nat.lt_of_lt_of_le w1.lt q2
  have bx : b2 < x1 := Nat.lt_of_lt_of_le lo1.out.2.2.2 q1
  have hg3 := Aside0.mk ((g2.out.put (.slice (some ⟨x1, 0, none⟩) n c1) (.slice (some ⟨x2, 0, none⟩) m d1)))
  have bx0 : b0 ≠ x1 ∧ b0 ≠ x2 := by have := lo1.out; omega
  have w1 := Aside0.mk (((w1.step bb.out).far (y := b0) (j := 0) bx0.1 (.slice (some ⟨x1, 0, none⟩) n c1)).far (y := b0) (j := 1) bx0.1 (.slice (some ⟨x2, 0, none⟩) m d1))
  have w2 := Aside0.mk ((w2.far (y := b0) (j := 0) bx0.2 (.slice (some ⟨x1, 0, none⟩) n c1)).far (y := b0) (j := 1) bx0.2 (.slice (some ⟨x2, 0, none⟩) m d1))
  clear g2 o1 o2 bb g1 lo1 hgd hga q1 q2 bx0 ba
  have BX := Aside0.mk (And.intro bx x12)
  clear bx x12
  generalize (wb.setCell { block := b0, off := 0 } (Value.slice (some { block := x1, off := 0 }) n c1)).setCell { block := b0, off := 1 } (Value.slice (some { block := x2, off := 0 }) m d1) = W4 at hg3 w1 w2 ⊢
  go_upto_region 4 with (fail)
  have hg3 := Aside0.mk (hg3.out.step (below_drew1 (Below.refl W4.heap.size W4)))
  have w1 := Aside0.mk (w1.out.step (below_drew1 (Below.refl W4.heap.size W4)))
  have w2 := Aside0.mk (w2.out.step (below_drew1 (Below.refl W4.heap.size W4)))
  refine start_ (n := 11) (S := fun w' => w'.cell? ⟨b0, 1, none⟩ = some (.slice (some ⟨x2, 0, none⟩) m d1) ∧ w'.cell? ⟨x2, t.toNat, none⟩ = some (.slice At n ct) ∧ GX b0 b1 b2 (.slice (some ⟨x1, 0, none⟩) n c1) (.slice (some ⟨x2, 0, none⟩) m d1) item K w w' ∧ RW x1 n (fun i => .int .i64 (L.hv.getD i 0)) w' ∧ RW x2 m vs w') (ds := [10]) #[false, false, false, false, false, false, false, false, false, false, false] (by kernel_rfl) rfl rfl ⟨hg3.out.k1, ((w2.out.e t.toNat TN.out.1).trans (by rw [HET.out])), ⟨hg3.out, w1.out, w2.out⟩⟩ (fun hHeld => ?_)
  refine pure_ (i := 0) (N := some 21) (v := ?_) (a' := ?_) #[true, false, false, false, false, false, false, false, false, false, false] rfl rfl (by kernel_rfl) (fun _ _ _ h => h) (Or.inl ⟨by rfl, ?_⟩) ?_ ?_
  rotate_left
  · intro w'
    go_simp
    with_reducible rfl
  rotate_left
  · simp only [Act.put, List.setIfInBounds_toArray, List.set_cons_zero, List.set_cons_succ, i64_w, i32_w]
    rfl
  refine pure_ (i := 2) (N := some 23) (v := ?_) (a' := ?_) #[true, false, true, false, false, false, false, false, false, false, false] rfl rfl (by kernel_rfl) (fun _ _ _ h => h) (Or.inl ⟨by rfl, ?_⟩) ?_ ?_
  rotate_left
  · intro w'
    go_simp
    with_reducible rfl
  rotate_left
  · simp only [Act.put, List.setIfInBounds_toArray, List.set_cons_zero, List.set_cons_succ, i64_w, i32_w]
    rfl
  refine pure_ (i := 3) (N := some 24) (v := ?_) (a' := ?_) #[true, false, true, true, false, false, false, false, false, false, false] rfl rfl (by kernel_rfl) (fun _ _ _ h => h) (Or.inl ⟨by rfl, ?_⟩) ?_ ?_
  rotate_left
  · intro w'
    go_simp
    with_reducible rfl
  rotate_left
  · simp only [Act.put, List.setIfInBounds_toArray, List.set_cons_zero, List.set_cons_succ, i64_w, i32_w]
    rfl
  refine pure_ (i := 5) (N := some 26) (v := ?_) (a' := ?_) #[true, false, true, true, false, true, false, false, false, false, false] rfl rfl (by kernel_rfl) (fun _ _ _ h => h) (Or.inl ⟨by rfl, ?_⟩) ?_ ?_
  rotate_left
  · intro w'
    go_simp
    with_reducible rfl
  rotate_left
  · simp only [Act.put, List.setIfInBounds_toArray, List.set_cons_zero, List.set_cons_succ, i64_w, i32_w]
    rfl
  refine take_ (i := 1) (N := some 22) (v := ?_) (a' := ?_) #[true, true, true, true, false, true, false, false, false, false, false] rfl rfl (by kernel_rfl) (fun _ _ _ h => h) (Or.inl ⟨by rfl, ?_⟩) hHeld ?_ ?_
  rotate_left
  · rintro w' ⟨s0, s1, s2⟩
    go_simp
    with_reducible rfl
  rotate_left
  · simp only [Act.put, List.setIfInBounds_toArray, List.set_cons_zero, List.set_cons_succ, i64_w, i32_w]
    rfl
  refine take_ (i := 4) (N := some 25) (v := ?_) (a' := ?_) #[true, true, true, true, true, true, false, false, false, false, false] rfl rfl (by kernel_rfl) (fun _ _ _ h => h) (Or.inl ⟨by rfl, ?_⟩) hHeld ?_ ?_
  rotate_left
  · rintro w' ⟨s0, s1, s2⟩
    go_simp
    with_reducible rfl
  rotate_left
  · simp only [Act.put, List.setIfInBounds_toArray, List.set_cons_zero, List.set_cons_succ, i64_w, i32_w]
    rfl
  refine pure_ (i := 6) (N := some 27) (v := ?_) (a' := ?_) #[true, true, true, true, true, true, true, false, false, false, false] rfl rfl (by kernel_rfl) (fun _ _ _ h => h) (Or.inl ⟨by rfl, ?_⟩) ?_ ?_
  rotate_left
  · intro w'
    go_simp
    with_reducible rfl
  rotate_left
  · simp only [Act.put, List.setIfInBounds_toArray, List.set_cons_zero, List.set_cons_succ, i64_w, i32_w]
    rfl
  refine take_ (i := 7) (N := some 28) (v := ?_) (a' := ?_) #[true, true, true, true, true, true, true, true, false, false, false] rfl rfl (by kernel_rfl) (fun _ _ _ h => h) (Or.inl ⟨by rfl, ?_⟩) hHeld ?_ ?_
  rotate_left
  · rintro w' ⟨s0, s1, s2⟩
    go_simp
    with_reducible rfl
  rotate_left
  · simp only [Act.put, List.setIfInBounds_toArray, List.set_cons_zero, List.set_cons_succ, i64_w, i32_w]
    rfl
  refine one_ (i := 8) (N := some 29) #[true, true, true, true, true, true, true, true, true, false, false] rfl rfl (by kernel_rfl) (by decide) (fun K hK => ?_)
  refine goes_ Try.func35 (by kernel_rfl) rfl #[.slice At n ct] (by rfl) rfl rfl (by simp only [List.map_toArray, List.map_cons, List.map_nil]; rfl) ?_
  with_reducible refine (clone_ints At n ct _ _ ⟨HRT.out.below hHeld.2.2.1.below⟩ ⟨fun _ _ => rfl⟩ (by have := HN.out; omega)).mono ?_
  rintro e wc ⟨A3, c3, rfl, o3, l3, bc⟩
  refine ⟨_, rfl, ?_⟩
  have g3 := Aside0.mk (hHeld.2.2.1.step bc)
  have w1c := Aside0.mk (hHeld.2.2.2.1.step bc)
  have x2s := Aside0.mk hHeld.2.2.2.2.lt
  have w2c := Aside0.mk (hHeld.2.2.2.2.step bc)
  have o3 := Aside0.mk o3
  have l3 := Aside0.mk l3
  have hce := Aside0.mk ((bc.cell (p := ⟨x2, t.toNat, none⟩) hHeld.2.2.2.2.lt).trans hHeld.2.1)
  clear hHeld bc
  refine hK.out _ _ ⟨g3.out.k1, hce.out, ⟨g3.out, w1c.out, w2c.out⟩⟩ (fun hHeld => ?_)
  clear hK K
  refine norm_ (a' := ?_) ?_ ?_
  rotate_left
  · show Act.put _ (some 29) _ = _
    simp only [Act.put, List.setIfInBounds_toArray, List.set_cons_zero, List.set_cons_succ, i64_w, i32_w]
    rfl
  refine pure_ (i := 9) (N := some 30) (v := ?_) (a' := ?_) #[true, true, true, true, true, true, true, true, true, true, false] rfl rfl (by kernel_rfl) (fun _ _ _ h => h) (Or.inl ⟨by rfl, ?_⟩) ?_ ?_
  rotate_left
  · intro w'
    go_simp
    with_reducible rfl
  rotate_left
  · simp only [Act.put, List.setIfInBounds_toArray, List.set_cons_zero, List.set_cons_succ, i64_w, i32_w]
    rfl
  refine last_ (i := 10) (N := none) #[true, true, true, true, true, true, true, true, true, true, true] rfl rfl (by kernel_rfl) (by decide) (fun K hK => ?_)
  have hf0 := w2c.out.z
  have hk0 := hce.out
  refine skip_ (w1 := ?_) (by rfl) rfl ?_ ?_
  rotate_left
  · go_simp
    rfl
  refine hK.out _ _ ?_
  clear hK K
  refine done_ (by kernel_rfl) ?_
  clear hf0 hk0 hHeld hce
  obtain ⟨x3, rfl, q3, w3⟩ := o3.out.rw (by have := TN.out; omega)
  have x23 : x2 < x3 := Nat.lt_of_lt_of_le x2s.out q3
  have hg4 := Aside0.mk (g3.out.far (x := x2) (i := t.toNat) (by have := BX.out; omega) (.slice (some ⟨x3, 0, none⟩) n c3))
  have w1d := Aside0.mk (w1c.out.far (y := x2) (j := t.toNat) (by have := BX.out; omega) (.slice (some ⟨x3, 0, none⟩) n c3))
  have w2d := Aside0.mk (w2c.out.put TN.out.1 (.slice (some ⟨x3, 0, none⟩) n c3))
  have w3d := Aside0.mk (w3.far (y := x2) (j := t.toNat) (by omega) (.slice (some ⟨x3, 0, none⟩) n c3))
  have BX := Aside0.mk (And.intro BX.out x23)
  clear g3 w1c w2c w3 o3 q3 x2s x23 hg3 w1 w2
  generalize wc.setCell { block := x2, off := t.toNat } (Value.slice (some { block := x3, off := 0 }) n c3) = W5 at hg4 w1d w2d w3d ⊢
  go_upto_region 5 with (fail)
  have hg4 := Aside0.mk (hg4.out.step (below_drew1 (Below.refl W5.heap.size W5)))
  have w1d := Aside0.mk (w1d.out.step (below_drew1 (Below.refl W5.heap.size W5)))
  have w2d := Aside0.mk (w2d.out.step (below_drew1 (Below.refl W5.heap.size W5)))
  have w3d := Aside0.mk (w3d.out.step (below_drew1 (Below.refl W5.heap.size W5)))
  refine start_ (n := 11) (S := fun w' => w'.cell? ⟨b0, 0, none⟩ = some (.slice (some ⟨x1, 0, none⟩) n c1) ∧ w'.cell? ⟨b1, 0, none⟩ = some (.int .i64 item) ∧ w'.cell? ⟨b1, 1, none⟩ = some (.int .i64 K) ∧ w'.cell? ⟨x1, item.toNat, none⟩ = some (.int .i64 a0)) (ds := [10]) #[false, false, false, false, false, false, false, false, false, false, false] (by kernel_rfl) rfl rfl ⟨hg4.out.k0, hg4.out.k2, hg4.out.k3, ((w1d.out.e item.toNat TN.out.2).trans (by rw [← ha0.out]))⟩ (fun hHeld => ?_)
  generalize W5.drew = V5 at hg4 w1d w2d w3d hHeld ⊢
  refine pure_ (i := 0) (N := some 31) (v := ?_) (a' := ?_) #[true, false, false, false, false, false, false, false, false, false, false] rfl rfl (by kernel_rfl) (fun _ _ _ h => h) (Or.inl ⟨by rfl, ?_⟩) ?_ ?_
  rotate_left
  · intro w'
    go_simp
    with_reducible rfl
  rotate_left
  · simp only [Act.put, List.setIfInBounds_toArray, List.set_cons_zero, List.set_cons_succ, i64_w, i32_w]
    rfl
  refine pure_ (i := 2) (N := some 33) (v := ?_) (a' := ?_) #[true, false, true, false, false, false, false, false, false, false, false] rfl rfl (by kernel_rfl) (fun _ _ _ h => h) (Or.inl ⟨by rfl, ?_⟩) ?_ ?_
  rotate_left
  · intro w'
    go_simp
    with_reducible rfl
  rotate_left
  · simp only [Act.put, List.setIfInBounds_toArray, List.set_cons_zero, List.set_cons_succ, i64_w, i32_w]
    rfl
  refine pure_ (i := 6) (N := some 37) (v := ?_) (a' := ?_) #[true, false, true, false, false, false, true, false, false, false, false] rfl rfl (by kernel_rfl) (fun _ _ _ h => h) (Or.inl ⟨by rfl, ?_⟩) ?_ ?_
  rotate_left
  · intro w'
    go_simp
    with_reducible rfl
  rotate_left
  · simp only [Act.put, List.setIfInBounds_toArray, List.set_cons_zero, List.set_cons_succ, i64_w, i32_w]
    rfl
  refine take_ (i := 1) (N := some 32) (v := ?_) (a' := ?_) #[true, true, true, false, false, false, true, false, false, false, false] rfl rfl (by kernel_rfl) (fun _ _ _ h => h) (Or.inl ⟨by rfl, ?_⟩) hHeld ?_ ?_
  rotate_left
  · rintro w' ⟨s0, s1, s2, s3⟩
    go_simp
    with_reducible rfl
  rotate_left
  · simp only [Act.put, List.setIfInBounds_toArray, List.set_cons_zero, List.set_cons_succ, i64_w, i32_w]
    rfl
  refine take_ (i := 3) (N := some 34) (v := ?_) (a' := ?_) #[true, true, true, true, false, false, true, false, false, false, false] rfl rfl (by kernel_rfl) (fun _ _ _ h => h) (Or.inl ⟨by rfl, ?_⟩) hHeld ?_ ?_
  rotate_left
  · rintro w' ⟨s0, s1, s2, s3⟩
    go_simp
    with_reducible rfl
  rotate_left
  · simp only [Act.put, List.setIfInBounds_toArray, List.set_cons_zero, List.set_cons_succ, i64_w, i32_w]
    rfl
  refine pure_ (i := 4) (N := some 35) (v := ?_) (a' := ?_) #[true, true, true, true, true, false, true, false, false, false, false] rfl rfl (by kernel_rfl) (fun _ _ _ h => h) (Or.inl ⟨by rfl, ?_⟩) ?_ ?_
  rotate_left
  · intro w'
    go_simp
    with_reducible rfl
  rotate_left
  · simp only [Act.put, List.setIfInBounds_toArray, List.set_cons_zero, List.set_cons_succ, i64_w, i32_w]
    rfl
  refine take_ (i := 5) (N := some 36) (v := ?_) (a' := ?_) #[true, true, true, true, true, true, true, false, false, false, false] rfl rfl (by kernel_rfl) (fun _ _ _ h => h) (Or.inl ⟨by rfl, ?_⟩) hHeld ?_ ?_
  rotate_left
  · rintro w' ⟨s0, s1, s2, s3⟩
    go_simp
    with_reducible rfl
  rotate_left
  · simp only [Act.put, List.setIfInBounds_toArray, List.set_cons_zero, List.set_cons_succ, i64_w, i32_w]
    rfl
  refine take_ (i := 7) (N := some 38) (v := ?_) (a' := ?_) #[true, true, true, true, true, true, true, true, false, false, false] rfl rfl (by kernel_rfl) (fun _ _ _ h => h) (Or.inl ⟨by rfl, ?_⟩) hHeld ?_ ?_
  rotate_left
  · rintro w' ⟨s0, s1, s2, s3⟩
    go_simp
    with_reducible rfl
  rotate_left
  · simp only [Act.put, List.setIfInBounds_toArray, List.set_cons_zero, List.set_cons_succ, i64_w, i32_w]
    rfl
  refine pure_ (i := 8) (N := some 39) (v := ?_) (a' := ?_) #[true, true, true, true, true, true, true, true, true, false, false] rfl rfl (by kernel_rfl) (fun _ _ _ h => h) (Or.inl ⟨by rfl, ?_⟩) ?_ ?_
  rotate_left
  · intro w'
    go_simp
    with_reducible rfl
  rotate_left
  · simp only [Act.put, List.setIfInBounds_toArray, List.set_cons_zero, List.set_cons_succ, i64_w, i32_w]
    rfl
  refine pure_ (i := 9) (N := some 40) (v := ?_) (a' := ?_) #[true, true, true, true, true, true, true, true, true, true, false] rfl rfl (by kernel_rfl) (fun _ _ _ h => h) (Or.inl ⟨by rfl, ?_⟩) ?_ ?_
  rotate_left
  · intro w'
    go_simp
    with_reducible rfl
  rotate_left
  · simp only [Act.put, List.setIfInBounds_toArray, List.set_cons_zero, List.set_cons_succ, i64_w, i32_w]
    rfl
  refine last_ (i := 10) (N := none) #[true, true, true, true, true, true, true, true, true, true, true] rfl rfl (by kernel_rfl) (by decide) (fun K hK => ?_)
  have hf0 := w1d.out.z
  have hk0 := w1d.out.e item.toNat TN.out.2
  refine skip_ (w1 := ?_) (by rfl) rfl ?_ ?_
  rotate_left
  · go_simp
    rfl
  refine hK.out _ _ ?_
  clear hK K
  refine done_ (by kernel_rfl) ?_
  clear hf0 hk0 hHeld
  have hg5 := Aside0.mk (hg4.out.far (x := x1) (i := item.toNat) BX.out.1.1 (.int .i64 (wrap64 (a0 - K))))
  have w1e := Aside0.mk (w1d.out.put TN.out.2 (.int .i64 (wrap64 (a0 - K))))
  have w2e := Aside0.mk (w2d.out.far (y := x1) (j := item.toNat) (by have := BX.out; omega) (.int .i64 (wrap64 (a0 - K))))
  have w3e := Aside0.mk (w3d.out.far (y := x1) (j := item.toNat) (by have := BX.out; omega) (.int .i64 (wrap64 (a0 - K))))
  clear hg4 w1d w2d w3d
  generalize V5.setCell { block := x1, off := item.toNat } (.int .i64 (wrap64 (a0 - K))) = W6 at hg5 w1e w2e w3e ⊢
  go_upto_region 6 with (fail)
  have hg5 := Aside0.mk (hg5.out.step (below_drew1 (Below.refl W6.heap.size W6)))
  have w1e := Aside0.mk (w1e.out.step (below_drew1 (Below.refl W6.heap.size W6)))
  have w2e := Aside0.mk (w2e.out.step (below_drew1 (Below.refl W6.heap.size W6)))
  have w3e := Aside0.mk (w3e.out.step (below_drew1 (Below.refl W6.heap.size W6)))
  refine start_ (n := 14) (S := fun w' => w'.cell? ⟨b0, 1, none⟩ = some (.slice (some ⟨x2, 0, none⟩) m d1) ∧ w'.cell? ⟨x2, t.toNat, none⟩ = some (.slice (some ⟨x3, 0, none⟩) n c3) ∧ w'.cell? ⟨b1, 0, none⟩ = some (.int .i64 item) ∧ w'.cell? ⟨b1, 1, none⟩ = some (.int .i64 K) ∧ w'.cell? ⟨x3, item.toNat, none⟩ = some (.int .i64 a1)) (ds := [13]) #[false, false, false, false, false, false, false, false, false, false, false, false, false, false] (by kernel_rfl) rfl rfl ⟨hg5.out.k1, ((w2e.out.e t.toNat TN.out.1).trans (by rw [if_pos rfl])), hg5.out.k2, hg5.out.k3, ((w3e.out.e item.toNat TN.out.2).trans (by rw [← ha1.out]))⟩ (fun hHeld => ?_)
  generalize W6.drew = V6 at hg5 w1e w2e w3e hHeld ⊢
  refine pure_ (i := 0) (N := some 41) (v := ?_) (a' := ?_) #[true, false, false, false, false, false, false, false, false, false, false, false, false, false] rfl rfl (by kernel_rfl) (fun _ _ _ h => h) (Or.inl ⟨by rfl, ?_⟩) ?_ ?_
  rotate_left
  · intro w'
    go_simp
    with_reducible rfl
  rotate_left
  · simp only [Act.put, List.setIfInBounds_toArray, List.set_cons_zero, List.set_cons_succ, i64_w, i32_w]
    rfl
  refine pure_ (i := 2) (N := some 43) (v := ?_) (a' := ?_) #[true, false, true, false, false, false, false, false, false, false, false, false, false, false] rfl rfl (by kernel_rfl) (fun _ _ _ h => h) (Or.inl ⟨by rfl, ?_⟩) ?_ ?_
  rotate_left
  · intro w'
    go_simp
    with_reducible rfl
  rotate_left
  · simp only [Act.put, List.setIfInBounds_toArray, List.set_cons_zero, List.set_cons_succ, i64_w, i32_w]
    rfl
  refine pure_ (i := 5) (N := some 46) (v := ?_) (a' := ?_) #[true, false, true, false, false, true, false, false, false, false, false, false, false, false] rfl rfl (by kernel_rfl) (fun _ _ _ h => h) (Or.inl ⟨by rfl, ?_⟩) ?_ ?_
  rotate_left
  · intro w'
    go_simp
    with_reducible rfl
  rotate_left
  · simp only [Act.put, List.setIfInBounds_toArray, List.set_cons_zero, List.set_cons_succ, i64_w, i32_w]
    rfl
  refine pure_ (i := 9) (N := some 50) (v := ?_) (a' := ?_) #[true, false, true, false, false, true, false, false, false, true, false, false, false, false] rfl rfl (by kernel_rfl) (fun _ _ _ h => h) (Or.inl ⟨by rfl, ?_⟩) ?_ ?_
  rotate_left
  · intro w'
    go_simp
    with_reducible rfl
  rotate_left
  · simp only [Act.put, List.setIfInBounds_toArray, List.set_cons_zero, List.set_cons_succ, i64_w, i32_w]
    rfl
  refine take_ (i := 1) (N := some 42) (v := ?_) (a' := ?_) #[true, true, true, false, false, true, false, false, false, true, false, false, false, false] rfl rfl (by kernel_rfl) (fun _ _ _ h => h) (Or.inl ⟨by rfl, ?_⟩) hHeld ?_ ?_
  rotate_left
  · rintro w' ⟨s0, s1, s2, s3, s4⟩
    go_simp
    with_reducible rfl
  rotate_left
  · simp only [Act.put, List.setIfInBounds_toArray, List.set_cons_zero, List.set_cons_succ, i64_w, i32_w]
    rfl
  refine pure_ (i := 3) (N := some 44) (v := ?_) (a' := ?_) #[true, true, true, true, false, true, false, false, false, true, false, false, false, false] rfl rfl (by kernel_rfl) (fun _ _ _ h => h) (Or.inl ⟨by rfl, ?_⟩) ?_ ?_
  rotate_left
  · intro w'
    go_simp
    with_reducible rfl
  rotate_left
  · simp only [Act.put, List.setIfInBounds_toArray, List.set_cons_zero, List.set_cons_succ, i64_w, i32_w]
    rfl
  refine take_ (i := 4) (N := some 45) (v := ?_) (a' := ?_) #[true, true, true, true, true, true, false, false, false, true, false, false, false, false] rfl rfl (by kernel_rfl) (fun _ _ _ h => h) (Or.inl ⟨by rfl, ?_⟩) hHeld ?_ ?_
  rotate_left
  · rintro w' ⟨s0, s1, s2, s3, s4⟩
    go_simp
    with_reducible rfl
  rotate_left
  · simp only [Act.put, List.setIfInBounds_toArray, List.set_cons_zero, List.set_cons_succ, i64_w, i32_w]
    rfl
  refine take_ (i := 6) (N := some 47) (v := ?_) (a' := ?_) #[true, true, true, true, true, true, true, false, false, true, false, false, false, false] rfl rfl (by kernel_rfl) (fun _ _ _ h => h) (Or.inl ⟨by rfl, ?_⟩) hHeld ?_ ?_
  rotate_left
  · rintro w' ⟨s0, s1, s2, s3, s4⟩
    go_simp
    with_reducible rfl
  rotate_left
  · simp only [Act.put, List.setIfInBounds_toArray, List.set_cons_zero, List.set_cons_succ, i64_w, i32_w]
    rfl
  refine pure_ (i := 7) (N := some 48) (v := ?_) (a' := ?_) #[true, true, true, true, true, true, true, true, false, true, false, false, false, false] rfl rfl (by kernel_rfl) (fun _ _ _ h => h) (Or.inl ⟨by rfl, ?_⟩) ?_ ?_
  rotate_left
  · intro w'
    go_simp
    with_reducible rfl
  rotate_left
  · simp only [Act.put, List.setIfInBounds_toArray, List.set_cons_zero, List.set_cons_succ, i64_w, i32_w]
    rfl
  refine take_ (i := 8) (N := some 49) (v := ?_) (a' := ?_) #[true, true, true, true, true, true, true, true, true, true, false, false, false, false] rfl rfl (by kernel_rfl) (fun _ _ _ h => h) (Or.inl ⟨by rfl, ?_⟩) hHeld ?_ ?_
  rotate_left
  · rintro w' ⟨s0, s1, s2, s3, s4⟩
    go_simp
    with_reducible rfl
  rotate_left
  · simp only [Act.put, List.setIfInBounds_toArray, List.set_cons_zero, List.set_cons_succ, i64_w, i32_w]
    rfl
  refine take_ (i := 10) (N := some 51) (v := ?_) (a' := ?_) #[true, true, true, true, true, true, true, true, true, true, true, false, false, false] rfl rfl (by kernel_rfl) (fun _ _ _ h => h) (Or.inl ⟨by rfl, ?_⟩) hHeld ?_ ?_
  rotate_left
  · rintro w' ⟨s0, s1, s2, s3, s4⟩
    go_simp
    with_reducible rfl
  rotate_left
  · simp only [Act.put, List.setIfInBounds_toArray, List.set_cons_zero, List.set_cons_succ, i64_w, i32_w]
    rfl
  refine pure_ (i := 11) (N := some 52) (v := ?_) (a' := ?_) #[true, true, true, true, true, true, true, true, true, true, true, true, false, false] rfl rfl (by kernel_rfl) (fun _ _ _ h => h) (Or.inl ⟨by rfl, ?_⟩) ?_ ?_
  rotate_left
  · intro w'
    go_simp
    with_reducible rfl
  rotate_left
  · simp only [Act.put, List.setIfInBounds_toArray, List.set_cons_zero, List.set_cons_succ, i64_w, i32_w]
    rfl
  refine pure_ (i := 12) (N := some 53) (v := ?_) (a' := ?_) #[true, true, true, true, true, true, true, true, true, true, true, true, true, false] rfl rfl (by kernel_rfl) (fun _ _ _ h => h) (Or.inl ⟨by rfl, ?_⟩) ?_ ?_
  rotate_left
  · intro w'
    go_simp
    with_reducible rfl
  rotate_left
  · simp only [Act.put, List.setIfInBounds_toArray, List.set_cons_zero, List.set_cons_succ, i64_w, i32_w]
    rfl
  refine last_ (i := 13) (N := none) #[true, true, true, true, true, true, true, true, true, true, true, true, true, true] rfl rfl (by kernel_rfl) (by decide) (fun K hK => ?_)
  have hf0 := w3e.out.z
  have hk0 := w3e.out.e item.toNat TN.out.2
  refine skip_ (w1 := ?_) (by rfl) rfl ?_ ?_
  rotate_left
  · go_simp
    rfl
  refine hK.out _ _ ?_
  clear hK K
  refine done_ (by kernel_rfl) ?_
  clear hf0 hk0 hHeld
  have hg6 := Aside0.mk (hg5.out.far (x := x3) (i := item.toNat) (by have := BX.out; omega) (.int .i64 (wrap64 (a1 + K))))
  have w1f := Aside0.mk (w1e.out.far (y := x3) (j := item.toNat) (by have := BX.out; omega) (.int .i64 (wrap64 (a1 + K))))
  have w2f := Aside0.mk (w2e.out.far (y := x3) (j := item.toNat) (by have := BX.out; omega) (.int .i64 (wrap64 (a1 + K))))
  have w3f := Aside0.mk (w3e.out.put TN.out.2 (.int .i64 (wrap64 (a1 + K))))
  clear hg5 w1e w2e w3e
  generalize V6.setCell { block := x3, off := item.toNat } (.int .i64 (wrap64 (a1 + K))) = W7 at hg6 w1f w2f w3f ⊢
  have k0 := hg6.out.k0
  have k1 := hg6.out.k1
  obtain ⟨v0, r0⟩ := hg6.out.r0
  obtain ⟨v1, r1⟩ := hg6.out.r1
  have f2 := hg6.out.f2
  go_wp2
  have hlo := hg6.out.lo
  have nb : b2 ≠ x1 ∧ b2 ≠ x2 ∧ b2 ≠ x3 := by have := BX.out; omega
  have w1g := (w1f.out.far (y := b2) (j := 0) nb.1 (.slice (some ⟨x1, 0, none⟩) n c1)).far (y := b2) (j := 1) nb.1 (.slice (some ⟨x2, 0, none⟩) m d1)
  have w2g := (w2f.out.far (y := b2) (j := 0) nb.2.1 (.slice (some ⟨x1, 0, none⟩) n c1)).far (y := b2) (j := 1) nb.2.1 (.slice (some ⟨x2, 0, none⟩) m d1)
  have w3g := (w3f.out.far (y := b2) (j := 0) nb.2.2 (.slice (some ⟨x1, 0, none⟩) n c1)).far (y := b2) (j := 1) nb.2.2 (.slice (some ⟨x2, 0, none⟩) m d1)
  have hbw := (hg6.out.below.setCell (p := ⟨b2, 0, none⟩) (by show _ ≤ b2; omega) (.slice (some ⟨x1, 0, none⟩) n c1)).setCell (p := ⟨b2, 1, none⟩) (by show _ ≤ b2; omega) (.slice (some ⟨x2, 0, none⟩) m d1)
  have s0 : ((W7.setCell ⟨b2, 0, none⟩ (.slice (some ⟨x1, 0, none⟩) n c1)).setCell ⟨b2, 1, none⟩ (.slice (some ⟨x2, 0, none⟩) m d1)).cell? ⟨b2, 0, none⟩ = some (.slice (some ⟨x1, 0, none⟩) n c1) := csi (i := 1) (j := 0) (by decide) (World.cell?_setCell_same _ _ _ r0)
  have s1 : ((W7.setCell ⟨b2, 0, none⟩ (.slice (some ⟨x1, 0, none⟩) n c1)).setCell ⟨b2, 1, none⟩ (.slice (some ⟨x2, 0, none⟩) m d1)).cell? ⟨b2, 1, none⟩ = some (.slice (some ⟨x2, 0, none⟩) m d1) := World.cell?_setCell_same _ _ _ (csi (i := 0) (j := 1) (by decide) r1)
  refine bodyPost_ret (v := .agg #[.slice (some ⟨x1, 0, none⟩) n c1, .slice (some ⟨x2, 0, none⟩) m d1]) ?_ rfl ⟨fun k => S k ∨ k = x1 ∨ k = x2 ∨ k = x3, some ⟨x1, 0, none⟩, c1, some ⟨x2, 0, none⟩, d1, rfl, ?_, ?_, hbw⟩
  · generalize (W7.setCell ⟨b2, 0, none⟩ (.slice (some ⟨x1, 0, none⟩) n c1)).setCell ⟨b2, 1, none⟩ (.slice (some ⟨x2, 0, none⟩) m d1) = W8 at s0 s1 ⊢
    simp [results, Try.results30, go_sem, s0, s1]
  rotate_left
  · intro j hj
    have h1 := BX.out
    rcases hj with hj | hj
    · exact .inl hj
    · exact .inr (by omega)
  exact give_end h.out t0 t1 HN.out HROW.out.1 HROW.out.2.1 HROW.out.2.2 HHT.out ha0.out ha1.out w1g w2g w3g hbw l1.out l2.out l3.out
end Go.Proofs.Ytlgoincnopfnjaa.Led
