/- The program's Reserve, Some and Release. -/
import Derived.Test.YtlgoincnopfnjaaLedD
namespace Go.Proofs.Ytlgoincnopfnjaa.Led
open Go Go.RowKit Go.Proofs.YtlgoincnopfnjaaW.PrintWords Go.Proofs.YtlgoincnopfnjaaW.PrintMore Go.Proofs.YtlgoincnopfnjaaW.PrintLast
set_option linter.unusedSimpArgs false
set_option linter.unusedVariables false
attribute [local go_sem] max2_int min2_int max_two min_two eqA27
def resS (n m : Nat) (L : LG) (t item K : Int) : LG × Int × Int := if checkS n m t item K = 0 then (if rd L.hv item < K then (L, 0, 0) else (mvS L t item K, K, 0)) else (L, 0, checkS n m t item K)
def someS (n m : Nat) (L : LG) (t item K : Int) : LG × Int × Int := if checkS n m t item K = 0 then (mvS L t item (max (min (rd L.hv item) K) 0), max (min (rd L.hv item) K) 0, 0) else (L, 0, checkS n m t item K)
def relS (n m : Nat) (L : LG) (t item K : Int) : LG × Int × Int := if checkS n m t item K = 0 then (if rd (row L.hd t) item < K then (L, 0, 200) else (mvS L t item (-K), K, 0)) else (L, 0, checkS n m t item K)
theorem checkS_zero {n m : Nat} {t item K : Int} (h : checkS n m t item K = 0) : (0 ≤ t ∧ t < m ∧ 0 ≤ item ∧ item < n) ∧ 1 ≤ K ∧ K ≤ 1048576 := by
  unfold checkS at h
  by_cases h1 : 0 ≤ t ∧ t < m ∧ 0 ≤ item ∧ item < n
  · rw [if_pos h1] at h
    by_cases h2 : 1 ≤ K ∧ K ≤ 1048576
    · exact ⟨h1, h2⟩
    · rw [if_neg h2] at h; omega
  · rw [if_neg h1] at h; omega
theorem wrap64_of {x : Int} (h : I64 x) : wrap64 x = x := by unfold I64 at h; unfold wrap64; omega
theorem rd_mem {l : List Int} {i : Int} (h0 : 0 ≤ i) (h1 : i < l.length) : rd l i ∈ l := by
  show l.getD i.toNat 0 ∈ l
  rw [List.getD_eq_getElem?_getD, List.getElem?_eq_getElem (by omega)]
  exact List.getElem_mem _
theorem set_same {α : Type} {l : List α} {k : Nat} {d : α} : l.set k (l.getD k d) = l := by
  apply List.ext_getElem?
  intro j
  rw [List.getElem?_set]
  by_cases h : k = j
  · subst h
    rw [if_pos rfl]
    split
    · next h => rw [List.getD_eq_getElem?_getD, List.getElem?_eq_getElem h]; rfl
    · next h => rw [List.getElem?_eq_none (by omega)]
  · rw [if_neg h]
theorem mvS_zero {n m : Nat} {L : LG} {t item : Int} (h : Good n m L) (t0 : 0 ≤ t) (t1 : t < m) (i0 : 0 ≤ item) (i1 : item < n) : mvS L t item 0 = L := by
  have hr := row_mem t0 (show t < L.hd.length by rw [h.hm]; exact t1)
  have e1 : wrap64 (rd L.hv item - 0) = rd L.hv item := by rw [Int.sub_zero]; exact wrap64_of (h.ra _ (rd_mem i0 (by rw [h.hn]; exact i1)))
  have e2 : wrap64 (rd (row L.hd t) item + 0) = rd (row L.hd t) item := by rw [Int.add_zero]; exact wrap64_of (h.rb _ hr _ (rd_mem i0 (by rw [h.rows _ hr]; exact i1)))
  have e3 : (row L.hd t).set item.toNat (rd (row L.hd t) item) = row L.hd t := set_same
  have e4 : L.hd.set t.toNat (row L.hd t) = L.hd := set_same
  have e5 : L.hv.set item.toNat (rd L.hv item) = L.hv := set_same
  unfold mvS
  rw [e1, e2, e3, e4, e5]
theorem GX.res {b0 b1 b2 : Nat} {u0 u1 : Value} {item K : Int} {w w' : World} (h : GX b0 b1 b2 u0 u1 item K w w') (v0 v1 : Value) : GX b0 b1 b2 u0 u1 item K w ((w'.setCell ⟨b2, 0, none⟩ v0).setCell ⟨b2, 1, none⟩ v1) := by
  obtain ⟨h1, h2, h3, h4⟩ := h.lo
  obtain ⟨a0, e0⟩ := h.r0
  obtain ⟨a1, e1⟩ := h.r1
  have h5 : w.heap.size ≤ b2 := by omega
  exact ⟨(h.below.setCell h5 v0).setCell h5 v1, by simpa using h.lo, cso (by show b2 ≠ b0; omega) (cso (by show b2 ≠ b0; omega) h.k0), cso (by show b2 ≠ b0; omega) (cso (by show b2 ≠ b0; omega) h.k1), cso (by show b2 ≠ b1; omega) (cso (by show b2 ≠ b1; omega) h.k2), cso (by show b2 ≠ b1; omega) (cso (by show b2 ≠ b1; omega) h.k3),
    ⟨v0, csi (i := 1) (j := 0) (by decide) (World.cell?_setCell_same _ _ _ e0)⟩, ⟨v1, World.cell?_setCell_same _ _ _ (csi (i := 0) (j := 1) (by decide) e1)⟩, fun i => by simpa using h.f0 i, fun i => by simpa using h.f2 i, fun i => by simpa using h.f1 i⟩
theorem GX.k {b0 b1 b2 : Nat} {u0 u1 : Value} {item K : Int} {w w' : World} (h : GX b0 b1 b2 u0 u1 item K w w') (k : Int) : GX b0 b1 b2 u0 u1 item k w (w'.setCell ⟨b1, 1, none⟩ (.int .i64 k)) := by
  obtain ⟨h1, h2, h3, h4⟩ := h.lo
  obtain ⟨a0, e0⟩ := h.r0
  obtain ⟨a1, e1⟩ := h.r1
  have h5 : w.heap.size ≤ b1 := by omega
  exact ⟨h.below.setCell h5 _, by simpa using h.lo, cso (by show b1 ≠ b0; omega) h.k0, cso (by show b1 ≠ b0; omega) h.k1, csi (by decide) h.k2, World.cell?_setCell_same _ _ _ h.k3,
    ⟨a0, cso (by show b1 ≠ b2; omega) e0⟩, ⟨a1, cso (by show b1 ≠ b2; omega) e1⟩, fun i => by simpa using h.f0 i, fun i => by simpa using h.f2 i, fun i => by simpa using h.f1 i⟩
/-- A ledger's number, read. -/
theorem LV.at_ {S : Nat → Prop} {n m : Nat} {A : Option Addr} {c : Nat} {B : Option Addr} {d : Nat} {L : LG} {w : World} (h : LV S n m A c B d L w) {i : Int} (i0 : 0 ≤ i) (i1 : i < n) : ∃ ad : Addr, A = some ad ∧ ad.block < w.heap.size ∧ w.cell? (ad.add i.toNat) = some (.int .i64 (rd L.hv i)) := by
  rcases h.a with h0 | ⟨ad, e, h1, h2⟩
  · omega
  · exact ⟨ad, e, h.sz _ h1, h2 _ (by omega)⟩
theorem LV.row_ {S : Nat → Prop} {n m : Nat} {A : Option Addr} {c : Nat} {B : Option Addr} {d : Nat} {L : LG} {w : World} (h : LV S n m A c B d L w) {t i : Int} (t0 : 0 ≤ t) (t1 : t < m) (i0 : 0 ≤ i) (i1 : i < n) :
    ∃ (bd ad : Addr) (cr : Nat), B = some bd ∧ bd.block < w.heap.size ∧ w.cell? (bd.add t.toNat) = some (.slice (some ad) n cr) ∧ ad.block < w.heap.size ∧ w.cell? (ad.add i.toNat) = some (.int .i64 (rd (row L.hd t) i)) := by
  obtain ⟨rA, rc, hB, hR⟩ := h.b
  rcases hB with h0 | ⟨bd, e, h1, h2⟩
  · omega
  · obtain ⟨h3, h4⟩ := hR t.toNat (by omega)
    rcases h4 with h0 | ⟨ad, e4, h5, h6⟩
    · omega
    · refine ⟨bd, ad, rc t.toNat, e, h.sz _ h1, ?_, h.sz _ h5, ?_⟩
      · rw [h2 _ (by omega)]
        show some (Value.slice (rA t.toNat) n (rc t.toNat)) = _
        rw [e4]
      · have := h6 i.toNat (by omega)
        rw [Int.toNat_of_nonneg t0] at this
        exact this
set_option maxHeartbeats 4000000 in
set_option maxRecDepth 100000 in
theorem give_zero (n m : Nat) (A : Option Addr) (c : Nat) (B : Option Addr) (d : Nat) (t item : Int) (w : World) :
    Calls Try.prog 30 #[.agg #[.slice A n c, .slice B m d], .int .i64 t, .agg #[.int .i64 item, .int .i64 0]] w fun e w' => e = .returned (.agg #[.slice A n c, .slice B m d]) ∧ Below w.heap.size w w' := by
  have HB := Aside0.mk (((((Below.refl w.heap.size w).alloc (Nat.le_refl _) (.cells #[.slice A n c, .slice B m d] 25)).alloc (by simp) (.cells #[.int .i64 item, .int .i64 0] 27)).alloc (by simp; omega) (.cells #[.slice A n c, .slice B m d] 25)))
  go_enter Try.func30, Try.ntmps30
  go_wp2
  refine bodyPost_ret (v := .agg #[.slice A n c, .slice B m d]) (by simp [results, Try.results30, go_sem]) rfl ⟨rfl, ?_⟩
  exact HB.out
/-- give, whatever the number. -/
theorem give_any (n m : Nat) (A : Option Addr) (c : Nat) (B : Option Addr) (d : Nat) (L : LG) (t item K : Int) (S : Nat → Prop) (w : World) (h : Aside0 (LV S n m A c B d L w)) (hb : Aside0 (0 ≤ t ∧ t < m ∧ 0 ≤ item ∧ item < n)) :
    Calls Try.prog 30 #[.agg #[.slice A n c, .slice B m d], .int .i64 t, .agg #[.int .i64 item, .int .i64 K]] w fun e w' => ∃ (S' : Nat → Prop) (A' : Option Addr) (c' : Nat) (B' : Option Addr) (d' : Nat), e = .returned (.agg #[.slice A' n c', .slice B' m d']) ∧ LV S' n m A' c' B' d' (mvS L t item K) w' ∧ (∀ j, S' j → S j ∨ w.heap.size ≤ j) ∧ Below w.heap.size w w' := by
  obtain ⟨t0, t1, i0, i1⟩ := hb.out
  by_cases hK : K = 0
  · subst hK
    refine (give_zero n m A c B d t item w).mono ?_
    rintro e w' ⟨rfl, hb⟩
    exact ⟨S, A, c, B, d, rfl, by rw [mvS_zero h.out.g t0 t1 i0 i1]; exact h.out.below hb, fun _ hj => .inl hj, hb⟩
  · exact give_is n m A c B d L t item K S w h t0 t1 i0 i1 (by simpa using hK)

set_option maxHeartbeats 4000000 in
set_option maxRecDepth 100000 in
theorem reserve_bad (n m : Nat) (A : Option Addr) (c : Nat) (B : Option Addr) (d : Nat) (L : LG) (t item q : Int) (S : Nat → Prop) (w : World) (h : Aside0 (LV S n m A c B d L w)) (hq : Aside0 (-9223372036854775808 ≤ q ∧ q ≤ 9223372036854775807)) (L' : LG) (k er : Int) (hc : Hid (checkS n m t item q = er)) (he : (er == 0) = false) (hL : L = L') (hk : 0 = k) :
    Calls Try.prog 13 #[.agg #[.slice A n c, .slice B m d], .int .i64 t, .agg #[.int .i64 item, .int .i64 q]] w (Told S n m L' k er w) := by
  subst hL
  subst hk
  have he2 : (er != 0) = true := by simp [bne, he]
  go_enter Try.func13, Try.ntmps13
  go_upto_region 1 with (fail)
  have ga : GX w.heap.size (w.heap.size + 1) (w.heap.size + 1 + 1) (.slice A n c) (.slice B m d) item q w (((w.alloc (Obj.cells #[Value.slice A n c, Value.slice B m d] 25)).alloc (Obj.cells #[Value.int IntKind.i64 item, Value.int IntKind.i64 q] 27)).alloc (Obj.cells #[Value.slice none 0 0, Value.slice none 0 0] 25)) :=
    ⟨((((Below.refl _ _).alloc (Nat.le_refl _) _).alloc (by simp) _).alloc (by simp; omega) _), ⟨Nat.le_refl _, by omega, by omega, by simp⟩, by go_simp, by go_simp, by go_simp, by go_simp, ⟨.slice none 0 0, by go_simp⟩, ⟨.slice none 0 0, by go_simp⟩, fun i => by go_simp, fun i => by go_simp, fun i => by go_simp⟩
  have hga := Aside0.mk ga
  clear ga
  generalize (((w.alloc (Obj.cells #[Value.slice A n c, Value.slice B m d] 25)).alloc (Obj.cells #[Value.int IntKind.i64 item, Value.int IntKind.i64 q] 27)).alloc (Obj.cells #[Value.slice none 0 0, Value.slice none 0 0] 25)) = W3 at hga ⊢
  generalize hb1 : w.heap.size + 1 = b1 at hga ⊢
  generalize hb0 : w.heap.size = b0 at hga ⊢
  generalize b1 + 1 = b2 at hga ⊢
  clear hb0 hb1
  have k0 := hga.out.k0
  have k1 := hga.out.k1
  have k2 := hga.out.k2
  have k3 := hga.out.k3
  go_upto_region 2 with (first | (go_at_call 29; (with_reducible refine (check_is A B n c m d t item q er _ hq hc).mono ?_); rintro e wa ⟨rfl, ba⟩; have ga := Aside0.mk (hga.out.step ba); clear hga ba k0 k1 k2 k3))
  have k0 := ga.out.k0
  have k1 := ga.out.k1
  have k2 := ga.out.k2
  have k3 := ga.out.k3
  obtain ⟨v0, r0⟩ := ga.out.r0
  obtain ⟨v1, r1⟩ := ga.out.r1
  have f2 := ga.out.f2
  have f1 := ga.out.f1
  go_quiet (fail)
  have gq := Aside0.mk (ga.out.step (pw_below_drewN (Below.refl wa.heap.size wa) nq))
  clear ga k0 k1 k2 k3 r0 r1 f2 f1
  generalize wa.drewN nq = wq at gq ⊢
  have k0 := gq.out.k0
  have k1 := gq.out.k1
  have k2 := gq.out.k2
  have k3 := gq.out.k3
  obtain ⟨v0, r0⟩ := gq.out.r0
  obtain ⟨v1, r1⟩ := gq.out.r1
  have f2 := gq.out.f2
  have f1 := gq.out.f1
  go_wp2
  have hbw := (gq.out.below.setCell (p := ⟨b2, 0, none⟩) (by have := gq.out.lo; show _ ≤ b2; omega) (.slice A n c)).setCell (p := ⟨b2, 1, none⟩) (by have := gq.out.lo; show _ ≤ b2; omega) (.slice B m d)
  have s0 : ((wq.setCell ⟨b2, 0, none⟩ (.slice A n c)).setCell ⟨b2, 1, none⟩ (.slice B m d)).cell? ⟨b2, 0, none⟩ = some (.slice A n c) := csi (i := 1) (j := 0) (by decide) (World.cell?_setCell_same _ _ _ r0)
  have s1 : ((wq.setCell ⟨b2, 0, none⟩ (.slice A n c)).setCell ⟨b2, 1, none⟩ (.slice B m d)).cell? ⟨b2, 1, none⟩ = some (.slice B m d) := World.cell?_setCell_same _ _ _ (csi (i := 0) (j := 1) (by decide) r1)
  generalize (wq.setCell ⟨b2, 0, none⟩ (.slice A n c)).setCell ⟨b2, 1, none⟩ (.slice B m d) = W8 at hbw s0 s1 ⊢
  refine bodyPost_ret (v := .tuple #[.agg #[.slice A n c, .slice B m d], .int .i64 0, .int .i64 er]) (by simp [results, Try.results13, go_sem, s0, s1]) rfl ⟨S, A, c, B, d, rfl, ?_, fun _ hj => .inl hj, ?_⟩
  · first | exact h.out.below hbw | exact h.out.below (below_drew1 hbw) | exact h.out.below (below_drew1 (below_drew1 hbw))
  · first | exact hbw | exact below_drew1 hbw | exact below_drew1 (below_drew1 hbw)

set_option maxHeartbeats 4000000 in
set_option maxRecDepth 100000 in
theorem reserve_few (n m : Nat) (A : Option Addr) (c : Nat) (B : Option Addr) (d : Nat) (L : LG) (t item q : Int) (S : Nat → Prop) (w : World) (h : Aside0 (LV S n m A c B d L w)) (hq : Aside0 (-9223372036854775808 ≤ q ∧ q ≤ 9223372036854775807)) (L' : LG) (k er : Int) (hc : Hid (checkS n m t item q = 0)) (hlt : decide (rd L.hv item < q) = true) (hL : L = L') (hk : 0 = k) (her : 0 = er) :
    Calls Try.prog 13 #[.agg #[.slice A n c, .slice B m d], .int .i64 t, .agg #[.int .i64 item, .int .i64 q]] w (Told S n m L' k er w) := by
  subst hL
  subst hk
  subst her
  obtain ⟨⟨t0, t1, i0, i1⟩, hK1, hK2⟩ := checkS_zero hc.out
  have TB := Aside0.mk (⟨t0, t1, i0, i1⟩ : 0 ≤ t ∧ t < m ∧ 0 ≤ item ∧ item < n)
  obtain ⟨ad, rfl, hbk, hx⟩ := h.out.at_ i0 i1
  obtain ⟨x0, hx0⟩ : ∃ x, x = rd L.hv item := ⟨_, rfl⟩
  rw [← hx0] at hx hlt
  have HX := Aside0.mk (And.intro hbk hx)
  have HX0 := Aside0.mk hx0
  clear hK1 hK2 hbk hx hx0
  go_enter Try.func13, Try.ntmps13
  go_upto_region 1 with (fail)
  have ga : GX w.heap.size (w.heap.size + 1) (w.heap.size + 1 + 1) (.slice (some ad) n c) (.slice B m d) item q w (((w.alloc (Obj.cells #[Value.slice (some ad) n c, Value.slice B m d] 25)).alloc (Obj.cells #[Value.int IntKind.i64 item, Value.int IntKind.i64 q] 27)).alloc (Obj.cells #[Value.slice none 0 0, Value.slice none 0 0] 25)) :=
    ⟨((((Below.refl _ _).alloc (Nat.le_refl _) _).alloc (by simp) _).alloc (by simp; omega) _), ⟨Nat.le_refl _, by omega, by omega, by simp⟩, by go_simp, by go_simp, by go_simp, by go_simp, ⟨.slice none 0 0, by go_simp⟩, ⟨.slice none 0 0, by go_simp⟩, fun i => by go_simp, fun i => by go_simp, fun i => by go_simp⟩
  have hga := Aside0.mk ga
  clear ga
  generalize (((w.alloc (Obj.cells #[Value.slice (some ad) n c, Value.slice B m d] 25)).alloc (Obj.cells #[Value.int IntKind.i64 item, Value.int IntKind.i64 q] 27)).alloc (Obj.cells #[Value.slice none 0 0, Value.slice none 0 0] 25)) = W3 at hga ⊢
  generalize hb1 : w.heap.size + 1 = b1 at hga ⊢
  generalize hb0 : w.heap.size = b0 at hga ⊢
  generalize b1 + 1 = b2 at hga ⊢
  clear hb0 hb1
  have k0 := hga.out.k0
  have k1 := hga.out.k1
  have k2 := hga.out.k2
  have k3 := hga.out.k3
  go_upto_region 2 with (first | (go_at_call 29; (with_reducible refine (check_is (some ad) B n c m d t item q 0 _ hq hc).mono ?_); rintro e wa ⟨rfl, ba⟩; have ga := Aside0.mk (hga.out.step ba); clear hga ba k0 k1 k2 k3))
  have k0 := ga.out.k0
  have k1 := ga.out.k1
  have k2 := ga.out.k2
  have k3 := ga.out.k3
  obtain ⟨v0, r0⟩ := ga.out.r0
  obtain ⟨v1, r1⟩ := ga.out.r1
  have f2 := ga.out.f2
  have f1 := ga.out.f1
  have hx := (ga.out.below.cell (p := ad.add item.toNat) (by rw [blk_add]; exact HX.out.1)).trans HX.out.2
  go_quiet (fail)
  have gq := Aside0.mk (ga.out.step (pw_below_drewN (Below.refl wa.heap.size wa) nq))
  clear ga k0 k1 k2 k3 r0 r1 f2 f1
  generalize wa.drewN nq = wq at gq ⊢
  have k0 := gq.out.k0
  have k1 := gq.out.k1
  have k2 := gq.out.k2
  have k3 := gq.out.k3
  obtain ⟨v0, r0⟩ := gq.out.r0
  obtain ⟨v1, r1⟩ := gq.out.r1
  have f2 := gq.out.f2
  have f1 := gq.out.f1
  clear hx
  go_wp2
  have hbw := (gq.out.below.setCell (p := ⟨b2, 0, none⟩) (by have := gq.out.lo; show _ ≤ b2; omega) (.slice (some ad) n c)).setCell (p := ⟨b2, 1, none⟩) (by have := gq.out.lo; show _ ≤ b2; omega) (.slice B m d)
  have s0 : ((wq.setCell ⟨b2, 0, none⟩ (.slice (some ad) n c)).setCell ⟨b2, 1, none⟩ (.slice B m d)).cell? ⟨b2, 0, none⟩ = some (.slice (some ad) n c) := csi (i := 1) (j := 0) (by decide) (World.cell?_setCell_same _ _ _ r0)
  have s1 : ((wq.setCell ⟨b2, 0, none⟩ (.slice (some ad) n c)).setCell ⟨b2, 1, none⟩ (.slice B m d)).cell? ⟨b2, 1, none⟩ = some (.slice B m d) := World.cell?_setCell_same _ _ _ (csi (i := 0) (j := 1) (by decide) r1)
  generalize (wq.setCell ⟨b2, 0, none⟩ (.slice (some ad) n c)).setCell ⟨b2, 1, none⟩ (.slice B m d) = W8 at hbw s0 s1 ⊢
  refine bodyPost_ret (v := .tuple #[.agg #[.slice (some ad) n c, .slice B m d], .int .i64 0, .int .i64 0]) (by simp [results, Try.results13, go_sem, s0, s1]) rfl ⟨S, some ad, c, B, d, rfl, ?_, fun _ hj => .inl hj, ?_⟩
  · first | exact h.out.below hbw | exact h.out.below (below_drew1 hbw) | exact h.out.below (below_drew1 (below_drew1 hbw))
  · first | exact hbw | exact below_drew1 hbw | exact below_drew1 (below_drew1 hbw)

set_option maxHeartbeats 4000000 in
set_option maxRecDepth 100000 in
theorem reserve_ok (n m : Nat) (A : Option Addr) (c : Nat) (B : Option Addr) (d : Nat) (L : LG) (t item q : Int) (S : Nat → Prop) (w : World) (h : Aside0 (LV S n m A c B d L w)) (hq : Aside0 (-9223372036854775808 ≤ q ∧ q ≤ 9223372036854775807)) (L' : LG) (k er : Int) (hc : Hid (checkS n m t item q = 0)) (hlt : decide (rd L.hv item < q) = false) (hL : mvS L t item q = L') (hk : q = k) (her : 0 = er) :
    Calls Try.prog 13 #[.agg #[.slice A n c, .slice B m d], .int .i64 t, .agg #[.int .i64 item, .int .i64 q]] w (Told S n m L' k er w) := by
  subst hL
  subst hk
  subst her
  obtain ⟨⟨t0, t1, i0, i1⟩, hK1, hK2⟩ := checkS_zero hc.out
  have TB := Aside0.mk (⟨t0, t1, i0, i1⟩ : 0 ≤ t ∧ t < m ∧ 0 ≤ item ∧ item < n)
  obtain ⟨ad, rfl, hbk, hx⟩ := h.out.at_ i0 i1
  obtain ⟨x0, hx0⟩ : ∃ x, x = rd L.hv item := ⟨_, rfl⟩
  rw [← hx0] at hx hlt
  have HX := Aside0.mk (And.intro hbk hx)
  have HX0 := Aside0.mk hx0
  clear hK1 hK2 hbk hx hx0
  go_enter Try.func13, Try.ntmps13
  go_upto_region 1 with (fail)
  have ga : GX w.heap.size (w.heap.size + 1) (w.heap.size + 1 + 1) (.slice (some ad) n c) (.slice B m d) item q w (((w.alloc (Obj.cells #[Value.slice (some ad) n c, Value.slice B m d] 25)).alloc (Obj.cells #[Value.int IntKind.i64 item, Value.int IntKind.i64 q] 27)).alloc (Obj.cells #[Value.slice none 0 0, Value.slice none 0 0] 25)) :=
    ⟨((((Below.refl _ _).alloc (Nat.le_refl _) _).alloc (by simp) _).alloc (by simp; omega) _), ⟨Nat.le_refl _, by omega, by omega, by simp⟩, by go_simp, by go_simp, by go_simp, by go_simp, ⟨.slice none 0 0, by go_simp⟩, ⟨.slice none 0 0, by go_simp⟩, fun i => by go_simp, fun i => by go_simp, fun i => by go_simp⟩
  have hga := Aside0.mk ga
  clear ga
  generalize (((w.alloc (Obj.cells #[Value.slice (some ad) n c, Value.slice B m d] 25)).alloc (Obj.cells #[Value.int IntKind.i64 item, Value.int IntKind.i64 q] 27)).alloc (Obj.cells #[Value.slice none 0 0, Value.slice none 0 0] 25)) = W3 at hga ⊢
  generalize hb1 : w.heap.size + 1 = b1 at hga ⊢
  generalize hb0 : w.heap.size = b0 at hga ⊢
  generalize b1 + 1 = b2 at hga ⊢
  clear hb0 hb1
  have k0 := hga.out.k0
  have k1 := hga.out.k1
  have k2 := hga.out.k2
  have k3 := hga.out.k3
  go_upto_region 2 with (first | (go_at_call 29; (with_reducible refine (check_is (some ad) B n c m d t item q 0 _ hq hc).mono ?_); rintro e wa ⟨rfl, ba⟩; have ga := Aside0.mk (hga.out.step ba); clear hga ba k0 k1 k2 k3))
  have k0 := ga.out.k0
  have k1 := ga.out.k1
  have k2 := ga.out.k2
  have k3 := ga.out.k3
  obtain ⟨v0, r0⟩ := ga.out.r0
  obtain ⟨v1, r1⟩ := ga.out.r1
  have f2 := ga.out.f2
  have f1 := ga.out.f1
  have hx := (ga.out.below.cell (p := ad.add item.toNat) (by rw [blk_add]; exact HX.out.1)).trans HX.out.2
  go_quiet (fail)
  have gq := Aside0.mk (ga.out.step (pw_below_drewN (Below.refl wa.heap.size wa) nq))
  clear ga k0 k1 k2 k3 r0 r1 f2 f1
  generalize wa.drewN nq = wq at gq ⊢
  have k0 := gq.out.k0
  have k1 := gq.out.k1
  have k2 := gq.out.k2
  have k3 := gq.out.k3
  obtain ⟨v0, r0⟩ := gq.out.r0
  obtain ⟨v1, r1⟩ := gq.out.r1
  have f2 := gq.out.f2
  have f1 := gq.out.f1
  clear hx
  go_upto_region 4 with (fail)
  clear k0 k1 k2 k3 r0 r1 f2 f1
  have gd := Aside0.mk (gq.out.step (below_drew1 (Below.refl wq.heap.size wq)))
  have BW := Aside0.mk gd.out.below.size
  refine start_ (n := 10) (S := fun w' => w'.cell? ⟨b0, 0, none⟩ = some (.slice (some ad) n c) ∧ w'.cell? ⟨b0, 1, none⟩ = some (.slice B m d) ∧ w'.cell? ⟨b1, 0, none⟩ = some (.int .i64 item) ∧ w'.cell? ⟨b1, 1, none⟩ = some (.int .i64 q) ∧ GX b0 b1 b2 (.slice (some ad) n c) (.slice B m d) item q w w') (ds := []) #[false, false, false, false, false, false, false, false, false, false] (by kernel_rfl) rfl rfl ⟨gd.out.k0, gd.out.k1, gd.out.k2, gd.out.k3, gd.out⟩ (fun hHeld => ?_)
  refine pure_ (i := 1) (N := some 30) (v := ?_) (a' := ?_) #[false, true, false, false, false, false, false, false, false, false] rfl rfl (by kernel_rfl) (fun _ _ _ h => h) (Or.inl ⟨by rfl, ?_⟩) ?_ ?_
  rotate_left
  · intro w'
    go_simp
    with_reducible rfl
  rotate_left
  · simp only [Act.put, List.setIfInBounds_toArray, List.set_cons_zero, List.set_cons_succ, i64_w, i32_w]
    rfl
  refine pure_ (i := 4) (N := some 33) (v := ?_) (a' := ?_) #[false, true, false, false, true, false, false, false, false, false] rfl rfl (by kernel_rfl) (fun _ _ _ h => h) (Or.inl ⟨by rfl, ?_⟩) ?_ ?_
  rotate_left
  · intro w'
    go_simp
    with_reducible rfl
  rotate_left
  · simp only [Act.put, List.setIfInBounds_toArray, List.set_cons_zero, List.set_cons_succ, i64_w, i32_w]
    rfl
  refine pure_ (i := 6) (N := some 35) (v := ?_) (a' := ?_) #[false, true, false, false, true, false, true, false, false, false] rfl rfl (by kernel_rfl) (fun _ _ _ h => h) (Or.inl ⟨by rfl, ?_⟩) ?_ ?_
  rotate_left
  · intro w'
    go_simp
    with_reducible rfl
  rotate_left
  · simp only [Act.put, List.setIfInBounds_toArray, List.set_cons_zero, List.set_cons_succ, i64_w, i32_w]
    rfl
  refine take_ (i := 0) (N := some 29) (v := ?_) (a' := ?_) #[true, true, false, false, true, false, true, false, false, false] rfl rfl (by kernel_rfl) (fun _ _ _ h => h) (Or.inl ⟨by rfl, ?_⟩) hHeld ?_ ?_
  rotate_left
  · rintro w' ⟨s0, s1, s2, s3, s4⟩
    go_simp
    with_reducible rfl
  rotate_left
  · simp only [Act.put, List.setIfInBounds_toArray, List.set_cons_zero, List.set_cons_succ, i64_w, i32_w]
    rfl
  refine take_ (i := 2) (N := some 31) (v := ?_) (a' := ?_) #[true, true, true, false, true, false, true, false, false, false] rfl rfl (by kernel_rfl) (fun _ _ _ h => h) (Or.inl ⟨by rfl, ?_⟩) hHeld ?_ ?_
  rotate_left
  · rintro w' ⟨s0, s1, s2, s3, s4⟩
    go_simp
    with_reducible rfl
  rotate_left
  · simp only [Act.put, List.setIfInBounds_toArray, List.set_cons_zero, List.set_cons_succ, i64_w, i32_w]
    rfl
  refine take_ (i := 5) (N := some 34) (v := ?_) (a' := ?_) #[true, true, true, false, true, true, true, false, false, false] rfl rfl (by kernel_rfl) (fun _ _ _ h => h) (Or.inl ⟨by rfl, ?_⟩) hHeld ?_ ?_
  rotate_left
  · rintro w' ⟨s0, s1, s2, s3, s4⟩
    go_simp
    with_reducible rfl
  rotate_left
  · simp only [Act.put, List.setIfInBounds_toArray, List.set_cons_zero, List.set_cons_succ, i64_w, i32_w]
    rfl
  refine one_ (i := 3) (N := some 32) #[true, true, true, true, true, true, true, false, false, false] rfl rfl (by kernel_rfl) (by decide) (fun K hK => ?_)
  refine goes_ Try.func30 (by kernel_rfl) rfl #[.agg #[.slice (some ad) n c, .slice B m d], .int .i64 t, .agg #[.int .i64 item, .int .i64 q]] (by rfl) rfl rfl (by simp only [List.map_toArray, List.map_cons, List.map_nil]; rfl) ?_
  with_reducible refine (give_any n m (some ad) c B d L t item q S _ ⟨h.out.below hHeld.2.2.2.2.below⟩ TB).mono ?_
  rintro e wb ⟨S', A', c', B', d', rfl, hl, hS, bb⟩
  refine ⟨_, rfl, ?_⟩
  have gb := Aside0.mk (hHeld.2.2.2.2.step bb)
  have hl := Aside0.mk hl
  have hS := Aside0.mk hS
  have bz := Aside0.mk hHeld.2.2.2.2.lo
  clear hHeld bb
  refine hK.out _ _ ⟨gb.out.k0, gb.out.k1, gb.out.k2, gb.out.k3, gb.out⟩ (fun hHeld => ?_)
  clear hK K
  refine norm_ (a' := ?_) ?_ ?_
  rotate_left
  · show Act.put _ (some 32) _ = _
    simp only [Act.put, List.setIfInBounds_toArray, List.set_cons_zero, List.set_cons_succ, i64_w, i32_w]
    rfl
  refine one_ (i := 7) (N := none) #[true, true, true, true, true, true, true, true, false, false] rfl rfl (by kernel_rfl) (by decide) (fun K hK => ?_)
  have f2 := gb.out.f2
  obtain ⟨v0, r0⟩ := gb.out.r0
  obtain ⟨v1, r1⟩ := gb.out.r1
  refine skip_ (w1 := ?_) (by rfl) rfl ?_ ?_
  rotate_left
  · go_simp
    rfl
  have g7 := gb.out.res (.slice A' n c') (.slice B' m d')
  refine hK.out _ _ ⟨g7.k0, g7.k1, g7.k2, g7.k3, g7⟩ (fun hHeld => ?_)
  clear hK K
  refine pure_ (i := 8) (N := some 7) (v := ?_) (a' := ?_) #[true, true, true, true, true, true, true, true, true, false] rfl rfl (by kernel_rfl) (fun _ _ _ h => h) (Or.inl ⟨by rfl, ?_⟩) ?_ ?_
  rotate_left
  · intro w'
    go_simp
    with_reducible rfl
  rotate_left
  · simp only [Act.put, List.setIfInBounds_toArray, List.set_cons_zero, List.set_cons_succ, i64_w, i32_w]
    rfl
  refine pure_ (i := 9) (N := some 8) (v := ?_) (a' := ?_) #[true, true, true, true, true, true, true, true, true, true] rfl rfl (by kernel_rfl) (fun _ _ _ h => h) (Or.inl ⟨by rfl, ?_⟩) ?_ ?_
  rotate_left
  · intro w'
    go_simp
    with_reducible rfl
  rotate_left
  · simp only [Act.put, List.setIfInBounds_toArray, List.set_cons_zero, List.set_cons_succ, i64_w, i32_w]
    rfl
  refine done_ (by kernel_rfl) ?_
  go_wp2
  have hn2 : ¬ S' b2 := fun hj => by
    have hlo := bz.out
    rcases hS.out b2 hj with h1 | h1
    · have := h.out.sz b2 h1; omega
    · omega
  have hS2 : ∀ j, S' j → S j ∨ w.heap.size ≤ j := fun j hj => by
    have hlo := gb.out.lo
    have hb2 := BW.out
    rcases hS.out j hj with h1 | h1
    · exact .inl h1
    · exact .inr (by omega)
  have hbw := (gb.out.below.setCell (p := ⟨b2, 0, none⟩) (by have := gb.out.lo; show _ ≤ b2; omega) (.slice A' n c')).setCell (p := ⟨b2, 1, none⟩) (by have := gb.out.lo; show _ ≤ b2; omega) (.slice B' m d')
  have hlw := (hl.out.store (i := 0) hn2 (.slice A' n c')).store (i := 1) hn2 (.slice B' m d')
  have s0 : ((wb.setCell ⟨b2, 0, none⟩ (.slice A' n c')).setCell ⟨b2, 1, none⟩ (.slice B' m d')).cell? ⟨b2, 0, none⟩ = some (.slice A' n c') := csi (i := 1) (j := 0) (by decide) (World.cell?_setCell_same _ _ _ r0)
  have s1 : ((wb.setCell ⟨b2, 0, none⟩ (.slice A' n c')).setCell ⟨b2, 1, none⟩ (.slice B' m d')).cell? ⟨b2, 1, none⟩ = some (.slice B' m d') := World.cell?_setCell_same _ _ _ (csi (i := 0) (j := 1) (by decide) r1)
  generalize (wb.setCell ⟨b2, 0, none⟩ (.slice A' n c')).setCell ⟨b2, 1, none⟩ (.slice B' m d') = W8 at hbw hlw s0 s1 ⊢
  refine bodyPost_ret (v := .tuple #[.agg #[.slice A' n c', .slice B' m d'], .int .i64 q, .int .i64 0]) (by simp [results, Try.results13, go_sem, s0, s1]) rfl ⟨S', A', c', B', d', rfl, ?_, hS2, ?_⟩
  · first | exact hlw | exact hlw.below (below_drew1 (Below.refl _ _))
  · first | exact hbw | exact below_drew1 hbw

theorem reserve_is (n m : Nat) (A : Option Addr) (c : Nat) (B : Option Addr) (d : Nat) (L : LG) (t item q : Int) (S : Nat → Prop) (w : World) (h : Aside0 (LV S n m A c B d L w)) (hq : Aside0 (-9223372036854775808 ≤ q ∧ q ≤ 9223372036854775807)) (L' : LG) (k er : Int) (hs : resS n m L t item q = (L', k, er)) :
    Calls Try.prog 13 #[.agg #[.slice A n c, .slice B m d], .int .i64 t, .agg #[.int .i64 item, .int .i64 q]] w (Told S n m L' k er w) := by
  unfold resS at hs
  by_cases hc : checkS n m t item q = 0
  · rw [if_pos hc] at hs
    by_cases hlt : rd L.hv item < q
    · rw [if_pos hlt] at hs
      simp only [Prod.mk.injEq] at hs
      exact reserve_few n m A c B d L t item q S w h hq L' k er hc (decide_eq_true hlt) hs.1 hs.2.1 hs.2.2
    · rw [if_neg hlt] at hs
      simp only [Prod.mk.injEq] at hs
      exact reserve_ok n m A c B d L t item q S w h hq L' k er hc (decide_eq_false hlt) hs.1 hs.2.1 hs.2.2
  · rw [if_neg hc] at hs
    simp only [Prod.mk.injEq] at hs
    exact reserve_bad n m A c B d L t item q S w h hq L' k er hs.2.2 (by rw [← hs.2.2]; simpa using hc) hs.1 hs.2.1

set_option maxHeartbeats 4000000 in
set_option maxRecDepth 100000 in
theorem some_bad (n m : Nat) (A : Option Addr) (c : Nat) (B : Option Addr) (d : Nat) (L : LG) (t item q : Int) (S : Nat → Prop) (w : World) (h : Aside0 (LV S n m A c B d L w)) (hq : Aside0 (-9223372036854775808 ≤ q ∧ q ≤ 9223372036854775807)) (L' : LG) (k er : Int) (hc : Hid (checkS n m t item q = er)) (he : (er == 0) = false) (hL : L = L') (hk : 0 = k) :
    Calls Try.prog 15 #[.agg #[.slice A n c, .slice B m d], .int .i64 t, .agg #[.int .i64 item, .int .i64 q]] w (Told S n m L' k er w) := by
  subst hL
  subst hk
  have he2 : (er != 0) = true := by simp [bne, he]
  go_enter Try.func15, Try.ntmps15
  go_upto_region 1 with (fail)
  have ga : GX w.heap.size (w.heap.size + 1) (w.heap.size + 1 + 1) (.slice A n c) (.slice B m d) item q w (((w.alloc (Obj.cells #[Value.slice A n c, Value.slice B m d] 25)).alloc (Obj.cells #[Value.int IntKind.i64 item, Value.int IntKind.i64 q] 27)).alloc (Obj.cells #[Value.slice none 0 0, Value.slice none 0 0] 25)) :=
    ⟨((((Below.refl _ _).alloc (Nat.le_refl _) _).alloc (by simp) _).alloc (by simp; omega) _), ⟨Nat.le_refl _, by omega, by omega, by simp⟩, by go_simp, by go_simp, by go_simp, by go_simp, ⟨.slice none 0 0, by go_simp⟩, ⟨.slice none 0 0, by go_simp⟩, fun i => by go_simp, fun i => by go_simp, fun i => by go_simp⟩
  have hga := Aside0.mk ga
  clear ga
  generalize (((w.alloc (Obj.cells #[Value.slice A n c, Value.slice B m d] 25)).alloc (Obj.cells #[Value.int IntKind.i64 item, Value.int IntKind.i64 q] 27)).alloc (Obj.cells #[Value.slice none 0 0, Value.slice none 0 0] 25)) = W3 at hga ⊢
  generalize hb1 : w.heap.size + 1 = b1 at hga ⊢
  generalize hb0 : w.heap.size = b0 at hga ⊢
  generalize b1 + 1 = b2 at hga ⊢
  clear hb0 hb1
  have k0 := hga.out.k0
  have k1 := hga.out.k1
  have k2 := hga.out.k2
  have k3 := hga.out.k3
  go_upto_region 2 with (first | (go_at_call 29; (with_reducible refine (check_is A B n c m d t item q er _ hq hc).mono ?_); rintro e wa ⟨rfl, ba⟩; have ga := Aside0.mk (hga.out.step ba); clear hga ba k0 k1 k2 k3))
  have k0 := ga.out.k0
  have k1 := ga.out.k1
  have k2 := ga.out.k2
  have k3 := ga.out.k3
  obtain ⟨v0, r0⟩ := ga.out.r0
  obtain ⟨v1, r1⟩ := ga.out.r1
  have f2 := ga.out.f2
  have f1 := ga.out.f1
  go_wp2
  have hbw := (ga.out.below.setCell (p := ⟨b2, 0, none⟩) (by have := ga.out.lo; show _ ≤ b2; omega) (.slice A n c)).setCell (p := ⟨b2, 1, none⟩) (by have := ga.out.lo; show _ ≤ b2; omega) (.slice B m d)
  have s0 : ((wa.setCell ⟨b2, 0, none⟩ (.slice A n c)).setCell ⟨b2, 1, none⟩ (.slice B m d)).cell? ⟨b2, 0, none⟩ = some (.slice A n c) := csi (i := 1) (j := 0) (by decide) (World.cell?_setCell_same _ _ _ r0)
  have s1 : ((wa.setCell ⟨b2, 0, none⟩ (.slice A n c)).setCell ⟨b2, 1, none⟩ (.slice B m d)).cell? ⟨b2, 1, none⟩ = some (.slice B m d) := World.cell?_setCell_same _ _ _ (csi (i := 0) (j := 1) (by decide) r1)
  generalize (wa.setCell ⟨b2, 0, none⟩ (.slice A n c)).setCell ⟨b2, 1, none⟩ (.slice B m d) = W8 at hbw s0 s1 ⊢
  refine bodyPost_ret (v := .tuple #[.agg #[.slice A n c, .slice B m d], .int .i64 0, .int .i64 er]) (by simp [results, Try.results15, go_sem, s0, s1]) rfl ⟨S, A, c, B, d, rfl, ?_, fun _ hj => .inl hj, ?_⟩
  · first | exact h.out.below hbw | exact h.out.below (below_drew1 hbw) | exact h.out.below (below_drew1 (below_drew1 hbw))
  · first | exact hbw | exact below_drew1 hbw | exact below_drew1 (below_drew1 hbw)

set_option maxHeartbeats 4000000 in
set_option maxRecDepth 100000 in
theorem some_ok (n m : Nat) (A : Option Addr) (c : Nat) (B : Option Addr) (d : Nat) (L : LG) (t item q : Int) (S : Nat → Prop) (w : World) (h : Aside0 (LV S n m A c B d L w)) (hq : Aside0 (-9223372036854775808 ≤ q ∧ q ≤ 9223372036854775807)) (L' : LG) (k er : Int) (hc : Hid (checkS n m t item q = 0)) (hk : max (min (rd L.hv item) q) 0 = k) (hL : mvS L t item k = L') (her : 0 = er) :
    Calls Try.prog 15 #[.agg #[.slice A n c, .slice B m d], .int .i64 t, .agg #[.int .i64 item, .int .i64 q]] w (Told S n m L' k er w) := by
  subst hL
  subst her
  obtain ⟨⟨t0, t1, i0, i1⟩, hK1, hK2⟩ := checkS_zero hc.out
  have TB := Aside0.mk (⟨t0, t1, i0, i1⟩ : 0 ≤ t ∧ t < m ∧ 0 ≤ item ∧ item < n)
  obtain ⟨ad, rfl, hbk, hx⟩ := h.out.at_ i0 i1
  obtain ⟨x0, hx0⟩ : ∃ x, x = rd L.hv item := ⟨_, rfl⟩
  rw [← hx0] at hx hk
  have HX := Aside0.mk (And.intro hbk hx)
  have HX0 := Aside0.mk hx0
  clear hK1 hK2 hbk hx hx0
  replace hk : Hid ((if (if q < x0 then q else x0) < 0 then 0 else if q < x0 then q else x0) = k) := by
    change _ = _
    rw [← hk]
    split <;> split <;> omega
  go_enter Try.func15, Try.ntmps15
  go_upto_region 1 with (fail)
  have ga : GX w.heap.size (w.heap.size + 1) (w.heap.size + 1 + 1) (.slice (some ad) n c) (.slice B m d) item q w (((w.alloc (Obj.cells #[Value.slice (some ad) n c, Value.slice B m d] 25)).alloc (Obj.cells #[Value.int IntKind.i64 item, Value.int IntKind.i64 q] 27)).alloc (Obj.cells #[Value.slice none 0 0, Value.slice none 0 0] 25)) :=
    ⟨((((Below.refl _ _).alloc (Nat.le_refl _) _).alloc (by simp) _).alloc (by simp; omega) _), ⟨Nat.le_refl _, by omega, by omega, by simp⟩, by go_simp, by go_simp, by go_simp, by go_simp, ⟨.slice none 0 0, by go_simp⟩, ⟨.slice none 0 0, by go_simp⟩, fun i => by go_simp, fun i => by go_simp, fun i => by go_simp⟩
  have hga := Aside0.mk ga
  clear ga
  generalize (((w.alloc (Obj.cells #[Value.slice (some ad) n c, Value.slice B m d] 25)).alloc (Obj.cells #[Value.int IntKind.i64 item, Value.int IntKind.i64 q] 27)).alloc (Obj.cells #[Value.slice none 0 0, Value.slice none 0 0] 25)) = W3 at hga ⊢
  generalize hb1 : w.heap.size + 1 = b1 at hga ⊢
  generalize hb0 : w.heap.size = b0 at hga ⊢
  generalize b1 + 1 = b2 at hga ⊢
  clear hb0 hb1
  have k0 := hga.out.k0
  have k1 := hga.out.k1
  have k2 := hga.out.k2
  have k3 := hga.out.k3
  go_upto_region 2 with (first | (go_at_call 29; (with_reducible refine (check_is (some ad) B n c m d t item q 0 _ hq hc).mono ?_); rintro e wa ⟨rfl, ba⟩; have ga := Aside0.mk (hga.out.step ba); clear hga ba k0 k1 k2 k3))
  have k0 := ga.out.k0
  have k1 := ga.out.k1
  have k2 := ga.out.k2
  have k3 := ga.out.k3
  obtain ⟨v0, r0⟩ := ga.out.r0
  obtain ⟨v1, r1⟩ := ga.out.r1
  have f2 := ga.out.f2
  have f1 := ga.out.f1
  have hx := (ga.out.below.cell (p := ad.add item.toNat) (by rw [blk_add]; exact HX.out.1)).trans HX.out.2
  go_upto_region 4 with (fail)
  clear k0 k1 k2 k3 r0 r1 f2 f1
  have gd := Aside0.mk (ga.out.step (below_drew1 (Below.refl wa.heap.size wa)))
  replace hx := ((below_drew1 (Below.refl wa.heap.size wa)).cell (p := ad.add item.toNat) (by rw [blk_add]; exact Nat.lt_of_lt_of_le HX.out.1 ga.out.below.size)).trans hx
  clear ga
  refine start_ (n := 12) (S := fun w' => w'.cell? ⟨b0, 0, none⟩ = some (.slice (some ad) n c) ∧ w'.cell? ⟨b1, 0, none⟩ = some (.int .i64 item) ∧ w'.cell? ⟨b1, 1, none⟩ = some (.int .i64 q) ∧ w'.cell? (ad.add item.toNat) = some (.int .i64 x0)) (ds := [11]) #[false, false, false, false, false, false, false, false, false, false, false, false] (by kernel_rfl) rfl rfl ⟨gd.out.k0, gd.out.k2, gd.out.k3, hx⟩ (fun hHeld => ?_)
  generalize wa.drew = V4 at gd hx hHeld ⊢
  refine pure_ (i := 0) (N := some 18) (v := ?_) (a' := ?_) #[true, false, false, false, false, false, false, false, false, false, false, false] rfl rfl (by kernel_rfl) (fun _ _ _ h => h) (Or.inl ⟨by rfl, ?_⟩) ?_ ?_
  rotate_left
  · intro w'
    go_simp
    with_reducible rfl
  rotate_left
  · simp only [Act.put, List.setIfInBounds_toArray, List.set_cons_zero, List.set_cons_succ, i64_w, i32_w]
    rfl
  refine pure_ (i := 2) (N := some 20) (v := ?_) (a' := ?_) #[true, false, true, false, false, false, false, false, false, false, false, false] rfl rfl (by kernel_rfl) (fun _ _ _ h => h) (Or.inl ⟨by rfl, ?_⟩) ?_ ?_
  rotate_left
  · intro w'
    go_simp
    with_reducible rfl
  rotate_left
  · simp only [Act.put, List.setIfInBounds_toArray, List.set_cons_zero, List.set_cons_succ, i64_w, i32_w]
    rfl
  refine pure_ (i := 6) (N := some 24) (v := ?_) (a' := ?_) #[true, false, true, false, false, false, true, false, false, false, false, false] rfl rfl (by kernel_rfl) (fun _ _ _ h => h) (Or.inl ⟨by rfl, ?_⟩) ?_ ?_
  rotate_left
  · intro w'
    go_simp
    with_reducible rfl
  rotate_left
  · simp only [Act.put, List.setIfInBounds_toArray, List.set_cons_zero, List.set_cons_succ, i64_w, i32_w]
    rfl
  refine take_ (i := 1) (N := some 19) (v := ?_) (a' := ?_) #[true, true, true, false, false, false, true, false, false, false, false, false] rfl rfl (by kernel_rfl) (fun _ _ _ h => h) (Or.inl ⟨by rfl, ?_⟩) hHeld ?_ ?_
  rotate_left
  · rintro w' ⟨s0, s1, s2, s3⟩
    go_simp
    with_reducible rfl
  rotate_left
  · simp only [Act.put, List.setIfInBounds_toArray, List.set_cons_zero, List.set_cons_succ, i64_w, i32_w]
    rfl
  refine take_ (i := 3) (N := some 21) (v := ?_) (a' := ?_) #[true, true, true, true, false, false, true, false, false, false, false, false] rfl rfl (by kernel_rfl) (fun _ _ _ h => h) (Or.inl ⟨by rfl, ?_⟩) hHeld ?_ ?_
  rotate_left
  · rintro w' ⟨s0, s1, s2, s3⟩
    go_simp
    with_reducible rfl
  rotate_left
  · simp only [Act.put, List.setIfInBounds_toArray, List.set_cons_zero, List.set_cons_succ, i64_w, i32_w]
    rfl
  refine pure_ (i := 4) (N := some 22) (v := ?_) (a' := ?_) #[true, true, true, true, true, false, true, false, false, false, false, false] rfl rfl (by kernel_rfl) (fun _ _ _ h => h) (Or.inl ⟨by rfl, ?_⟩) ?_ ?_
  rotate_left
  · intro w'
    go_simp
    with_reducible rfl
  rotate_left
  · simp only [Act.put, List.setIfInBounds_toArray, List.set_cons_zero, List.set_cons_succ, i64_w, i32_w]
    rfl
  refine take_ (i := 5) (N := some 23) (v := ?_) (a' := ?_) #[true, true, true, true, true, true, true, false, false, false, false, false] rfl rfl (by kernel_rfl) (fun _ _ _ h => h) (Or.inl ⟨by rfl, ?_⟩) hHeld ?_ ?_
  rotate_left
  · rintro w' ⟨s0, s1, s2, s3⟩
    go_simp
    with_reducible rfl
  rotate_left
  · simp only [Act.put, List.setIfInBounds_toArray, List.set_cons_zero, List.set_cons_succ, i64_w, i32_w]
    rfl
  refine take_ (i := 7) (N := some 25) (v := ?_) (a' := ?_) #[true, true, true, true, true, true, true, true, false, false, false, false] rfl rfl (by kernel_rfl) (fun _ _ _ h => h) (Or.inl ⟨by rfl, ?_⟩) hHeld ?_ ?_
  rotate_left
  · rintro w' ⟨s0, s1, s2, s3⟩
    go_simp
    with_reducible rfl
  rotate_left
  · simp only [Act.put, List.setIfInBounds_toArray, List.set_cons_zero, List.set_cons_succ, i64_w, i32_w]
    rfl
  refine pure_ (i := 8) (N := some 26) (v := ?_) (a' := ?_) #[true, true, true, true, true, true, true, true, true, false, false, false] rfl rfl (by kernel_rfl) (fun _ _ _ h => h) (Or.inl ⟨by rfl, ?_⟩) ?_ ?_
  rotate_left
  · intro w'
    go_simp
    with_reducible rfl
  rotate_left
  · simp only [Act.put, List.setIfInBounds_toArray, List.set_cons_zero, List.set_cons_succ, i64_w, i32_w]
    rfl
  refine pure_ (i := 9) (N := some 27) (v := ?_) (a' := ?_) #[true, true, true, true, true, true, true, true, true, true, false, false] rfl rfl (by kernel_rfl) (fun _ _ _ h => h) (Or.inl ⟨by rfl, ?_⟩) ?_ ?_
  rotate_left
  · intro w'
    go_simp
    with_reducible rfl
  rotate_left
  · simp only [Act.put, List.setIfInBounds_toArray, List.set_cons_zero, List.set_cons_succ, i64_w, i32_w]
    rfl
  refine pure_ (i := 10) (N := some 28) (v := ?_) (a' := ?_) #[true, true, true, true, true, true, true, true, true, true, true, false] rfl rfl (by kernel_rfl) (fun _ _ _ h => h) (Or.inl ⟨by rfl, ?_⟩) ?_ ?_
  rotate_left
  · intro w'
    go_simp
    with_reducible rfl
  rotate_left
  · simp only [Act.put, List.setIfInBounds_toArray, List.set_cons_zero, List.set_cons_succ, i64_w, i32_w]
    rfl
  refine last_ (i := 11) (N := none) #[true, true, true, true, true, true, true, true, true, true, true, true] rfl rfl (by kernel_rfl) (by decide) (fun K hK => ?_)
  have hf0 := gd.out.f1
  have hk0 := gd.out.k3
  refine skip_ (w1 := ?_) (by rfl) rfl ?_ ?_
  rotate_left
  · go_simp
    rfl
  refine hK.out _ _ ?_
  clear hK K
  refine done_ (by kernel_rfl) ?_
  clear hf0 hk0 hHeld hx
  rw [hk.out]
  generalize (if q < x0 then q else x0) = mn
  have gk := Aside0.mk (gd.out.k k)
  clear gd
  generalize V4.setCell ⟨b1, 1, none⟩ (.int .i64 k) = wq at gk ⊢
  go_upto_region 5 with (fail)
  have gd := Aside0.mk (gk.out.step (below_drew1 (Below.refl wq.heap.size wq)))
  have BW := Aside0.mk gd.out.below.size
  refine start_ (n := 9) (S := fun w' => w'.cell? ⟨b0, 0, none⟩ = some (.slice (some ad) n c) ∧ w'.cell? ⟨b0, 1, none⟩ = some (.slice B m d) ∧ w'.cell? ⟨b1, 0, none⟩ = some (.int .i64 item) ∧ w'.cell? ⟨b1, 1, none⟩ = some (.int .i64 k) ∧ GX b0 b1 b2 (.slice (some ad) n c) (.slice B m d) item k w w') (ds := []) #[false, false, false, false, false, false, false, false, false] (by kernel_rfl) rfl rfl ⟨gd.out.k0, gd.out.k1, gd.out.k2, gd.out.k3, gd.out⟩ (fun hHeld => ?_)
  refine pure_ (i := 1) (N := some 30) (v := ?_) (a' := ?_) #[false, true, false, false, false, false, false, false, false] rfl rfl (by kernel_rfl) (fun _ _ _ h => h) (Or.inl ⟨by rfl, ?_⟩) ?_ ?_
  rotate_left
  · intro w'
    go_simp
    with_reducible rfl
  rotate_left
  · simp only [Act.put, List.setIfInBounds_toArray, List.set_cons_zero, List.set_cons_succ, i64_w, i32_w]
    rfl
  refine pure_ (i := 4) (N := some 33) (v := ?_) (a' := ?_) #[false, true, false, false, true, false, false, false, false] rfl rfl (by kernel_rfl) (fun _ _ _ h => h) (Or.inl ⟨by rfl, ?_⟩) ?_ ?_
  rotate_left
  · intro w'
    go_simp
    with_reducible rfl
  rotate_left
  · simp only [Act.put, List.setIfInBounds_toArray, List.set_cons_zero, List.set_cons_succ, i64_w, i32_w]
    rfl
  refine take_ (i := 0) (N := some 29) (v := ?_) (a' := ?_) #[true, true, false, false, true, false, false, false, false] rfl rfl (by kernel_rfl) (fun _ _ _ h => h) (Or.inl ⟨by rfl, ?_⟩) hHeld ?_ ?_
  rotate_left
  · rintro w' ⟨s0, s1, s2, s3, s4⟩
    go_simp
    with_reducible rfl
  rotate_left
  · simp only [Act.put, List.setIfInBounds_toArray, List.set_cons_zero, List.set_cons_succ, i64_w, i32_w]
    rfl
  refine take_ (i := 2) (N := some 31) (v := ?_) (a' := ?_) #[true, true, true, false, true, false, false, false, false] rfl rfl (by kernel_rfl) (fun _ _ _ h => h) (Or.inl ⟨by rfl, ?_⟩) hHeld ?_ ?_
  rotate_left
  · rintro w' ⟨s0, s1, s2, s3, s4⟩
    go_simp
    with_reducible rfl
  rotate_left
  · simp only [Act.put, List.setIfInBounds_toArray, List.set_cons_zero, List.set_cons_succ, i64_w, i32_w]
    rfl
  refine take_ (i := 5) (N := some 34) (v := ?_) (a' := ?_) #[true, true, true, false, true, true, false, false, false] rfl rfl (by kernel_rfl) (fun _ _ _ h => h) (Or.inl ⟨by rfl, ?_⟩) hHeld ?_ ?_
  rotate_left
  · rintro w' ⟨s0, s1, s2, s3, s4⟩
    go_simp
    with_reducible rfl
  rotate_left
  · simp only [Act.put, List.setIfInBounds_toArray, List.set_cons_zero, List.set_cons_succ, i64_w, i32_w]
    rfl
  refine one_ (i := 3) (N := some 32) #[true, true, true, true, true, true, false, false, false] rfl rfl (by kernel_rfl) (by decide) (fun K hK => ?_)
  refine goes_ Try.func30 (by kernel_rfl) rfl #[.agg #[.slice (some ad) n c, .slice B m d], .int .i64 t, .agg #[.int .i64 item, .int .i64 k]] (by rfl) rfl rfl (by simp only [List.map_toArray, List.map_cons, List.map_nil]; rfl) ?_
  with_reducible refine (give_any n m (some ad) c B d L t item k S _ ⟨h.out.below hHeld.2.2.2.2.below⟩ TB).mono ?_
  rintro e wb ⟨S', A', c', B', d', rfl, hl, hS, bb⟩
  refine ⟨_, rfl, ?_⟩
  have gb := Aside0.mk (hHeld.2.2.2.2.step bb)
  have hl := Aside0.mk hl
  have hS := Aside0.mk hS
  have bz := Aside0.mk hHeld.2.2.2.2.lo
  clear hHeld bb
  refine hK.out _ _ ⟨gb.out.k0, gb.out.k1, gb.out.k2, gb.out.k3, gb.out⟩ (fun hHeld => ?_)
  clear hK K
  refine norm_ (a' := ?_) ?_ ?_
  rotate_left
  · show Act.put _ (some 32) _ = _
    simp only [Act.put, List.setIfInBounds_toArray, List.set_cons_zero, List.set_cons_succ, i64_w, i32_w]
    rfl
  refine one_ (i := 6) (N := none) #[true, true, true, true, true, true, true, false, false] rfl rfl (by kernel_rfl) (by decide) (fun K hK => ?_)
  have f2 := gb.out.f2
  obtain ⟨v0, r0⟩ := gb.out.r0
  obtain ⟨v1, r1⟩ := gb.out.r1
  refine skip_ (w1 := ?_) (by rfl) rfl ?_ ?_
  rotate_left
  · go_simp
    rfl
  have g7 := gb.out.res (.slice A' n c') (.slice B' m d')
  refine hK.out _ _ ⟨g7.k0, g7.k1, g7.k2, g7.k3, g7⟩ (fun hHeld => ?_)
  clear hK K
  refine pure_ (i := 7) (N := some 7) (v := ?_) (a' := ?_) #[true, true, true, true, true, true, true, true, false] rfl rfl (by kernel_rfl) (fun _ _ _ h => h) (Or.inl ⟨by rfl, ?_⟩) ?_ ?_
  rotate_left
  · intro w'
    go_simp
    with_reducible rfl
  rotate_left
  · simp only [Act.put, List.setIfInBounds_toArray, List.set_cons_zero, List.set_cons_succ, i64_w, i32_w]
    rfl
  refine pure_ (i := 8) (N := some 8) (v := ?_) (a' := ?_) #[true, true, true, true, true, true, true, true, true] rfl rfl (by kernel_rfl) (fun _ _ _ h => h) (Or.inl ⟨by rfl, ?_⟩) ?_ ?_
  rotate_left
  · intro w'
    go_simp
    with_reducible rfl
  rotate_left
  · simp only [Act.put, List.setIfInBounds_toArray, List.set_cons_zero, List.set_cons_succ, i64_w, i32_w]
    rfl
  refine done_ (by kernel_rfl) ?_
  go_wp2
  have hn2 : ¬ S' b2 := fun hj => by
    have hlo := bz.out
    rcases hS.out b2 hj with h1 | h1
    · have := h.out.sz b2 h1; omega
    · omega
  have hS2 : ∀ j, S' j → S j ∨ w.heap.size ≤ j := fun j hj => by
    have hlo := gb.out.lo
    have hb2 := BW.out
    rcases hS.out j hj with h1 | h1
    · exact .inl h1
    · exact .inr (by omega)
  have hbw := (gb.out.below.setCell (p := ⟨b2, 0, none⟩) (by have := gb.out.lo; show _ ≤ b2; omega) (.slice A' n c')).setCell (p := ⟨b2, 1, none⟩) (by have := gb.out.lo; show _ ≤ b2; omega) (.slice B' m d')
  have hlw := (hl.out.store (i := 0) hn2 (.slice A' n c')).store (i := 1) hn2 (.slice B' m d')
  have s0 : ((wb.setCell ⟨b2, 0, none⟩ (.slice A' n c')).setCell ⟨b2, 1, none⟩ (.slice B' m d')).cell? ⟨b2, 0, none⟩ = some (.slice A' n c') := csi (i := 1) (j := 0) (by decide) (World.cell?_setCell_same _ _ _ r0)
  have s1 : ((wb.setCell ⟨b2, 0, none⟩ (.slice A' n c')).setCell ⟨b2, 1, none⟩ (.slice B' m d')).cell? ⟨b2, 1, none⟩ = some (.slice B' m d') := World.cell?_setCell_same _ _ _ (csi (i := 0) (j := 1) (by decide) r1)
  generalize (wb.setCell ⟨b2, 0, none⟩ (.slice A' n c')).setCell ⟨b2, 1, none⟩ (.slice B' m d') = W8 at hbw hlw s0 s1 ⊢
  refine bodyPost_ret (v := .tuple #[.agg #[.slice A' n c', .slice B' m d'], .int .i64 k, .int .i64 0]) (by simp [results, Try.results15, go_sem, s0, s1]) rfl ⟨S', A', c', B', d', rfl, ?_, hS2, ?_⟩
  · first | exact hlw | exact hlw.below (below_drew1 (Below.refl _ _))
  · first | exact hbw | exact below_drew1 hbw

theorem some_is (n m : Nat) (A : Option Addr) (c : Nat) (B : Option Addr) (d : Nat) (L : LG) (t item q : Int) (S : Nat → Prop) (w : World) (h : Aside0 (LV S n m A c B d L w)) (hq : Aside0 (-9223372036854775808 ≤ q ∧ q ≤ 9223372036854775807)) (L' : LG) (k er : Int) (hs : someS n m L t item q = (L', k, er)) :
    Calls Try.prog 15 #[.agg #[.slice A n c, .slice B m d], .int .i64 t, .agg #[.int .i64 item, .int .i64 q]] w (Told S n m L' k er w) := by
  unfold someS at hs
  by_cases hc : checkS n m t item q = 0
  · rw [if_pos hc] at hs
    simp only [Prod.mk.injEq] at hs
    exact some_ok n m A c B d L t item q S w h hq L' k er hc hs.2.1 (by rw [← hs.2.1]; exact hs.1) hs.2.2
  · rw [if_neg hc] at hs
    simp only [Prod.mk.injEq] at hs
    exact some_bad n m A c B d L t item q S w h hq L' k er hs.2.2 (by rw [← hs.2.2]; simpa using hc) hs.1 hs.2.1

set_option maxHeartbeats 4000000 in
set_option maxRecDepth 100000 in
theorem release_bad (n m : Nat) (A : Option Addr) (c : Nat) (B : Option Addr) (d : Nat) (L : LG) (t item q : Int) (S : Nat → Prop) (w : World) (h : Aside0 (LV S n m A c B d L w)) (hq : Aside0 (-9223372036854775808 ≤ q ∧ q ≤ 9223372036854775807)) (L' : LG) (k er : Int) (hc : Hid (checkS n m t item q = er)) (he : (er == 0) = false) (hL : L = L') (hk : 0 = k) :
    Calls Try.prog 17 #[.agg #[.slice A n c, .slice B m d], .int .i64 t, .agg #[.int .i64 item, .int .i64 q]] w (Told S n m L' k er w) := by
  subst hL
  subst hk
  have he2 : (er != 0) = true := by simp [bne, he]
  go_enter Try.func17, Try.ntmps17
  go_upto_region 1 with (fail)
  have ga : GX w.heap.size (w.heap.size + 1) (w.heap.size + 1 + 1) (.slice A n c) (.slice B m d) item q w (((w.alloc (Obj.cells #[Value.slice A n c, Value.slice B m d] 25)).alloc (Obj.cells #[Value.int IntKind.i64 item, Value.int IntKind.i64 q] 27)).alloc (Obj.cells #[Value.slice none 0 0, Value.slice none 0 0] 25)) :=
    ⟨((((Below.refl _ _).alloc (Nat.le_refl _) _).alloc (by simp) _).alloc (by simp; omega) _), ⟨Nat.le_refl _, by omega, by omega, by simp⟩, by go_simp, by go_simp, by go_simp, by go_simp, ⟨.slice none 0 0, by go_simp⟩, ⟨.slice none 0 0, by go_simp⟩, fun i => by go_simp, fun i => by go_simp, fun i => by go_simp⟩
  have hga := Aside0.mk ga
  clear ga
  generalize (((w.alloc (Obj.cells #[Value.slice A n c, Value.slice B m d] 25)).alloc (Obj.cells #[Value.int IntKind.i64 item, Value.int IntKind.i64 q] 27)).alloc (Obj.cells #[Value.slice none 0 0, Value.slice none 0 0] 25)) = W3 at hga ⊢
  generalize hb1 : w.heap.size + 1 = b1 at hga ⊢
  generalize hb0 : w.heap.size = b0 at hga ⊢
  generalize b1 + 1 = b2 at hga ⊢
  clear hb0 hb1
  have k0 := hga.out.k0
  have k1 := hga.out.k1
  have k2 := hga.out.k2
  have k3 := hga.out.k3
  go_upto_region 2 with (first | (go_at_call 29; (with_reducible refine (check_is A B n c m d t item q er _ hq hc).mono ?_); rintro e wa ⟨rfl, ba⟩; have ga := Aside0.mk (hga.out.step ba); clear hga ba k0 k1 k2 k3))
  have k0 := ga.out.k0
  have k1 := ga.out.k1
  have k2 := ga.out.k2
  have k3 := ga.out.k3
  obtain ⟨v0, r0⟩ := ga.out.r0
  obtain ⟨v1, r1⟩ := ga.out.r1
  have f2 := ga.out.f2
  have f1 := ga.out.f1
  go_wp2
  have hbw := (ga.out.below.setCell (p := ⟨b2, 0, none⟩) (by have := ga.out.lo; show _ ≤ b2; omega) (.slice A n c)).setCell (p := ⟨b2, 1, none⟩) (by have := ga.out.lo; show _ ≤ b2; omega) (.slice B m d)
  have s0 : ((wa.setCell ⟨b2, 0, none⟩ (.slice A n c)).setCell ⟨b2, 1, none⟩ (.slice B m d)).cell? ⟨b2, 0, none⟩ = some (.slice A n c) := csi (i := 1) (j := 0) (by decide) (World.cell?_setCell_same _ _ _ r0)
  have s1 : ((wa.setCell ⟨b2, 0, none⟩ (.slice A n c)).setCell ⟨b2, 1, none⟩ (.slice B m d)).cell? ⟨b2, 1, none⟩ = some (.slice B m d) := World.cell?_setCell_same _ _ _ (csi (i := 0) (j := 1) (by decide) r1)
  generalize (wa.setCell ⟨b2, 0, none⟩ (.slice A n c)).setCell ⟨b2, 1, none⟩ (.slice B m d) = W8 at hbw s0 s1 ⊢
  refine bodyPost_ret (v := .tuple #[.agg #[.slice A n c, .slice B m d], .int .i64 0, .int .i64 er]) (by simp [results, Try.results17, go_sem, s0, s1]) rfl ⟨S, A, c, B, d, rfl, ?_, fun _ hj => .inl hj, ?_⟩
  · first | exact h.out.below hbw | exact h.out.below (below_drew1 hbw) | exact h.out.below (below_drew1 (below_drew1 hbw))
  · first | exact hbw | exact below_drew1 hbw | exact below_drew1 (below_drew1 hbw)

set_option maxHeartbeats 4000000 in
set_option maxRecDepth 100000 in
theorem release_few (n m : Nat) (A : Option Addr) (c : Nat) (B : Option Addr) (d : Nat) (L : LG) (t item q : Int) (S : Nat → Prop) (w : World) (h : Aside0 (LV S n m A c B d L w)) (hq : Aside0 (-9223372036854775808 ≤ q ∧ q ≤ 9223372036854775807)) (L' : LG) (k er : Int) (hc : Hid (checkS n m t item q = 0)) (hlt : decide (rd (row L.hd t) item < q) = true) (hL : L = L') (hk : 0 = k) (her : 200 = er) :
    Calls Try.prog 17 #[.agg #[.slice A n c, .slice B m d], .int .i64 t, .agg #[.int .i64 item, .int .i64 q]] w (Told S n m L' k er w) := by
  subst hL
  subst hk
  subst her
  obtain ⟨⟨t0, t1, i0, i1⟩, hK1, hK2⟩ := checkS_zero hc.out
  have TB := Aside0.mk (⟨t0, t1, i0, i1⟩ : 0 ≤ t ∧ t < m ∧ 0 ≤ item ∧ item < n)
  obtain ⟨bd, ad, cr, rfl, hbb, hbx, hbk, hx⟩ := h.out.row_ t0 t1 i0 i1
  obtain ⟨x0, hx0⟩ : ∃ x, x = rd (row L.hd t) item := ⟨_, rfl⟩
  rw [← hx0] at hx hlt
  have HX := Aside0.mk (And.intro (And.intro hbb hbx) (And.intro hbk hx))
  have HX0 := Aside0.mk hx0
  have HQ := Aside0.mk (show wrap64 (-q) = -q by unfold wrap64; omega)
  clear hK1 hK2 hbk hx hx0 hbb hbx
  go_enter Try.func17, Try.ntmps17
  go_upto_region 1 with (fail)
  have ga : GX w.heap.size (w.heap.size + 1) (w.heap.size + 1 + 1) (.slice A n c) (.slice (some bd) m d) item q w (((w.alloc (Obj.cells #[Value.slice A n c, Value.slice (some bd) m d] 25)).alloc (Obj.cells #[Value.int IntKind.i64 item, Value.int IntKind.i64 q] 27)).alloc (Obj.cells #[Value.slice none 0 0, Value.slice none 0 0] 25)) :=
    ⟨((((Below.refl _ _).alloc (Nat.le_refl _) _).alloc (by simp) _).alloc (by simp; omega) _), ⟨Nat.le_refl _, by omega, by omega, by simp⟩, by go_simp, by go_simp, by go_simp, by go_simp, ⟨.slice none 0 0, by go_simp⟩, ⟨.slice none 0 0, by go_simp⟩, fun i => by go_simp, fun i => by go_simp, fun i => by go_simp⟩
  have hga := Aside0.mk ga
  clear ga
  generalize (((w.alloc (Obj.cells #[Value.slice A n c, Value.slice (some bd) m d] 25)).alloc (Obj.cells #[Value.int IntKind.i64 item, Value.int IntKind.i64 q] 27)).alloc (Obj.cells #[Value.slice none 0 0, Value.slice none 0 0] 25)) = W3 at hga ⊢
  generalize hb1 : w.heap.size + 1 = b1 at hga ⊢
  generalize hb0 : w.heap.size = b0 at hga ⊢
  generalize b1 + 1 = b2 at hga ⊢
  clear hb0 hb1
  have k0 := hga.out.k0
  have k1 := hga.out.k1
  have k2 := hga.out.k2
  have k3 := hga.out.k3
  go_upto_region 2 with (first | (go_at_call 29; (with_reducible refine (check_is A (some bd) n c m d t item q 0 _ hq hc).mono ?_); rintro e wa ⟨rfl, ba⟩; have ga := Aside0.mk (hga.out.step ba); clear hga ba k0 k1 k2 k3))
  have k0 := ga.out.k0
  have k1 := ga.out.k1
  have k2 := ga.out.k2
  have k3 := ga.out.k3
  obtain ⟨v0, r0⟩ := ga.out.r0
  obtain ⟨v1, r1⟩ := ga.out.r1
  have f2 := ga.out.f2
  have f1 := ga.out.f1
  have hx := (ga.out.below.cell (p := ad.add item.toNat) (by rw [blk_add]; exact HX.out.2.1)).trans HX.out.2.2
  have hbx := (ga.out.below.cell (p := bd.add t.toNat) (by rw [blk_add]; exact HX.out.1.1)).trans HX.out.1.2
  go_upto_region 4 with (fail)
  go_quiet (fail)
  have gq := Aside0.mk (ga.out.step (pw_below_drewN (Below.refl wa.heap.size wa) nq))
  clear ga k0 k1 k2 k3 r0 r1 f2 f1
  generalize wa.drewN nq = wq at gq ⊢
  have k0 := gq.out.k0
  have k1 := gq.out.k1
  have k2 := gq.out.k2
  have k3 := gq.out.k3
  obtain ⟨v0, r0⟩ := gq.out.r0
  obtain ⟨v1, r1⟩ := gq.out.r1
  have f2 := gq.out.f2
  have f1 := gq.out.f1
  clear hx hbx
  go_wp2
  have hbw := (gq.out.below.setCell (p := ⟨b2, 0, none⟩) (by have := gq.out.lo; show _ ≤ b2; omega) (.slice A n c)).setCell (p := ⟨b2, 1, none⟩) (by have := gq.out.lo; show _ ≤ b2; omega) (.slice (some bd) m d)
  have s0 : ((wq.setCell ⟨b2, 0, none⟩ (.slice A n c)).setCell ⟨b2, 1, none⟩ (.slice (some bd) m d)).cell? ⟨b2, 0, none⟩ = some (.slice A n c) := csi (i := 1) (j := 0) (by decide) (World.cell?_setCell_same _ _ _ r0)
  have s1 : ((wq.setCell ⟨b2, 0, none⟩ (.slice A n c)).setCell ⟨b2, 1, none⟩ (.slice (some bd) m d)).cell? ⟨b2, 1, none⟩ = some (.slice (some bd) m d) := World.cell?_setCell_same _ _ _ (csi (i := 0) (j := 1) (by decide) r1)
  generalize (wq.setCell ⟨b2, 0, none⟩ (.slice A n c)).setCell ⟨b2, 1, none⟩ (.slice (some bd) m d) = W8 at hbw s0 s1 ⊢
  refine bodyPost_ret (v := .tuple #[.agg #[.slice A n c, .slice (some bd) m d], .int .i64 0, .int .i64 200]) (by simp [results, Try.results17, go_sem, s0, s1]) rfl ⟨S, A, c, some bd, d, rfl, ?_, fun _ hj => .inl hj, ?_⟩
  · first | exact h.out.below hbw | exact h.out.below (below_drew1 hbw) | exact h.out.below (below_drew1 (below_drew1 hbw))
  · first | exact hbw | exact below_drew1 hbw | exact below_drew1 (below_drew1 hbw)

set_option maxHeartbeats 4000000 in
set_option maxRecDepth 100000 in
theorem release_ok (n m : Nat) (A : Option Addr) (c : Nat) (B : Option Addr) (d : Nat) (L : LG) (t item q : Int) (S : Nat → Prop) (w : World) (h : Aside0 (LV S n m A c B d L w)) (hq : Aside0 (-9223372036854775808 ≤ q ∧ q ≤ 9223372036854775807)) (L' : LG) (k er : Int) (hc : Hid (checkS n m t item q = 0)) (hlt : decide (rd (row L.hd t) item < q) = false) (hL : mvS L t item (-q) = L') (hk : q = k) (her : 0 = er) :
    Calls Try.prog 17 #[.agg #[.slice A n c, .slice B m d], .int .i64 t, .agg #[.int .i64 item, .int .i64 q]] w (Told S n m L' k er w) := by
  subst hL
  subst hk
  subst her
  obtain ⟨⟨t0, t1, i0, i1⟩, hK1, hK2⟩ := checkS_zero hc.out
  have TB := Aside0.mk (⟨t0, t1, i0, i1⟩ : 0 ≤ t ∧ t < m ∧ 0 ≤ item ∧ item < n)
  obtain ⟨bd, ad, cr, rfl, hbb, hbx, hbk, hx⟩ := h.out.row_ t0 t1 i0 i1
  obtain ⟨x0, hx0⟩ : ∃ x, x = rd (row L.hd t) item := ⟨_, rfl⟩
  rw [← hx0] at hx hlt
  have HX := Aside0.mk (And.intro (And.intro hbb hbx) (And.intro hbk hx))
  have HX0 := Aside0.mk hx0
  have HQ := Aside0.mk (show wrap64 (-q) = -q by unfold wrap64; omega)
  clear hK1 hK2 hbk hx hx0 hbb hbx
  go_enter Try.func17, Try.ntmps17
  go_upto_region 1 with (fail)
  have ga : GX w.heap.size (w.heap.size + 1) (w.heap.size + 1 + 1) (.slice A n c) (.slice (some bd) m d) item q w (((w.alloc (Obj.cells #[Value.slice A n c, Value.slice (some bd) m d] 25)).alloc (Obj.cells #[Value.int IntKind.i64 item, Value.int IntKind.i64 q] 27)).alloc (Obj.cells #[Value.slice none 0 0, Value.slice none 0 0] 25)) :=
    ⟨((((Below.refl _ _).alloc (Nat.le_refl _) _).alloc (by simp) _).alloc (by simp; omega) _), ⟨Nat.le_refl _, by omega, by omega, by simp⟩, by go_simp, by go_simp, by go_simp, by go_simp, ⟨.slice none 0 0, by go_simp⟩, ⟨.slice none 0 0, by go_simp⟩, fun i => by go_simp, fun i => by go_simp, fun i => by go_simp⟩
  have hga := Aside0.mk ga
  clear ga
  generalize (((w.alloc (Obj.cells #[Value.slice A n c, Value.slice (some bd) m d] 25)).alloc (Obj.cells #[Value.int IntKind.i64 item, Value.int IntKind.i64 q] 27)).alloc (Obj.cells #[Value.slice none 0 0, Value.slice none 0 0] 25)) = W3 at hga ⊢
  generalize hb1 : w.heap.size + 1 = b1 at hga ⊢
  generalize hb0 : w.heap.size = b0 at hga ⊢
  generalize b1 + 1 = b2 at hga ⊢
  clear hb0 hb1
  have k0 := hga.out.k0
  have k1 := hga.out.k1
  have k2 := hga.out.k2
  have k3 := hga.out.k3
  go_upto_region 2 with (first | (go_at_call 29; (with_reducible refine (check_is A (some bd) n c m d t item q 0 _ hq hc).mono ?_); rintro e wa ⟨rfl, ba⟩; have ga := Aside0.mk (hga.out.step ba); clear hga ba k0 k1 k2 k3))
  have k0 := ga.out.k0
  have k1 := ga.out.k1
  have k2 := ga.out.k2
  have k3 := ga.out.k3
  obtain ⟨v0, r0⟩ := ga.out.r0
  obtain ⟨v1, r1⟩ := ga.out.r1
  have f2 := ga.out.f2
  have f1 := ga.out.f1
  have hx := (ga.out.below.cell (p := ad.add item.toNat) (by rw [blk_add]; exact HX.out.2.1)).trans HX.out.2.2
  have hbx := (ga.out.below.cell (p := bd.add t.toNat) (by rw [blk_add]; exact HX.out.1.1)).trans HX.out.1.2
  go_upto_region 4 with (fail)
  go_quiet (fail)
  have gq := Aside0.mk (ga.out.step (pw_below_drewN (Below.refl wa.heap.size wa) nq))
  clear ga k0 k1 k2 k3 r0 r1 f2 f1
  generalize wa.drewN nq = wq at gq ⊢
  have k0 := gq.out.k0
  have k1 := gq.out.k1
  have k2 := gq.out.k2
  have k3 := gq.out.k3
  obtain ⟨v0, r0⟩ := gq.out.r0
  obtain ⟨v1, r1⟩ := gq.out.r1
  have f2 := gq.out.f2
  have f1 := gq.out.f1
  clear hx hbx
  go_upto_region 6 with (fail)
  clear k0 k1 k2 k3 r0 r1 f2 f1
  have gd := Aside0.mk (gq.out.step (below_drew1 (Below.refl wq.heap.size wq)))
  have BW := Aside0.mk gd.out.below.size
  refine start_ (n := 15) (S := fun w' => w'.cell? ⟨b0, 0, none⟩ = some (.slice A n c) ∧ w'.cell? ⟨b0, 1, none⟩ = some (.slice (some bd) m d) ∧ w'.cell? ⟨b1, 0, none⟩ = some (.int .i64 item) ∧ w'.cell? ⟨b1, 1, none⟩ = some (.int .i64 q) ∧ GX b0 b1 b2 (.slice A n c) (.slice (some bd) m d) item q w w') (ds := []) #[false, false, false, false, false, false, false, false, false, false, false, false, false, false, false] (by kernel_rfl) rfl rfl ⟨gd.out.k0, gd.out.k1, gd.out.k2, gd.out.k3, gd.out⟩ (fun hHeld => ?_)
  refine pure_ (i := 1) (N := some 34) (v := ?_) (a' := ?_) #[false, true, false, false, false, false, false, false, false, false, false, false, false, false, false] rfl rfl (by kernel_rfl) (fun _ _ _ h => h) (Or.inl ⟨by rfl, ?_⟩) ?_ ?_
  rotate_left
  · intro w'
    go_simp
    with_reducible rfl
  rotate_left
  · simp only [Act.put, List.setIfInBounds_toArray, List.set_cons_zero, List.set_cons_succ, i64_w, i32_w]
    rfl
  refine pure_ (i := 2) (N := some 35) (v := ?_) (a' := ?_) #[false, true, true, false, false, false, false, false, false, false, false, false, false, false, false] rfl rfl (by kernel_rfl) (fun _ _ _ h => h) (Or.inl ⟨by rfl, ?_⟩) ?_ ?_
  rotate_left
  · intro w'
    go_simp
    with_reducible rfl
  rotate_left
  · simp only [Act.put, List.setIfInBounds_toArray, List.set_cons_zero, List.set_cons_succ, i64_w, i32_w]
    rfl
  refine pure_ (i := 4) (N := some 37) (v := ?_) (a' := ?_) #[false, true, true, false, true, false, false, false, false, false, false, false, false, false, false] rfl rfl (by kernel_rfl) (fun _ _ _ h => h) (Or.inl ⟨by rfl, ?_⟩) ?_ ?_
  rotate_left
  · intro w'
    go_simp
    with_reducible rfl
  rotate_left
  · simp only [Act.put, List.setIfInBounds_toArray, List.set_cons_zero, List.set_cons_succ, i64_w, i32_w]
    rfl
  refine pure_ (i := 9) (N := some 42) (v := ?_) (a' := ?_) #[false, true, true, false, true, false, false, false, false, true, false, false, false, false, false] rfl rfl (by kernel_rfl) (fun _ _ _ h => h) (Or.inl ⟨by rfl, ?_⟩) ?_ ?_
  rotate_left
  · intro w'
    go_simp
    with_reducible rfl
  rotate_left
  · simp only [Act.put, List.setIfInBounds_toArray, List.set_cons_zero, List.set_cons_succ, i64_w, i32_w]
    rfl
  refine pure_ (i := 11) (N := some 44) (v := ?_) (a' := ?_) #[false, true, true, false, true, false, false, false, false, true, false, true, false, false, false] rfl rfl (by kernel_rfl) (fun _ _ _ h => h) (Or.inl ⟨by rfl, ?_⟩) ?_ ?_
  rotate_left
  · intro w'
    go_simp
    with_reducible rfl
  rotate_left
  · simp only [Act.put, List.setIfInBounds_toArray, List.set_cons_zero, List.set_cons_succ, i64_w, i32_w]
    rfl
  refine take_ (i := 0) (N := some 33) (v := ?_) (a' := ?_) #[true, true, true, false, true, false, false, false, false, true, false, true, false, false, false] rfl rfl (by kernel_rfl) (fun _ _ _ h => h) (Or.inl ⟨by rfl, ?_⟩) hHeld ?_ ?_
  rotate_left
  · rintro w' ⟨s0, s1, s2, s3, s4⟩
    go_simp
    with_reducible rfl
  rotate_left
  · simp only [Act.put, List.setIfInBounds_toArray, List.set_cons_zero, List.set_cons_succ, i64_w, i32_w]
    rfl
  refine take_ (i := 3) (N := some 36) (v := ?_) (a' := ?_) #[true, true, true, true, true, false, false, false, false, true, false, true, false, false, false] rfl rfl (by kernel_rfl) (fun _ _ _ h => h) (Or.inl ⟨by rfl, ?_⟩) hHeld ?_ ?_
  rotate_left
  · rintro w' ⟨s0, s1, s2, s3, s4⟩
    go_simp
    with_reducible rfl
  rotate_left
  · simp only [Act.put, List.setIfInBounds_toArray, List.set_cons_zero, List.set_cons_succ, i64_w, i32_w]
    rfl
  refine take_ (i := 5) (N := some 38) (v := ?_) (a' := ?_) #[true, true, true, true, true, true, false, false, false, true, false, true, false, false, false] rfl rfl (by kernel_rfl) (fun _ _ _ h => h) (Or.inl ⟨by rfl, ?_⟩) hHeld ?_ ?_
  rotate_left
  · rintro w' ⟨s0, s1, s2, s3, s4⟩
    go_simp
    with_reducible rfl
  rotate_left
  · simp only [Act.put, List.setIfInBounds_toArray, List.set_cons_zero, List.set_cons_succ, i64_w, i32_w]
    rfl
  refine pure_ (i := 6) (N := some 39) (v := ?_) (a' := ?_) #[true, true, true, true, true, true, true, false, false, true, false, true, false, false, false] rfl rfl (by kernel_rfl) (fun _ _ _ h => h) (Or.inl ⟨by rfl, ?_⟩) ?_ ?_
  rotate_left
  · intro w'
    go_simp
    with_reducible rfl
  rotate_left
  · simp only [Act.put, List.setIfInBounds_toArray, List.set_cons_zero, List.set_cons_succ, i64_w, i32_w]
    rfl
  refine pure_ (i := 7) (N := some 40) (v := ?_) (a' := ?_) #[true, true, true, true, true, true, true, true, false, true, false, true, false, false, false] rfl rfl (by kernel_rfl) (fun _ _ _ h => h) (Or.inl ⟨by rfl, ?_⟩) ?_ ?_
  rotate_left
  · intro w'
    go_simp
    with_reducible rfl
  rotate_left
  · simp only [Act.put, List.setIfInBounds_toArray, List.set_cons_zero, List.set_cons_succ, i64_w, i32_w]
    rfl
  refine take_ (i := 10) (N := some 43) (v := ?_) (a' := ?_) #[true, true, true, true, true, true, true, true, false, true, true, true, false, false, false] rfl rfl (by kernel_rfl) (fun _ _ _ h => h) (Or.inl ⟨by rfl, ?_⟩) hHeld ?_ ?_
  rotate_left
  · rintro w' ⟨s0, s1, s2, s3, s4⟩
    go_simp
    with_reducible rfl
  rotate_left
  · simp only [Act.put, List.setIfInBounds_toArray, List.set_cons_zero, List.set_cons_succ, i64_w, i32_w]
    rfl
  refine one_ (i := 8) (N := some 41) #[true, true, true, true, true, true, true, true, true, true, true, true, false, false, false] rfl rfl (by kernel_rfl) (by decide) (fun K hK => ?_)
  rw [HQ.out]
  refine goes_ Try.func30 (by kernel_rfl) rfl #[.agg #[.slice A n c, .slice (some bd) m d], .int .i64 t, .agg #[.int .i64 item, .int .i64 (-q)]] (by rfl) rfl rfl (by simp only [List.map_toArray, List.map_cons, List.map_nil]; rfl) ?_
  with_reducible refine (give_any n m A c (some bd) d L t item (-q) S _ ⟨h.out.below hHeld.2.2.2.2.below⟩ TB).mono ?_
  rintro e wb ⟨S', A', c', B', d', rfl, hl, hS, bb⟩
  refine ⟨_, rfl, ?_⟩
  have gb := Aside0.mk (hHeld.2.2.2.2.step bb)
  have hl := Aside0.mk hl
  have hS := Aside0.mk hS
  have bz := Aside0.mk hHeld.2.2.2.2.lo
  clear hHeld bb
  refine hK.out _ _ ⟨gb.out.k0, gb.out.k1, gb.out.k2, gb.out.k3, gb.out⟩ (fun hHeld => ?_)
  clear hK K
  refine norm_ (a' := ?_) ?_ ?_
  rotate_left
  · show Act.put _ (some 41) _ = _
    simp only [Act.put, List.setIfInBounds_toArray, List.set_cons_zero, List.set_cons_succ, i64_w, i32_w]
    rfl
  refine one_ (i := 12) (N := none) #[true, true, true, true, true, true, true, true, true, true, true, true, true, false, false] rfl rfl (by kernel_rfl) (by decide) (fun K hK => ?_)
  have f2 := gb.out.f2
  obtain ⟨v0, r0⟩ := gb.out.r0
  obtain ⟨v1, r1⟩ := gb.out.r1
  refine skip_ (w1 := ?_) (by rfl) rfl ?_ ?_
  rotate_left
  · go_simp
    rfl
  have g7 := gb.out.res (.slice A' n c') (.slice B' m d')
  refine hK.out _ _ ⟨g7.k0, g7.k1, g7.k2, g7.k3, g7⟩ (fun hHeld => ?_)
  clear hK K
  refine pure_ (i := 13) (N := some 7) (v := ?_) (a' := ?_) #[true, true, true, true, true, true, true, true, true, true, true, true, true, true, false] rfl rfl (by kernel_rfl) (fun _ _ _ h => h) (Or.inl ⟨by rfl, ?_⟩) ?_ ?_
  rotate_left
  · intro w'
    go_simp
    with_reducible rfl
  rotate_left
  · simp only [Act.put, List.setIfInBounds_toArray, List.set_cons_zero, List.set_cons_succ, i64_w, i32_w]
    rfl
  refine pure_ (i := 14) (N := some 8) (v := ?_) (a' := ?_) #[true, true, true, true, true, true, true, true, true, true, true, true, true, true, true] rfl rfl (by kernel_rfl) (fun _ _ _ h => h) (Or.inl ⟨by rfl, ?_⟩) ?_ ?_
  rotate_left
  · intro w'
    go_simp
    with_reducible rfl
  rotate_left
  · simp only [Act.put, List.setIfInBounds_toArray, List.set_cons_zero, List.set_cons_succ, i64_w, i32_w]
    rfl
  refine done_ (by kernel_rfl) ?_
  go_wp2
  have hn2 : ¬ S' b2 := fun hj => by
    have hlo := bz.out
    rcases hS.out b2 hj with h1 | h1
    · have := h.out.sz b2 h1; omega
    · omega
  have hS2 : ∀ j, S' j → S j ∨ w.heap.size ≤ j := fun j hj => by
    have hlo := gb.out.lo
    have hb2 := BW.out
    rcases hS.out j hj with h1 | h1
    · exact .inl h1
    · exact .inr (by omega)
  have hbw := (gb.out.below.setCell (p := ⟨b2, 0, none⟩) (by have := gb.out.lo; show _ ≤ b2; omega) (.slice A' n c')).setCell (p := ⟨b2, 1, none⟩) (by have := gb.out.lo; show _ ≤ b2; omega) (.slice B' m d')
  have hlw := (hl.out.store (i := 0) hn2 (.slice A' n c')).store (i := 1) hn2 (.slice B' m d')
  have s0 : ((wb.setCell ⟨b2, 0, none⟩ (.slice A' n c')).setCell ⟨b2, 1, none⟩ (.slice B' m d')).cell? ⟨b2, 0, none⟩ = some (.slice A' n c') := csi (i := 1) (j := 0) (by decide) (World.cell?_setCell_same _ _ _ r0)
  have s1 : ((wb.setCell ⟨b2, 0, none⟩ (.slice A' n c')).setCell ⟨b2, 1, none⟩ (.slice B' m d')).cell? ⟨b2, 1, none⟩ = some (.slice B' m d') := World.cell?_setCell_same _ _ _ (csi (i := 0) (j := 1) (by decide) r1)
  generalize (wb.setCell ⟨b2, 0, none⟩ (.slice A' n c')).setCell ⟨b2, 1, none⟩ (.slice B' m d') = W8 at hbw hlw s0 s1 ⊢
  refine bodyPost_ret (v := .tuple #[.agg #[.slice A' n c', .slice B' m d'], .int .i64 q, .int .i64 0]) (by simp [results, Try.results17, go_sem, s0, s1]) rfl ⟨S', A', c', B', d', rfl, ?_, hS2, ?_⟩
  · first | exact hlw | exact hlw.below (below_drew1 (Below.refl _ _))
  · first | exact hbw | exact below_drew1 hbw

theorem release_is (n m : Nat) (A : Option Addr) (c : Nat) (B : Option Addr) (d : Nat) (L : LG) (t item q : Int) (S : Nat → Prop) (w : World) (h : Aside0 (LV S n m A c B d L w)) (hq : Aside0 (-9223372036854775808 ≤ q ∧ q ≤ 9223372036854775807)) (L' : LG) (k er : Int) (hs : relS n m L t item q = (L', k, er)) :
    Calls Try.prog 17 #[.agg #[.slice A n c, .slice B m d], .int .i64 t, .agg #[.int .i64 item, .int .i64 q]] w (Told S n m L' k er w) := by
  unfold relS at hs
  by_cases hc : checkS n m t item q = 0
  · rw [if_pos hc] at hs
    by_cases hlt : rd (row L.hd t) item < q
    · rw [if_pos hlt] at hs
      simp only [Prod.mk.injEq] at hs
      exact release_few n m A c B d L t item q S w h hq L' k er hc (decide_eq_true hlt) hs.1 hs.2.1 hs.2.2
    · rw [if_neg hlt] at hs
      simp only [Prod.mk.injEq] at hs
      exact release_ok n m A c B d L t item q S w h hq L' k er hc (decide_eq_false hlt) hs.1 hs.2.1 hs.2.2
  · rw [if_neg hc] at hs
    simp only [Prod.mk.injEq] at hs
    exact release_bad n m A c B d L t item q S w h hq L' k er hs.2.2 (by rw [← hs.2.2]; simpa using hc) hs.1 hs.2.1

end Go.Proofs.Ytlgoincnopfnjaa.Led
