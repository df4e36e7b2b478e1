/- From a new ledger on, whatever is asked, nothing is ever below nought, and all that is held and there is what there was, and what was restocked. -/
import Derived.Test.YtlgoincnopfnjaaLedR
import Derived.Test.YtlgoincnopfnjaaLedO2
namespace Go.Proofs.Ytlgoincnopfnjaa.Led
open Go Go.RowKit Go.Proofs.YtlgoincnopfnjaaW.PrintWords Go.Proofs.YtlgoincnopfnjaaW.PrintMore Go.Proofs.YtlgoincnopfnjaaW.PrintLast
set_option linter.unusedSimpArgs false
set_option linter.unusedVariables false
attribute [local go_sem] max2_int min2_int max_two min_two eqA27
/-- What a maker of ledgers tells. -/
def Mk (F n1 m1 : Nat) (x y z : Int) (L : LG) : Prop := ∀ w : World, Calls Try.prog F #[.int .i64 x, .int .i64 y, .int .i64 z] w fun e w' => ∃ (S' : Nat → Prop) (A' : Option Addr) (c' : Nat) (B' : Option Addr) (d' : Nat), e = .returned (.agg #[.slice A' n1 c', .slice B' m1 d']) ∧ LV S' n1 m1 A' c' B' d' L w' ∧ (∀ j, S' j → w.heap.size ≤ j) ∧ Below w.heap.size w w'
theorem Mk.at {F n1 m1 : Nat} {x y z : Int} {L : LG} (h : Mk F n1 m1 x y z L) (w : World) : Calls Try.prog F #[.int .i64 x, .int .i64 y, .int .i64 z] w fun e w' => ∃ (S' : Nat → Prop) (A' : Option Addr) (c' : Nat) (B' : Option Addr) (d' : Nat), e = .returned (.agg #[.slice A' n1 c', .slice B' m1 d']) ∧ LV S' n1 m1 A' c' B' d' L w' ∧ (∀ j, S' j → w.heap.size ≤ j) ∧ Below w.heap.size w w' := h w
theorem RW.pair (W : World) (z0 z1 : Value) (e : TypeId) : RW W.heap.size 2 (fun k => if k = 0 then z0 else z1) (W.alloc (.cells #[z0, z1] e)) := by
  refine ⟨by simp, fun i hi => ?_, fun i => ?_⟩
  · unfold World.cell?
    rw [heap_alloc_new]
    match i, hi with
    | 0, _ => rfl
    | 1, _ => rfl
  · unfold World.frozen?
    rw [heap_alloc_new]
    simp
/-- The ledger x, and more, behind so many wants. -/
structure Nx (n m bx bm : Nat) (hv : Int) (i : Nat) (L : LG) (T : Int → Int) (S : Nat → Prop) (A : Option Addr) (c : Nat) (B : Option Addr) (d : Nat) (w W : World) : Prop where
  b : Below w.heap.size w W
  nv : Nv n m L T
  tb : ∀ j : Int, 0 ≤ j → j < n → T j ≤ 65535 + 1048576 * (i : Int)
  x : RW bx 2 (fun k => if k = 0 then .slice A n c else .slice B m d) W
  lv : LV S n m A c B d L W
  sn : ¬ S bx ∧ ¬ S bm
  mo : RW bm n (fun j => .int .i64 (T (j : Int) - hv)) W
  ne : w.heap.size ≤ bx ∧ w.heap.size ≤ bm ∧ bx ≠ bm
theorem Nx.step {n m bx bm : Nat} {hv : Int} {i : Nat} {L : LG} {T : Int → Int} {S : Nat → Prop} {A : Option Addr} {c : Nat} {B : Option Addr} {d : Nat} {w W W2 : World} (h : Nx n m bx bm hv i L T S A c B d w W) (hb : Below W.heap.size W W2) : Nx n m bx bm hv i L T S A c B d w W2 :=
  ⟨below_step h.b hb, h.nv, h.tb, h.x.step hb, h.lv.below hb, h.sn, h.mo.step hb, h.ne⟩
theorem Nx.k0 {n m bx bm : Nat} {hv : Int} {i : Nat} {L : LG} {T : Int → Int} {S : Nat → Prop} {A : Option Addr} {c : Nat} {B : Option Addr} {d : Nat} {w W : World} (h : Nx n m bx bm hv i L T S A c B d w W) : W.cell? ⟨bx, 0, none⟩ = some (.slice A n c) := h.x.e 0 (by decide)
theorem Nx.k1 {n m bx bm : Nat} {hv : Int} {i : Nat} {L : LG} {T : Int → Int} {S : Nat → Prop} {A : Option Addr} {c : Nat} {B : Option Addr} {d : Nat} {w W : World} (h : Nx n m bx bm hv i L T S A c B d w W) : W.cell? ⟨bx, 1, none⟩ = some (.slice B m d) := h.x.e 1 (by decide)
theorem nx_hv {n m bx bm : Nat} {hv : Int} {i : Nat} {L : LG} {T : Int → Int} {S : Nat → Prop} {ad : Addr} {c : Nat} {B : Option Addr} {d : Nat} {w W : World} (h : Nx n m bx bm hv i L T S (some ad) c B d w W) {j : Nat} (hj : j < n) : W.cell? (ad.add j) = some (.int .i64 (rd L.hv (j : Int))) := by
  obtain ⟨ad', e, _, h2⟩ := h.lv.at_ (i := (j : Int)) (by omega) (by omega)
  cases e
  rwa [Int.toNat_natCast] at h2
/-- x turned into another ledger of the same totals. -/
theorem Nx.put {n m bx bm : Nat} {hv : Int} {i : Nat} {L L2 : LG} {T : Int → Int} {S S2 : Nat → Prop} {A A2 : Option Addr} {c c2 : Nat} {B B2 : Option Addr} {d d2 : Nat} {w W : World} (h : Nx n m bx bm hv i L T S A c B d w W) (hn : Nv n m L2 T) (hl : LV S2 n m A2 c2 B2 d2 L2 W) (hs : ¬ S2 bx ∧ ¬ S2 bm) :
    Nx n m bx bm hv (i + 1) L2 T S2 A2 c2 B2 d2 w ((W.setCell ⟨bx, 0, none⟩ (.slice A2 n c2)).setCell ⟨bx, 1, none⟩ (.slice B2 m d2)) := by
  obtain ⟨n1, n2, n3⟩ := h.ne
  have h2 := (h.x.put (j := 0) (by decide) (.slice A2 n c2)).put (j := 1) (by decide) (.slice B2 m d2)
  refine ⟨(h.b.setCell (p := ⟨bx, 0, none⟩) n1 _).setCell (p := ⟨bx, 1, none⟩) n1 _, hn, fun j j0 j1 => by have := h.tb j j0 j1; omega, ⟨h2.lt, fun k hk => (h2.e k hk).trans ?_, h2.z⟩, (hl.store (i := 0) hs.1 _).store (i := 1) hs.1 _, hs, (h.mo.far n3 _).far n3 _, h.ne⟩
  match k, hk with
  | 0, _ => rfl
  | 1, _ => rfl
theorem rs_no {n : Nat} {L L2 : LG} {i q e : Int} (h : rsS n L i q = (L2, e)) (he : e ≠ 0) : L2 = L := by
  unfold rsS at h
  split at h
  · split at h
    · cases h; exact absurd rfl he
    · cases h; rfl
  · cases h; rfl
theorem rs_yes {n : Nat} {L L2 : LG} {i q e : Int} (h : rsS n L i q = (L2, e)) (he : e = 0) : 0 ≤ i ∧ i < n ∧ 1 ≤ q ∧ q ≤ 1048576 ∧ L2 = stS L i q := by
  unfold rsS at h
  split at h
  · rename_i h1
    split at h
    · rename_i h2
      cases h; exact ⟨h1.1, h1.2, h2.1, h2.2, rfl⟩
    · cases h; cases he
  · cases h; cases he
/-- x turned into another ledger, more into other numbers. -/
theorem Nx.mk2 {n m bx bm : Nat} {hv : Int} {i : Nat} {L2 : LG} {T2 : Int → Int} {S2 : Nat → Prop} {A2 : Option Addr} {c2 : Nat} {B2 : Option Addr} {d2 : Nat} {w W : World} {X : Nat → Value} (hb : Below w.heap.size w W) (ne : w.heap.size ≤ bx ∧ w.heap.size ≤ bm ∧ bx ≠ bm) (hx : RW bx 2 X W) (hm : RW bm n (fun j => .int .i64 (T2 (j : Int) - hv)) W) (hn : Nv n m L2 T2) (ht : ∀ j : Int, 0 ≤ j → j < n → T2 j ≤ 65535 + 1048576 * ((i + 1 : Nat) : Int)) (hl : LV S2 n m A2 c2 B2 d2 L2 W) (hs : ¬ S2 bx ∧ ¬ S2 bm) :
    Nx n m bx bm hv (i + 1) L2 T2 S2 A2 c2 B2 d2 w ((W.setCell ⟨bx, 0, none⟩ (.slice A2 n c2)).setCell ⟨bx, 1, none⟩ (.slice B2 m d2)) := by
  obtain ⟨n1, n2, n3⟩ := ne
  have h2 := (hx.put (j := 0) (by decide) (.slice A2 n c2)).put (j := 1) (by decide) (.slice B2 m d2)
  refine ⟨(hb.setCell (p := ⟨bx, 0, none⟩) n1 _).setCell (p := ⟨bx, 1, none⟩) n1 _, hn, ht, ⟨h2.lt, fun k hk => (h2.e k hk).trans ?_, h2.z⟩, (hl.store (i := 0) hs.1 _).store (i := 1) hs.1 _, hs, (hm.far n3 _).far n3 _, ⟨n1, n2, n3⟩⟩
  match k, hk with
  | 0, _ => rfl
  | 1, _ => rfl
/-- What Restock has told, ahead of x = y. -/
structure Ny (n m bx bm bq : Nat) (hv : Int) (T : Int → Int) (L2 : LG) (S2 : Nat → Prop) (A2 : Option Addr) (c2 : Nat) (B2 : Option Addr) (d2 : Nat) (w W : World) : Prop where
  b : Below w.heap.size w W
  x : ∃ X, RW bx 2 X W
  mo : RW bm n (fun j => .int .i64 (T (j : Int) - hv)) W
  lv : LV S2 n m A2 c2 B2 d2 L2 W
  sn : ¬ S2 bx ∧ ¬ S2 bm
  ne : w.heap.size ≤ bx ∧ w.heap.size ≤ bm ∧ bx ≠ bm
  q : RW bq 2 (fun k => if k = 0 then .slice A2 n c2 else .slice B2 m d2) W
  nq : bq ≠ bx ∧ bq ≠ bm
theorem Ny.step {n m bx bm bq : Nat} {hv : Int} {T : Int → Int} {L2 : LG} {S2 : Nat → Prop} {A2 : Option Addr} {c2 : Nat} {B2 : Option Addr} {d2 : Nat} {w W W2 : World} (h : Ny n m bx bm bq hv T L2 S2 A2 c2 B2 d2 w W) (hb : Below W.heap.size W W2) : Ny n m bx bm bq hv T L2 S2 A2 c2 B2 d2 w W2 := by
  obtain ⟨X, hX⟩ := h.x
  exact ⟨below_step h.b hb, ⟨X, hX.step hb⟩, h.mo.step hb, h.lv.below hb, h.sn, h.ne, h.q.step hb, h.nq⟩
theorem Nx.ny {n m bx bm bq : Nat} {hv : Int} {i : Nat} {L L2 : LG} {T : Int → Int} {S S2 : Nat → Prop} {A A2 : Option Addr} {c c2 : Nat} {B B2 : Option Addr} {d d2 : Nat} {w W : World} (h : Nx n m bx bm hv i L T S A c B d w W) (hl : LV S2 n m A2 c2 B2 d2 L2 W) (hs : ¬ S2 bx ∧ ¬ S2 bm) (hsq : ¬ S2 bq) (rb : RW bq 2 (fun _ => .slice none 0 0) W) (lq : bx < bq ∧ bm < bq) :
    Ny n m bx bm bq hv T L2 S2 A2 c2 B2 d2 w ((W.setCell ⟨bq, 0, none⟩ (.slice A2 n c2)).setCell ⟨bq, 1, none⟩ (.slice B2 m d2)) := by
  obtain ⟨n1, n2, n3⟩ := h.ne
  have h2 := (rb.put (j := 0) (by decide) (.slice A2 n c2)).put (j := 1) (by decide) (.slice B2 m d2)
  refine ⟨(h.b.setCell (p := ⟨bq, 0, none⟩) (by show _ ≤ bq; omega) _).setCell (p := ⟨bq, 1, none⟩) (by show _ ≤ bq; omega) _, ⟨_, (h.x.far (by omega) _).far (by omega) _⟩, (h.mo.far (by omega) _).far (by omega) _, (hl.store (i := 0) hsq _).store (i := 1) hsq _, hs, h.ne, ⟨h2.lt, fun k hk => (h2.e k hk).trans ?_, h2.z⟩, by omega, by omega⟩
  match k, hk with
  | 0, _ => rfl
  | 1, _ => rfl
/-- More of one item. -/
theorem Ny.more {n m bx bm bq : Nat} {hv : Int} {T : Int → Int} {L2 : LG} {S2 : Nat → Prop} {A2 : Option Addr} {c2 : Nat} {B2 : Option Addr} {d2 : Nat} {w W : World} (h : Ny n m bx bm bq hv T L2 S2 A2 c2 B2 d2 w W) {x q : Int} (x0 : 0 ≤ x) (x1 : x < n) :
    Ny n m bx bm bq hv (fun j => if j = x then T j + q else T j) L2 S2 A2 c2 B2 d2 w (W.setCell ⟨bm, x.toNat, none⟩ (.int .i64 (T x - hv + q))) := by
  obtain ⟨n1, n2, n3⟩ := h.ne
  obtain ⟨X, hX⟩ := h.x
  have h2 := h.mo.put (j := x.toNat) (by omega) (.int .i64 (T x - hv + q))
  refine ⟨h.b.setCell (p := ⟨bm, x.toNat, none⟩) n2 _, ⟨_, hX.far (Ne.symm n3) _⟩, ⟨h2.lt, fun k hk => (h2.e k hk).trans ?_, h2.z⟩, h.lv.store h.sn.2 _, h.sn, h.ne, h.q.far (Ne.symm h.nq.2) _, h.nq⟩
  congr 1
  by_cases e : k = x.toNat
  · subst e
    rw [if_pos rfl, if_pos (by omega), Int.toNat_of_nonneg x0]
    congr 1
    omega
  · rw [if_neg e, if_neg (by omega)]
set_option maxHeartbeats 8000000 in
set_option maxRecDepth 100000 in
theorem never_ok (tx ty hv r1 r2 : Int) (n m : Nat) (A3 : Option Addr) (N c3 : Nat) (A4 : Option Addr) (M c4 : Nat) (b3 o3 b4 o4 : Nat) (wi wk q : Nat → Int) (L0 : LG) (w : World) (hA : Aside0 (0 < N → A3 = some ⟨b3, o3, none⟩ ∧ A4 = some ⟨b4, o4, none⟩)) (hN : Aside0 (N ≤ 100 ∧ N ≤ M)) (hg1 : ¬ (N : Int) > 100) (hg2 : ¬ (M : Int) < (N : Int)) (hx : tx.tmod 4 = r1) (hxw : IntKind.i64.wrap tx = tx) (hx2 : IntKind.i64.wrap (tx.tmod 4) = r1) (hn : IntKind.i64.wrap (1 + r1) = (n : Int)) (hy : ty.tmod 5 = r2) (hyw : IntKind.i64.wrap ty = ty) (hy2 : IntKind.i64.wrap (ty.tmod 5) = r2) (hm : IntKind.i64.wrap (1 + r2) = (m : Int)) (hvw : IntKind.i64.wrap hv = hv) (hm0 : ((m : Int) == 0) = false) (hm1 : ¬ (m : Int) = 0) (hnm : Aside0 (1 ≤ n ∧ n ≤ 4 ∧ 1 ≤ m ∧ m ≤ 5 ∧ 0 ≤ hv ∧ hv ≤ 65535)) (hK : Aside0 (Mk 24 n m n m hv L0)) (hv0 : Aside0 (Nv n m L0 (fun _ => hv)))
    (hL : Aside0 (∀ W, Below w.heap.size w W → ∀ i, i < N → W.cell? ⟨b3, o3 + i * 2, none⟩ = some (.int .i64 (wi i)) ∧ W.cell? ⟨b3, o3 + i * 2 + 1, none⟩ = some (.int .i64 (wk i)))) (hQ : Aside0 (∀ W, Below w.heap.size w W → ∀ i, i < N → W.cell? ⟨b4, o4 + i, none⟩ = some (.int .u8 (q i)))) (hqr : Aside0 (∀ i, i < N → 0 ≤ q i ∧ q i ≤ 255)) (hkr : Aside0 (∀ i, i < N → I64 (wk i))) :
    Calls Try.prog 9 #[.int .u8 tx, .int .u8 ty, .int .u16 hv, .slice A3 N c3, .slice A4 M c4] w fun e w' => e = .returned (.bool true) ∧ Below w.heap.size w w' := by
  go_enter Try.func9, Try.ntmps9
  go_upto_region 5 with (first | (go_at_call 11; (with_reducible refine (shown_is _).mono ?_); rintro e wg ⟨rfl, hb⟩; have HB := Aside0.mk hb; clear hb))
  have hmk := run_make_row' (P := Try.prog) 22 3 (.int .i64 0) 8 Try.underlying22 info3 rfl .i64 .i64 n (by have := hnm.out; omega) (by have := hnm.out; omega)
  go_upto_region 6 with (first | (go_at_call 24; (with_reducible refine (hK.out.at _).mono ?_); rintro e w1 ⟨S0, A0, c0, B0, d0, rfl, hl, hS, hb⟩; replace hl := Aside0.mk hl; replace hb := Aside0.mk hb; clear hS))
  go_upto_region 8 with (fail)
  clear hmk
  have N0 : Aside0 (Nx n m w1.heap.size (w1.heap.size + 1) hv 0 L0 (fun _ => hv) S0 A0 c0 B0 d0 w ((w1.alloc (.cells #[.slice A0 n c0, .slice B0 m d0] 25)).alloc (.cells (madeCells #[.int .i64 0] n) 3))) := by
    have ho := hnm.out
    have bb := below_step HB.out hb.out
    have hsz := bb.size
    have hm := RW.made (w1.alloc (.cells #[.slice A0 n c0, .slice B0 m d0] 25)) n (.int .i64 0) 3
    rw [World.size_alloc] at hm
    refine ⟨⟨(bb.alloc hsz _).alloc (by rw [World.size_alloc]; omega) _, hv0.out, fun j _ _ => by omega, (RW.pair w1 _ _ 25).step (bal _ _), (hl.out.below (bal _ _)).below (bal _ _), ⟨fun h => Nat.lt_irrefl _ (hl.out.sz _ h), fun h => by have := hl.out.sz _ h; omega⟩, ⟨hm.lt, fun j hj => (hm.e j hj).trans (by rw [Int.sub_self]), hm.z⟩, hsz, by omega, by omega⟩⟩
  generalize ((w1.alloc (.cells #[.slice A0 n c0, .slice B0 m d0] 25)).alloc (.cells (madeCells #[.int .i64 0] n) 3)) = W0 at N0 ⊢
  generalize w1.heap.size + 1 = bm at N0 ⊢
  generalize w1.heap.size = bx at N0 ⊢
  go_loopw [15, 16, 17, 18] (fun v15 v16 v17 v18 wr => ∃ i : Nat, i ≤ N ∧ v15 = .int .i64 i ∧ ∃ (L : LG) (T : Int → Int) (S : Nat → Prop) (A : Option Addr) (c : Nat) (B : Option Addr) (d : Nat), Aside0 (Nx n m bx bm hv i L T S A c B d w wr)) (fun v _ _ _ _ => N - (intOf v).toNat)
  case atStart => exact ⟨0, by omega, rfl, _, _, _, _, _, _, _, N0⟩
  case round =>
    clear N0 hl hb HB
    obtain ⟨i, hi, rfl, L, T, S, A, c, B, d, kn⟩ := hrel
    have hwi : IntKind.i64.wrap ((i : Int) + 1) = (i : Int) + 1 := by have := hN.out; rw [Go.IntKind.wrap_i64]; omega
    by_cases hiN : (i : Int) < N
    · obtain ⟨rfl, rfl⟩ := hA.out (by omega)
      have hiM : (i : Int) < M := by omega
      have hlt : i < N := by omega
      replace hlt := Aside0.mk hlt
      obtain ⟨qv, hqv⟩ : ∃ x, q i = x := ⟨_, rfl⟩
      have hq := hQ.out wr kn.out.b i hlt.out
      have hqq := hqr.out i hlt.out
      rw [hqv] at hq hqq
      have hqw : IntKind.i64.wrap qv = qv := by rw [Go.IntKind.wrap_i64]; omega
      obtain ⟨q8, hq8⟩ : ∃ x, qv.tdiv 8 = x := ⟨_, rfl⟩
      have hq8r : 0 ≤ q8 ∧ q8 ≤ 255 := by rw [← hq8, Int.tdiv_eq_ediv_of_nonneg hqq.1]; omega
      have hq8w : IntKind.i64.wrap q8 = q8 := by rw [Go.IntKind.wrap_i64]; omega
      obtain ⟨tt, htt⟩ : ∃ x, q8.tmod m = x := ⟨_, rfl⟩
      have htr : 0 ≤ tt ∧ tt < m := by have := hnm.out; rw [← htt]; exact ⟨Int.tmod_nonneg _ hq8r.1, Int.tmod_lt_of_pos _ (by omega)⟩
      have htw : IntKind.i64.wrap tt = tt := by have := hnm.out; rw [Go.IntKind.wrap_i64]; omega
      obtain ⟨c5, hc5⟩ : ∃ x, qv.tmod 5 = x := ⟨_, rfl⟩
      have hc5r : 0 ≤ c5 ∧ c5 < 5 := by rw [← hc5]; exact ⟨Int.tmod_nonneg _ hqq.1, Int.tmod_lt_of_pos _ (by omega)⟩
      have hc5w : IntKind.i64.wrap c5 = c5 := by rw [Go.IntKind.wrap_i64]; omega
      have hk64 : Aside0 (-9223372036854775808 ≤ wk i ∧ wk i ≤ 9223372036854775807) := ⟨hkr.out i hlt.out⟩
      have hTB : ∀ j : Int, 0 ≤ j → j < n → T j ≤ 1000000000000 := fun j j0 j1 => by have h1 := kn.out.tb j j0 j1; have h2 := hN.out; omega
      replace hTB := Aside0.mk hTB
      go_upto_region 12 with (fail)
      replace hc5r := Aside0.mk hc5r
      clear hq hqq hqw hq8 hq8w htt htw hc5 hc5w hqv hq8r
      replace htr := Aside0.mk htr
      obtain rfl | rfl | rfl | rfl | rfl : c5 = 0 ∨ c5 = 1 ∨ c5 = 2 ∨ c5 = 3 ∨ c5 = 4 := by have := hc5r.out; omega
      · obtain ⟨⟨L2, k2, e2⟩, hres⟩ : ∃ x, resS n m L tt (wi i) (wk i) = x := ⟨_, rfl⟩
        have hnv := Aside0.mk (kn.out.nv.res hTB.out hres)
        skip
        replace hres := Aside0.mk hres
        go_upto_region 13 with (fail)
        have kd := Aside0.mk (kn.out.step (below_drew1 (Below.refl wr.heap.size wr)))
        clear kn
        refine start_ (n := 12) (S := fun w' => w'.cell? ⟨bx, 0, none⟩ = some (.slice A n c) ∧ w'.cell? ⟨bx, 1, none⟩ = some (.slice B m d) ∧ w'.cell? ⟨b3, o3 + i * 2, none⟩ = some (.int .i64 (wi i)) ∧ w'.cell? ⟨b3, o3 + i * 2 + 1, none⟩ = some (.int .i64 (wk i)) ∧ Aside0 (Nx n m bx bm hv i L T S A c B d w w')) (ds := [11]) #[false, false, false, false, false, false, false, false, false, false, false, false] (by kernel_rfl) rfl rfl ⟨kd.out.k0, kd.out.k1, (hL.out _ kd.out.b i hlt.out).1, (hL.out _ kd.out.b i hlt.out).2, kd⟩ (fun hHeld => ?_)
        generalize wr.drew = V at kd hHeld ⊢
        refine pure_ (i := 1) (N := some 75) (v := ?_) (a' := ?_) #[false, true, false, false, false, false, false, false, false, false, false, false] rfl rfl (by kernel_rfl) (fun _ _ _ h => h) (Or.inl ⟨by rfl, ?_⟩) ?_ ?_
        rotate_left
        · intro w'
          go_simp
          with_reducible rfl
        rotate_left
        · simp only [Act.put, List.setIfInBounds_toArray, List.set_cons_zero, List.set_cons_succ, i64_w, i32_w]
          rfl
        refine pure_ (i := 2) (N := some 76) (v := ?_) (a' := ?_) #[false, true, true, false, false, false, false, false, false, false, false, false] rfl rfl (by kernel_rfl) (fun _ _ _ h => h) (Or.inl ⟨by rfl, ?_⟩) ?_ ?_
        rotate_left
        · intro w'
          go_simp
          with_reducible rfl
        rotate_left
        · simp only [Act.put, List.setIfInBounds_toArray, List.set_cons_zero, List.set_cons_succ, i64_w, i32_w]
          rfl
        refine pure_ (i := 3) (N := some 77) (v := ?_) (a' := ?_) #[false, true, true, true, false, false, false, false, false, false, false, false] rfl rfl (by kernel_rfl) (fun _ _ _ h => h) (Or.inl ⟨by rfl, ?_⟩) ?_ ?_
        rotate_left
        · intro w'
          go_simp
          with_reducible rfl
        rotate_left
        · simp only [Act.put, List.setIfInBounds_toArray, List.set_cons_zero, List.set_cons_succ, i64_w, i32_w]
          rfl
        refine pure_ (i := 4) (N := some 78) (v := ?_) (a' := ?_) #[false, true, true, true, true, false, false, false, false, false, false, false] rfl rfl (by kernel_rfl) (fun _ _ _ h => h) (Or.inl ⟨by rfl, ?_⟩) ?_ ?_
        rotate_left
        · intro w'
          go_simp
          with_reducible rfl
        rotate_left
        · simp only [Act.put, List.setIfInBounds_toArray, List.set_cons_zero, List.set_cons_succ, i64_w, i32_w]
          rfl
        refine take_ (i := 0) (N := some 74) (v := ?_) (a' := ?_) #[true, true, true, true, true, false, false, false, false, false, false, false] rfl rfl (by kernel_rfl) (fun _ _ _ h => h) (Or.inl ⟨by rfl, ?_⟩) hHeld ?_ ?_
        rotate_left
        · rintro w' ⟨s0, s1, s2, s3, s4⟩
          go_simp
          with_reducible rfl
        rotate_left
        · simp only [Act.put, List.setIfInBounds_toArray, List.set_cons_zero, List.set_cons_succ, i64_w, i32_w]
          rfl
        refine take_ (i := 5) (N := some 79) (v := ?_) (a' := ?_) #[true, true, true, true, true, true, false, false, false, false, false, false] rfl rfl (by kernel_rfl) (fun _ _ _ h => h) (Or.inl ⟨by rfl, ?_⟩) hHeld ?_ ?_
        rotate_left
        · rintro w' ⟨s0, s1, s2, s3, s4⟩
          go_simp
          with_reducible rfl
        rotate_left
        · simp only [Act.put, List.setIfInBounds_toArray, List.set_cons_zero, List.set_cons_succ, i64_w, i32_w]
          rfl
        refine one_ (i := 6) (N := some 80) #[true, true, true, true, true, true, true, false, false, false, false, false] rfl rfl (by kernel_rfl) (by decide) (fun K hK => ?_)
        refine goes_ Try.func13 (by kernel_rfl) rfl #[.agg #[.slice A n c, .slice B m d], .int .i64 tt, .agg #[.int .i64 (wi i), .int .i64 (wk i)]] (by rfl) rfl rfl (by simp only [List.map_toArray, List.map_cons, List.map_nil]; rfl) ?_
        with_reducible refine (reserve_is n m A c B d L tt (wi i) (wk i) S _ ⟨hHeld.2.2.2.2.out.lv⟩ hk64 L2 k2 e2 hres.out).mono ?_
        rintro e x1 ⟨S2, A2, c2, B2, d2, rfl, hl, hS, hb⟩
        refine ⟨_, rfl, ?_⟩
        have kz := Aside0.mk (hHeld.2.2.2.2.out.step hb)
        have hs2 : ¬ S2 bx ∧ ¬ S2 bm := ⟨fun h => (hS _ h).elim (hHeld.2.2.2.2.out.sn.1) (fun h => Nat.lt_irrefl _ (Nat.lt_of_lt_of_le hHeld.2.2.2.2.out.x.lt h)), fun h => (hS _ h).elim (hHeld.2.2.2.2.out.sn.2) (fun h => Nat.lt_irrefl _ (Nat.lt_of_lt_of_le hHeld.2.2.2.2.out.mo.lt h))⟩
        replace hl := Aside0.mk hl
        clear hHeld hb hS
        refine hK.out _ _ ⟨kz.out.k0, kz.out.k1, (hL.out _ kz.out.b i hlt.out).1, (hL.out _ kz.out.b i hlt.out).2, kz⟩ (fun hHeld => ?_)
        clear hK K
        refine norm_ (a' := ?_) ?_ ?_
        rotate_left
        · show Act.put _ (some 80) _ = _
          simp only [Act.put, List.setIfInBounds_toArray, List.set_cons_zero, List.set_cons_succ, i64_w, i32_w]
          rfl
        refine pure_ (i := 7) (N := some 73) (v := ?_) (a' := ?_) #[true, true, true, true, true, true, true, true, false, false, false, false] rfl rfl (by kernel_rfl) (fun _ _ _ h => h) (Or.inl ⟨by rfl, ?_⟩) ?_ ?_
        rotate_left
        · intro w'
          go_simp
          with_reducible rfl
        rotate_left
        · simp only [Act.put, List.setIfInBounds_toArray, List.set_cons_zero, List.set_cons_succ, i64_w, i32_w]
          rfl
        refine pure_ (i := 8) (N := some 81) (v := ?_) (a' := ?_) #[true, true, true, true, true, true, true, true, true, false, false, false] rfl rfl (by kernel_rfl) (fun _ _ _ h => h) (Or.inl ⟨by rfl, ?_⟩) ?_ ?_
        rotate_left
        · intro w'
          go_simp
          with_reducible rfl
        rotate_left
        · simp only [Act.put, List.setIfInBounds_toArray, List.set_cons_zero, List.set_cons_succ, i64_w, i32_w]
          rfl
        refine pure_ (i := 9) (N := some 82) (v := ?_) (a' := ?_) #[true, true, true, true, true, true, true, true, true, true, false, false] rfl rfl (by kernel_rfl) (fun _ _ _ h => h) (Or.inl ⟨by rfl, ?_⟩) ?_ ?_
        rotate_left
        · intro w'
          go_simp
          with_reducible rfl
        rotate_left
        · simp only [Act.put, List.setIfInBounds_toArray, List.set_cons_zero, List.set_cons_succ, i64_w, i32_w]
          rfl
        refine pure_ (i := 10) (N := some 83) (v := ?_) (a' := ?_) #[true, true, true, true, true, true, true, true, true, true, true, false] rfl rfl (by kernel_rfl) (fun _ _ _ h => h) (Or.inl ⟨by rfl, ?_⟩) ?_ ?_
        rotate_left
        · intro w'
          go_simp
          with_reducible rfl
        rotate_left
        · simp only [Act.put, List.setIfInBounds_toArray, List.set_cons_zero, List.set_cons_succ, i64_w, i32_w]
          rfl
        refine last_ (i := 11) (N := none) #[true, true, true, true, true, true, true, true, true, true, true, true] rfl rfl (by kernel_rfl) (by decide) (fun K hK => ?_)
        have hf0 := kz.out.x.z
        have hk0 := kz.out.k0
        have hk1 := kz.out.k1
        refine skip_ (w1 := ?_) (by rfl) rfl ?_ ?_
        rotate_left
        · go_simp
          rfl
        refine hK.out _ _ ?_
        clear hK K
        refine done_ (by kernel_rfl) ?_
        have N2 := Aside0.mk (kz.out.put hnv.out hl.out hs2)
        clear hf0 hk0 hk1 hHeld kz kd hl
        generalize (x1.setCell ⟨bx, 0, none⟩ (.slice A2 n c2)).setCell ⟨bx, 1, none⟩ (.slice B2 m d2) = W2 at N2 ⊢
        have y0 := N2.out.k0
        have y1 := N2.out.k1
        go_wp2_with (first | (go_at_call 10; (with_reducible refine (fine_lv N2.out.lv).mono ?_); rintro e wf ⟨rfl, hb⟩; have N3 := Aside0.mk (N2.out.step hb); clear hb))
        go_roundw
        case rel => exact ⟨i + 1, by have := hlt.out; omega, by simp, L2, T, S2, A2, c2, B2, d2, N3⟩
        case measure => have := hlt.out; simp [intOf]; omega
      · obtain ⟨⟨L2, k2, e2⟩, hres⟩ : ∃ x, someS n m L tt (wi i) (wk i) = x := ⟨_, rfl⟩
        have hnv := Aside0.mk (kn.out.nv.some_ hTB.out hres)
        skip
        replace hres := Aside0.mk hres
        go_upto_region 15 with (fail)
        have kd := Aside0.mk (kn.out.step (below_drew1 (Below.refl wr.heap.size wr)))
        clear kn
        refine start_ (n := 12) (S := fun w' => w'.cell? ⟨bx, 0, none⟩ = some (.slice A n c) ∧ w'.cell? ⟨bx, 1, none⟩ = some (.slice B m d) ∧ w'.cell? ⟨b3, o3 + i * 2, none⟩ = some (.int .i64 (wi i)) ∧ w'.cell? ⟨b3, o3 + i * 2 + 1, none⟩ = some (.int .i64 (wk i)) ∧ Aside0 (Nx n m bx bm hv i L T S A c B d w w')) (ds := [11]) #[false, false, false, false, false, false, false, false, false, false, false, false] (by kernel_rfl) rfl rfl ⟨kd.out.k0, kd.out.k1, (hL.out _ kd.out.b i hlt.out).1, (hL.out _ kd.out.b i hlt.out).2, kd⟩ (fun hHeld => ?_)
        generalize wr.drew = V at kd hHeld ⊢
        refine pure_ (i := 1) (N := some 88) (v := ?_) (a' := ?_) #[false, true, false, false, false, false, false, false, false, false, false, false] rfl rfl (by kernel_rfl) (fun _ _ _ h => h) (Or.inl ⟨by rfl, ?_⟩) ?_ ?_
        rotate_left
        · intro w'
          go_simp
          with_reducible rfl
        rotate_left
        · simp only [Act.put, List.setIfInBounds_toArray, List.set_cons_zero, List.set_cons_succ, i64_w, i32_w]
          rfl
        refine pure_ (i := 2) (N := some 89) (v := ?_) (a' := ?_) #[false, true, true, false, false, false, false, false, false, false, false, false] rfl rfl (by kernel_rfl) (fun _ _ _ h => h) (Or.inl ⟨by rfl, ?_⟩) ?_ ?_
        rotate_left
        · intro w'
          go_simp
          with_reducible rfl
        rotate_left
        · simp only [Act.put, List.setIfInBounds_toArray, List.set_cons_zero, List.set_cons_succ, i64_w, i32_w]
          rfl
        refine pure_ (i := 3) (N := some 90) (v := ?_) (a' := ?_) #[false, true, true, true, false, false, false, false, false, false, false, false] rfl rfl (by kernel_rfl) (fun _ _ _ h => h) (Or.inl ⟨by rfl, ?_⟩) ?_ ?_
        rotate_left
        · intro w'
          go_simp
          with_reducible rfl
        rotate_left
        · simp only [Act.put, List.setIfInBounds_toArray, List.set_cons_zero, List.set_cons_succ, i64_w, i32_w]
          rfl
        refine pure_ (i := 4) (N := some 91) (v := ?_) (a' := ?_) #[false, true, true, true, true, false, false, false, false, false, false, false] rfl rfl (by kernel_rfl) (fun _ _ _ h => h) (Or.inl ⟨by rfl, ?_⟩) ?_ ?_
        rotate_left
        · intro w'
          go_simp
          with_reducible rfl
        rotate_left
        · simp only [Act.put, List.setIfInBounds_toArray, List.set_cons_zero, List.set_cons_succ, i64_w, i32_w]
          rfl
        refine take_ (i := 0) (N := some 87) (v := ?_) (a' := ?_) #[true, true, true, true, true, false, false, false, false, false, false, false] rfl rfl (by kernel_rfl) (fun _ _ _ h => h) (Or.inl ⟨by rfl, ?_⟩) hHeld ?_ ?_
        rotate_left
        · rintro w' ⟨s0, s1, s2, s3, s4⟩
          go_simp
          with_reducible rfl
        rotate_left
        · simp only [Act.put, List.setIfInBounds_toArray, List.set_cons_zero, List.set_cons_succ, i64_w, i32_w]
          rfl
        refine take_ (i := 5) (N := some 92) (v := ?_) (a' := ?_) #[true, true, true, true, true, true, false, false, false, false, false, false] rfl rfl (by kernel_rfl) (fun _ _ _ h => h) (Or.inl ⟨by rfl, ?_⟩) hHeld ?_ ?_
        rotate_left
        · rintro w' ⟨s0, s1, s2, s3, s4⟩
          go_simp
          with_reducible rfl
        rotate_left
        · simp only [Act.put, List.setIfInBounds_toArray, List.set_cons_zero, List.set_cons_succ, i64_w, i32_w]
          rfl
        refine one_ (i := 6) (N := some 93) #[true, true, true, true, true, true, true, false, false, false, false, false] rfl rfl (by kernel_rfl) (by decide) (fun K hK => ?_)
        refine goes_ Try.func15 (by kernel_rfl) rfl #[.agg #[.slice A n c, .slice B m d], .int .i64 tt, .agg #[.int .i64 (wi i), .int .i64 (wk i)]] (by rfl) rfl rfl (by simp only [List.map_toArray, List.map_cons, List.map_nil]; rfl) ?_
        with_reducible refine (some_is n m A c B d L tt (wi i) (wk i) S _ ⟨hHeld.2.2.2.2.out.lv⟩ hk64 L2 k2 e2 hres.out).mono ?_
        rintro e x1 ⟨S2, A2, c2, B2, d2, rfl, hl, hS, hb⟩
        refine ⟨_, rfl, ?_⟩
        have kz := Aside0.mk (hHeld.2.2.2.2.out.step hb)
        have hs2 : ¬ S2 bx ∧ ¬ S2 bm := ⟨fun h => (hS _ h).elim (hHeld.2.2.2.2.out.sn.1) (fun h => Nat.lt_irrefl _ (Nat.lt_of_lt_of_le hHeld.2.2.2.2.out.x.lt h)), fun h => (hS _ h).elim (hHeld.2.2.2.2.out.sn.2) (fun h => Nat.lt_irrefl _ (Nat.lt_of_lt_of_le hHeld.2.2.2.2.out.mo.lt h))⟩
        replace hl := Aside0.mk hl
        clear hHeld hb hS
        refine hK.out _ _ ⟨kz.out.k0, kz.out.k1, (hL.out _ kz.out.b i hlt.out).1, (hL.out _ kz.out.b i hlt.out).2, kz⟩ (fun hHeld => ?_)
        clear hK K
        refine norm_ (a' := ?_) ?_ ?_
        rotate_left
        · show Act.put _ (some 93) _ = _
          simp only [Act.put, List.setIfInBounds_toArray, List.set_cons_zero, List.set_cons_succ, i64_w, i32_w]
          rfl
        refine pure_ (i := 7) (N := some 86) (v := ?_) (a' := ?_) #[true, true, true, true, true, true, true, true, false, false, false, false] rfl rfl (by kernel_rfl) (fun _ _ _ h => h) (Or.inl ⟨by rfl, ?_⟩) ?_ ?_
        rotate_left
        · intro w'
          go_simp
          with_reducible rfl
        rotate_left
        · simp only [Act.put, List.setIfInBounds_toArray, List.set_cons_zero, List.set_cons_succ, i64_w, i32_w]
          rfl
        refine pure_ (i := 8) (N := some 94) (v := ?_) (a' := ?_) #[true, true, true, true, true, true, true, true, true, false, false, false] rfl rfl (by kernel_rfl) (fun _ _ _ h => h) (Or.inl ⟨by rfl, ?_⟩) ?_ ?_
        rotate_left
        · intro w'
          go_simp
          with_reducible rfl
        rotate_left
        · simp only [Act.put, List.setIfInBounds_toArray, List.set_cons_zero, List.set_cons_succ, i64_w, i32_w]
          rfl
        refine pure_ (i := 9) (N := some 95) (v := ?_) (a' := ?_) #[true, true, true, true, true, true, true, true, true, true, false, false] rfl rfl (by kernel_rfl) (fun _ _ _ h => h) (Or.inl ⟨by rfl, ?_⟩) ?_ ?_
        rotate_left
        · intro w'
          go_simp
          with_reducible rfl
        rotate_left
        · simp only [Act.put, List.setIfInBounds_toArray, List.set_cons_zero, List.set_cons_succ, i64_w, i32_w]
          rfl
        refine pure_ (i := 10) (N := some 96) (v := ?_) (a' := ?_) #[true, true, true, true, true, true, true, true, true, true, true, false] rfl rfl (by kernel_rfl) (fun _ _ _ h => h) (Or.inl ⟨by rfl, ?_⟩) ?_ ?_
        rotate_left
        · intro w'
          go_simp
          with_reducible rfl
        rotate_left
        · simp only [Act.put, List.setIfInBounds_toArray, List.set_cons_zero, List.set_cons_succ, i64_w, i32_w]
          rfl
        refine last_ (i := 11) (N := none) #[true, true, true, true, true, true, true, true, true, true, true, true] rfl rfl (by kernel_rfl) (by decide) (fun K hK => ?_)
        have hf0 := kz.out.x.z
        have hk0 := kz.out.k0
        have hk1 := kz.out.k1
        refine skip_ (w1 := ?_) (by rfl) rfl ?_ ?_
        rotate_left
        · go_simp
          rfl
        refine hK.out _ _ ?_
        clear hK K
        refine done_ (by kernel_rfl) ?_
        have N2 := Aside0.mk (kz.out.put hnv.out hl.out hs2)
        clear hf0 hk0 hk1 hHeld kz kd hl
        generalize (x1.setCell ⟨bx, 0, none⟩ (.slice A2 n c2)).setCell ⟨bx, 1, none⟩ (.slice B2 m d2) = W2 at N2 ⊢
        have y0 := N2.out.k0
        have y1 := N2.out.k1
        go_wp2_with (first | (go_at_call 10; (with_reducible refine (fine_lv N2.out.lv).mono ?_); rintro e wf ⟨rfl, hb⟩; have N3 := Aside0.mk (N2.out.step hb); clear hb))
        go_roundw
        case rel => exact ⟨i + 1, by have := hlt.out; omega, by simp, L2, T, S2, A2, c2, B2, d2, N3⟩
        case measure => have := hlt.out; simp [intOf]; omega
      · obtain ⟨⟨L2, k2, e2⟩, hres⟩ : ∃ x, relS n m L tt (wi i) (wk i) = x := ⟨_, rfl⟩
        have hnv := Aside0.mk (kn.out.nv.rel hTB.out hres)
        skip
        replace hres := Aside0.mk hres
        go_upto_region 17 with (fail)
        have kd := Aside0.mk (kn.out.step (below_drew1 (Below.refl wr.heap.size wr)))
        clear kn
        refine start_ (n := 12) (S := fun w' => w'.cell? ⟨bx, 0, none⟩ = some (.slice A n c) ∧ w'.cell? ⟨bx, 1, none⟩ = some (.slice B m d) ∧ w'.cell? ⟨b3, o3 + i * 2, none⟩ = some (.int .i64 (wi i)) ∧ w'.cell? ⟨b3, o3 + i * 2 + 1, none⟩ = some (.int .i64 (wk i)) ∧ Aside0 (Nx n m bx bm hv i L T S A c B d w w')) (ds := [11]) #[false, false, false, false, false, false, false, false, false, false, false, false] (by kernel_rfl) rfl rfl ⟨kd.out.k0, kd.out.k1, (hL.out _ kd.out.b i hlt.out).1, (hL.out _ kd.out.b i hlt.out).2, kd⟩ (fun hHeld => ?_)
        generalize wr.drew = V at kd hHeld ⊢
        refine pure_ (i := 1) (N := some 101) (v := ?_) (a' := ?_) #[false, true, false, false, false, false, false, false, false, false, false, false] rfl rfl (by kernel_rfl) (fun _ _ _ h => h) (Or.inl ⟨by rfl, ?_⟩) ?_ ?_
        rotate_left
        · intro w'
          go_simp
          with_reducible rfl
        rotate_left
        · simp only [Act.put, List.setIfInBounds_toArray, List.set_cons_zero, List.set_cons_succ, i64_w, i32_w]
          rfl
        refine pure_ (i := 2) (N := some 102) (v := ?_) (a' := ?_) #[false, true, true, false, false, false, false, false, false, false, false, false] rfl rfl (by kernel_rfl) (fun _ _ _ h => h) (Or.inl ⟨by rfl, ?_⟩) ?_ ?_
        rotate_left
        · intro w'
          go_simp
          with_reducible rfl
        rotate_left
        · simp only [Act.put, List.setIfInBounds_toArray, List.set_cons_zero, List.set_cons_succ, i64_w, i32_w]
          rfl
        refine pure_ (i := 3) (N := some 103) (v := ?_) (a' := ?_) #[false, true, true, true, false, false, false, false, false, false, false, false] rfl rfl (by kernel_rfl) (fun _ _ _ h => h) (Or.inl ⟨by rfl, ?_⟩) ?_ ?_
        rotate_left
        · intro w'
          go_simp
          with_reducible rfl
        rotate_left
        · simp only [Act.put, List.setIfInBounds_toArray, List.set_cons_zero, List.set_cons_succ, i64_w, i32_w]
          rfl
        refine pure_ (i := 4) (N := some 104) (v := ?_) (a' := ?_) #[false, true, true, true, true, false, false, false, false, false, false, false] rfl rfl (by kernel_rfl) (fun _ _ _ h => h) (Or.inl ⟨by rfl, ?_⟩) ?_ ?_
        rotate_left
        · intro w'
          go_simp
          with_reducible rfl
        rotate_left
        · simp only [Act.put, List.setIfInBounds_toArray, List.set_cons_zero, List.set_cons_succ, i64_w, i32_w]
          rfl
        refine take_ (i := 0) (N := some 100) (v := ?_) (a' := ?_) #[true, true, true, true, true, false, false, false, false, false, false, false] rfl rfl (by kernel_rfl) (fun _ _ _ h => h) (Or.inl ⟨by rfl, ?_⟩) hHeld ?_ ?_
        rotate_left
        · rintro w' ⟨s0, s1, s2, s3, s4⟩
          go_simp
          with_reducible rfl
        rotate_left
        · simp only [Act.put, List.setIfInBounds_toArray, List.set_cons_zero, List.set_cons_succ, i64_w, i32_w]
          rfl
        refine take_ (i := 5) (N := some 105) (v := ?_) (a' := ?_) #[true, true, true, true, true, true, false, false, false, false, false, false] rfl rfl (by kernel_rfl) (fun _ _ _ h => h) (Or.inl ⟨by rfl, ?_⟩) hHeld ?_ ?_
        rotate_left
        · rintro w' ⟨s0, s1, s2, s3, s4⟩
          go_simp
          with_reducible rfl
        rotate_left
        · simp only [Act.put, List.setIfInBounds_toArray, List.set_cons_zero, List.set_cons_succ, i64_w, i32_w]
          rfl
        refine one_ (i := 6) (N := some 106) #[true, true, true, true, true, true, true, false, false, false, false, false] rfl rfl (by kernel_rfl) (by decide) (fun K hK => ?_)
        refine goes_ Try.func17 (by kernel_rfl) rfl #[.agg #[.slice A n c, .slice B m d], .int .i64 tt, .agg #[.int .i64 (wi i), .int .i64 (wk i)]] (by rfl) rfl rfl (by simp only [List.map_toArray, List.map_cons, List.map_nil]; rfl) ?_
        with_reducible refine (release_is n m A c B d L tt (wi i) (wk i) S _ ⟨hHeld.2.2.2.2.out.lv⟩ hk64 L2 k2 e2 hres.out).mono ?_
        rintro e x1 ⟨S2, A2, c2, B2, d2, rfl, hl, hS, hb⟩
        refine ⟨_, rfl, ?_⟩
        have kz := Aside0.mk (hHeld.2.2.2.2.out.step hb)
        have hs2 : ¬ S2 bx ∧ ¬ S2 bm := ⟨fun h => (hS _ h).elim (hHeld.2.2.2.2.out.sn.1) (fun h => Nat.lt_irrefl _ (Nat.lt_of_lt_of_le hHeld.2.2.2.2.out.x.lt h)), fun h => (hS _ h).elim (hHeld.2.2.2.2.out.sn.2) (fun h => Nat.lt_irrefl _ (Nat.lt_of_lt_of_le hHeld.2.2.2.2.out.mo.lt h))⟩
        replace hl := Aside0.mk hl
        clear hHeld hb hS
        refine hK.out _ _ ⟨kz.out.k0, kz.out.k1, (hL.out _ kz.out.b i hlt.out).1, (hL.out _ kz.out.b i hlt.out).2, kz⟩ (fun hHeld => ?_)
        clear hK K
        refine norm_ (a' := ?_) ?_ ?_
        rotate_left
        · show Act.put _ (some 106) _ = _
          simp only [Act.put, List.setIfInBounds_toArray, List.set_cons_zero, List.set_cons_succ, i64_w, i32_w]
          rfl
        refine pure_ (i := 7) (N := some 99) (v := ?_) (a' := ?_) #[true, true, true, true, true, true, true, true, false, false, false, false] rfl rfl (by kernel_rfl) (fun _ _ _ h => h) (Or.inl ⟨by rfl, ?_⟩) ?_ ?_
        rotate_left
        · intro w'
          go_simp
          with_reducible rfl
        rotate_left
        · simp only [Act.put, List.setIfInBounds_toArray, List.set_cons_zero, List.set_cons_succ, i64_w, i32_w]
          rfl
        refine pure_ (i := 8) (N := some 107) (v := ?_) (a' := ?_) #[true, true, true, true, true, true, true, true, true, false, false, false] rfl rfl (by kernel_rfl) (fun _ _ _ h => h) (Or.inl ⟨by rfl, ?_⟩) ?_ ?_
        rotate_left
        · intro w'
          go_simp
          with_reducible rfl
        rotate_left
        · simp only [Act.put, List.setIfInBounds_toArray, List.set_cons_zero, List.set_cons_succ, i64_w, i32_w]
          rfl
        refine pure_ (i := 9) (N := some 108) (v := ?_) (a' := ?_) #[true, true, true, true, true, true, true, true, true, true, false, false] rfl rfl (by kernel_rfl) (fun _ _ _ h => h) (Or.inl ⟨by rfl, ?_⟩) ?_ ?_
        rotate_left
        · intro w'
          go_simp
          with_reducible rfl
        rotate_left
        · simp only [Act.put, List.setIfInBounds_toArray, List.set_cons_zero, List.set_cons_succ, i64_w, i32_w]
          rfl
        refine pure_ (i := 10) (N := some 109) (v := ?_) (a' := ?_) #[true, true, true, true, true, true, true, true, true, true, true, false] rfl rfl (by kernel_rfl) (fun _ _ _ h => h) (Or.inl ⟨by rfl, ?_⟩) ?_ ?_
        rotate_left
        · intro w'
          go_simp
          with_reducible rfl
        rotate_left
        · simp only [Act.put, List.setIfInBounds_toArray, List.set_cons_zero, List.set_cons_succ, i64_w, i32_w]
          rfl
        refine last_ (i := 11) (N := none) #[true, true, true, true, true, true, true, true, true, true, true, true] rfl rfl (by kernel_rfl) (by decide) (fun K hK => ?_)
        have hf0 := kz.out.x.z
        have hk0 := kz.out.k0
        have hk1 := kz.out.k1
        refine skip_ (w1 := ?_) (by rfl) rfl ?_ ?_
        rotate_left
        · go_simp
          rfl
        refine hK.out _ _ ?_
        clear hK K
        refine done_ (by kernel_rfl) ?_
        have N2 := Aside0.mk (kz.out.put hnv.out hl.out hs2)
        clear hf0 hk0 hk1 hHeld kz kd hl
        generalize (x1.setCell ⟨bx, 0, none⟩ (.slice A2 n c2)).setCell ⟨bx, 1, none⟩ (.slice B2 m d2) = W2 at N2 ⊢
        have y0 := N2.out.k0
        have y1 := N2.out.k1
        go_wp2_with (first | (go_at_call 10; (with_reducible refine (fine_lv N2.out.lv).mono ?_); rintro e wf ⟨rfl, hb⟩; have N3 := Aside0.mk (N2.out.step hb); clear hb))
        go_roundw
        case rel => exact ⟨i + 1, by have := hlt.out; omega, by simp, L2, T, S2, A2, c2, B2, d2, N3⟩
        case measure => have := hlt.out; simp [intOf]; omega
      · obtain ⟨⟨L2, e2⟩, hres⟩ : ∃ x, rsS n L (wi i) (wk i) = x := ⟨_, rfl⟩
        have hrs := Aside0.mk hres
        replace hres := Aside0.mk hres
        have hnvL := Aside0.mk (And.intro kn.out.nv kn.out.tb)
        go_upto_region 19 with (fail)
        have kd := Aside0.mk (kn.out.step (below_drew1 (Below.refl wr.heap.size wr)))
        clear kn
        refine start_ (n := 12) (S := fun w' => w'.cell? ⟨bx, 0, none⟩ = some (.slice A n c) ∧ w'.cell? ⟨bx, 1, none⟩ = some (.slice B m d) ∧ w'.cell? ⟨b3, o3 + i * 2, none⟩ = some (.int .i64 (wi i)) ∧ w'.cell? ⟨b3, o3 + i * 2 + 1, none⟩ = some (.int .i64 (wk i)) ∧ Aside0 (Nx n m bx bm hv i L T S A c B d w w')) (ds := [10]) #[false, false, false, false, false, false, false, false, false, false, false, false] (by kernel_rfl) rfl rfl ⟨kd.out.k0, kd.out.k1, (hL.out _ kd.out.b i hlt.out).1, (hL.out _ kd.out.b i hlt.out).2, kd⟩ (fun hHeld => ?_)
        generalize wr.drew = V at kd hHeld ⊢
        refine pure_ (i := 1) (N := some 114) (v := ?_) (a' := ?_) #[false, true, false, false, false, false, false, false, false, false, false, false] rfl rfl (by kernel_rfl) (fun _ _ _ h => h) (Or.inl ⟨by rfl, ?_⟩) ?_ ?_
        rotate_left
        · intro w'
          go_simp
          with_reducible rfl
        rotate_left
        · simp only [Act.put, List.setIfInBounds_toArray, List.set_cons_zero, List.set_cons_succ, i64_w, i32_w]
          rfl
        refine pure_ (i := 2) (N := some 115) (v := ?_) (a' := ?_) #[false, true, true, false, false, false, false, false, false, false, false, false] rfl rfl (by kernel_rfl) (fun _ _ _ h => h) (Or.inl ⟨by rfl, ?_⟩) ?_ ?_
        rotate_left
        · intro w'
          go_simp
          with_reducible rfl
        rotate_left
        · simp only [Act.put, List.setIfInBounds_toArray, List.set_cons_zero, List.set_cons_succ, i64_w, i32_w]
          rfl
        refine pure_ (i := 3) (N := some 116) (v := ?_) (a' := ?_) #[false, true, true, true, false, false, false, false, false, false, false, false] rfl rfl (by kernel_rfl) (fun _ _ _ h => h) (Or.inl ⟨by rfl, ?_⟩) ?_ ?_
        rotate_left
        · intro w'
          go_simp
          with_reducible rfl
        rotate_left
        · simp only [Act.put, List.setIfInBounds_toArray, List.set_cons_zero, List.set_cons_succ, i64_w, i32_w]
          rfl
        refine take_ (i := 0) (N := some 113) (v := ?_) (a' := ?_) #[true, true, true, true, false, false, false, false, false, false, false, false] rfl rfl (by kernel_rfl) (fun _ _ _ h => h) (Or.inl ⟨by rfl, ?_⟩) hHeld ?_ ?_
        rotate_left
        · rintro w' ⟨s0, s1, s2, s3, s4⟩
          go_simp
          with_reducible rfl
        rotate_left
        · simp only [Act.put, List.setIfInBounds_toArray, List.set_cons_zero, List.set_cons_succ, i64_w, i32_w]
          rfl
        refine take_ (i := 4) (N := some 117) (v := ?_) (a' := ?_) #[true, true, true, true, true, false, false, false, false, false, false, false] rfl rfl (by kernel_rfl) (fun _ _ _ h => h) (Or.inl ⟨by rfl, ?_⟩) hHeld ?_ ?_
        rotate_left
        · rintro w' ⟨s0, s1, s2, s3, s4⟩
          go_simp
          with_reducible rfl
        rotate_left
        · simp only [Act.put, List.setIfInBounds_toArray, List.set_cons_zero, List.set_cons_succ, i64_w, i32_w]
          rfl
        refine join_ (σ := (Nat → Prop) × Option Addr × Nat × Option Addr × Nat × Nat) 2 #[true, true, true, true, true, true, true, true, true, true, false, false] (fun s => [(118, .tuple #[.agg #[.slice s.2.1 n s.2.2.1, .slice s.2.2.2.1 m s.2.2.2.2.1], .int .i64 e2]), (112, .tuple #[.agg #[.slice s.2.1 n s.2.2.1, .slice s.2.2.2.1 m s.2.2.2.2.1], .int .i64 e2]), (119, .agg #[.slice s.2.1 n s.2.2.1, .slice s.2.2.2.1 m s.2.2.2.2.1]), (120, .int .i64 e2), (17, .pointer (some ⟨s.2.2.2.2.2, 0, none⟩))]) (fun s w' => Nx n m bx bm hv i L T S A c B d w w' ∧ LV s.1 n m s.2.1 s.2.2.1 s.2.2.2.1 s.2.2.2.2.1 L2 w' ∧ (¬ s.1 bx ∧ ¬ s.1 bm) ∧ ¬ s.1 s.2.2.2.2.2 ∧ RW s.2.2.2.2.2 2 (fun _ => .slice none 0 0) w' ∧ (bx < s.2.2.2.2.2 ∧ bm < s.2.2.2.2.2)) ?_ ?_
        rotate_left
        · intro hCont
          refine two_ (i := 5) (j := 9) (Ni := some 118) (Nj := some 17) #[true, true, true, true, true, true, false, false, false, false, false, false] #[true, true, true, true, true, false, false, false, false, true, false, false] rfl rfl rfl rfl (by kernel_rfl) (by decide) (by decide) (fun K hK => ?_) (fun K hK => ?_)
          · skip
            refine goes_ Try.func20 (by kernel_rfl) rfl #[.agg #[.slice A n c, .slice B m d], .agg #[.int .i64 (wi i), .int .i64 (wk i)]] (by rfl) rfl rfl (by simp only [List.map_toArray, List.map_cons, List.map_nil]; rfl) ?_
            with_reducible refine (restock_is n m A c B d L (wi i) (wk i) S _ ⟨hHeld.2.2.2.2.out.lv⟩ hk64 L2 e2 hres.out).mono ?_
            rintro e V5 ⟨S2, A2, c2, B2, d2, rfl, hl, hS, hb⟩
            refine ⟨_, rfl, ?_⟩
            have kz := Aside0.mk (hHeld.2.2.2.2.out.step hb)
            have hs2 : ¬ S2 bx ∧ ¬ S2 bm := ⟨fun h => (hS _ h).elim (hHeld.2.2.2.2.out.sn.1) (fun h => Nat.lt_irrefl _ (Nat.lt_of_lt_of_le hHeld.2.2.2.2.out.x.lt h)), fun h => (hS _ h).elim (hHeld.2.2.2.2.out.sn.2) (fun h => Nat.lt_irrefl _ (Nat.lt_of_lt_of_le hHeld.2.2.2.2.out.mo.lt h))⟩
            replace hl := Aside0.mk hl
            clear hHeld hb hS
            refine hK.out _ _ ⟨kz.out.k0, kz.out.k1, (hL.out _ kz.out.b i hlt.out).1, (hL.out _ kz.out.b i hlt.out).2, kz⟩ (fun hHeld => ?_)
            clear hK K
            refine norm_ (a' := ?_) ?_ ?_
            rotate_left
            · show Act.put _ (some 118) _ = _
              simp only [Act.put, List.setIfInBounds_toArray, List.set_cons_zero, List.set_cons_succ, i64_w, i32_w]
              rfl
            refine pure_ (i := 6) (N := some 112) (v := ?_) (a' := ?_) #[true, true, true, true, true, true, true, false, false, false, false, false] rfl rfl (by kernel_rfl) (fun _ _ _ h => h) (Or.inl ⟨by rfl, ?_⟩) ?_ ?_
            rotate_left
            · intro w'
              go_simp
              with_reducible rfl
            rotate_left
            · simp only [Act.put, List.setIfInBounds_toArray, List.set_cons_zero, List.set_cons_succ, i64_w, i32_w]
              rfl
            refine pure_ (i := 7) (N := some 119) (v := ?_) (a' := ?_) #[true, true, true, true, true, true, true, true, false, false, false, false] rfl rfl (by kernel_rfl) (fun _ _ _ h => h) (Or.inl ⟨by rfl, ?_⟩) ?_ ?_
            rotate_left
            · intro w'
              go_simp
              with_reducible rfl
            rotate_left
            · simp only [Act.put, List.setIfInBounds_toArray, List.set_cons_zero, List.set_cons_succ, i64_w, i32_w]
              rfl
            refine pure_ (i := 8) (N := some 120) (v := ?_) (a' := ?_) #[true, true, true, true, true, true, true, true, true, false, false, false] rfl rfl (by kernel_rfl) (fun _ _ _ h => h) (Or.inl ⟨by rfl, ?_⟩) ?_ ?_
            rotate_left
            · intro w'
              go_simp
              with_reducible rfl
            rotate_left
            · simp only [Act.put, List.setIfInBounds_toArray, List.set_cons_zero, List.set_cons_succ, i64_w, i32_w]
              rfl
            refine one_ (i := 9) (N := some 17) #[true, true, true, true, true, true, true, true, true, true, false, false] rfl rfl (by kernel_rfl) (by decide) (fun K hK => ?_)
            refine value_ (w1 := ?_) (v := ?_) (by rfl) rfl ?_ ?_
            rotate_left 2
            · go_simp
              constructor
              · rfl
              · rfl
            have bk := bal V5 (.cells #[.slice none 0 0, .slice none 0 0] 25)
            have rb := Aside0.mk (RW.two V5 (.slice none 0 0) 25)
            have lq : bx < V5.heap.size ∧ bm < V5.heap.size := ⟨hHeld.2.2.2.2.out.x.lt, hHeld.2.2.2.2.out.mo.lt⟩
            have kz := Aside0.mk (hHeld.2.2.2.2.out.step bk)
            have hsq : ¬ S2 V5.heap.size := fun h => Nat.lt_irrefl _ (hl.out.sz _ h)
            replace hl := Aside0.mk (hl.out.below bk)
            clear hHeld bk
            generalize V5.alloc (.cells #[.slice none 0 0, .slice none 0 0] 25) = V59 at kz rb hl ⊢
            generalize V5.heap.size = bq at rb lq hsq ⊢
            refine hK.out _ _ ⟨kz.out.k0, kz.out.k1, (hL.out _ kz.out.b i hlt.out).1, (hL.out _ kz.out.b i hlt.out).2, kz⟩ (fun hHeld => ?_)
            clear hK K
            refine norm_ (a' := ?_) ?_ ?_
            rotate_left
            · show Act.put _ (some 17) _ = _
              simp only [Act.put, List.setIfInBounds_toArray, List.set_cons_zero, List.set_cons_succ, i64_w, i32_w]
              rfl
            exact norm_ (by first | (simp only [putAll, Act.put, List.setIfInBounds_toArray, List.set_cons_zero, List.set_cons_succ]; done) | (simp only [putAll, Act.put, List.setIfInBounds_toArray, List.set_cons_zero, List.set_cons_succ]; rfl)) (hCont (S2, A2, c2, B2, d2, bq) _ ⟨kz.out, hl.out, hs2, hsq, rb.out, lq⟩)
          · skip
            refine value_ (w1 := ?_) (v := ?_) (by rfl) rfl ?_ ?_
            rotate_left 2
            · go_simp
              constructor
              · rfl
              · rfl
            have bk := bal V (.cells #[.slice none 0 0, .slice none 0 0] 25)
            have rb := Aside0.mk (RW.two V (.slice none 0 0) 25)
            have lq : bx < V.heap.size ∧ bm < V.heap.size := ⟨hHeld.2.2.2.2.out.x.lt, hHeld.2.2.2.2.out.mo.lt⟩
            have kz := Aside0.mk (hHeld.2.2.2.2.out.step bk)
            have hsq0 : ¬ S V.heap.size := fun h => Nat.lt_irrefl _ (hHeld.2.2.2.2.out.lv.sz _ h)
            clear hHeld bk
            generalize V.alloc (.cells #[.slice none 0 0, .slice none 0 0] 25) = V9 at kz rb ⊢
            generalize V.heap.size = bq at rb lq hsq0 ⊢
            refine hK.out _ _ ⟨kz.out.k0, kz.out.k1, (hL.out _ kz.out.b i hlt.out).1, (hL.out _ kz.out.b i hlt.out).2, kz⟩ (fun hHeld => ?_)
            clear hK K
            refine norm_ (a' := ?_) ?_ ?_
            rotate_left
            · show Act.put _ (some 17) _ = _
              simp only [Act.put, List.setIfInBounds_toArray, List.set_cons_zero, List.set_cons_succ, i64_w, i32_w]
              rfl
            refine one_ (i := 5) (N := some 118) #[true, true, true, true, true, true, false, false, false, true, false, false] rfl rfl (by kernel_rfl) (by decide) (fun K hK => ?_)
            refine goes_ Try.func20 (by kernel_rfl) rfl #[.agg #[.slice A n c, .slice B m d], .agg #[.int .i64 (wi i), .int .i64 (wk i)]] (by rfl) rfl rfl (by simp only [List.map_toArray, List.map_cons, List.map_nil]; rfl) ?_
            with_reducible refine (restock_is n m A c B d L (wi i) (wk i) S _ ⟨hHeld.2.2.2.2.out.lv⟩ hk64 L2 e2 hres.out).mono ?_
            rintro e V95 ⟨S2, A2, c2, B2, d2, rfl, hl, hS, hb⟩
            refine ⟨_, rfl, ?_⟩
            have kz := Aside0.mk (hHeld.2.2.2.2.out.step hb)
            have hs2 : ¬ S2 bx ∧ ¬ S2 bm := ⟨fun h => (hS _ h).elim (hHeld.2.2.2.2.out.sn.1) (fun h => Nat.lt_irrefl _ (Nat.lt_of_lt_of_le hHeld.2.2.2.2.out.x.lt h)), fun h => (hS _ h).elim (hHeld.2.2.2.2.out.sn.2) (fun h => Nat.lt_irrefl _ (Nat.lt_of_lt_of_le hHeld.2.2.2.2.out.mo.lt h))⟩
            replace hl := Aside0.mk hl
            have hsq : ¬ S2 bq := fun h => (hS _ h).elim hsq0 (fun h => Nat.lt_irrefl _ (Nat.lt_of_lt_of_le rb.out.lt h))
            replace rb := Aside0.mk (rb.out.step hb)
            clear hHeld hb hS
            refine hK.out _ _ ⟨kz.out.k0, kz.out.k1, (hL.out _ kz.out.b i hlt.out).1, (hL.out _ kz.out.b i hlt.out).2, kz⟩ (fun hHeld => ?_)
            clear hK K
            refine norm_ (a' := ?_) ?_ ?_
            rotate_left
            · show Act.put _ (some 118) _ = _
              simp only [Act.put, List.setIfInBounds_toArray, List.set_cons_zero, List.set_cons_succ, i64_w, i32_w]
              rfl
            refine pure_ (i := 6) (N := some 112) (v := ?_) (a' := ?_) #[true, true, true, true, true, true, true, false, false, true, false, false] rfl rfl (by kernel_rfl) (fun _ _ _ h => h) (Or.inl ⟨by rfl, ?_⟩) ?_ ?_
            rotate_left
            · intro w'
              go_simp
              with_reducible rfl
            rotate_left
            · simp only [Act.put, List.setIfInBounds_toArray, List.set_cons_zero, List.set_cons_succ, i64_w, i32_w]
              rfl
            refine pure_ (i := 7) (N := some 119) (v := ?_) (a' := ?_) #[true, true, true, true, true, true, true, true, false, true, false, false] rfl rfl (by kernel_rfl) (fun _ _ _ h => h) (Or.inl ⟨by rfl, ?_⟩) ?_ ?_
            rotate_left
            · intro w'
              go_simp
              with_reducible rfl
            rotate_left
            · simp only [Act.put, List.setIfInBounds_toArray, List.set_cons_zero, List.set_cons_succ, i64_w, i32_w]
              rfl
            refine pure_ (i := 8) (N := some 120) (v := ?_) (a' := ?_) #[true, true, true, true, true, true, true, true, true, true, false, false] rfl rfl (by kernel_rfl) (fun _ _ _ h => h) (Or.inl ⟨by rfl, ?_⟩) ?_ ?_
            rotate_left
            · intro w'
              go_simp
              with_reducible rfl
            rotate_left
            · simp only [Act.put, List.setIfInBounds_toArray, List.set_cons_zero, List.set_cons_succ, i64_w, i32_w]
              rfl
            exact norm_ (by first | (simp only [putAll, Act.put, List.setIfInBounds_toArray, List.set_cons_zero, List.set_cons_succ]; done) | (simp only [putAll, Act.put, List.setIfInBounds_toArray, List.set_cons_zero, List.set_cons_succ]; rfl)) (hCont (S2, A2, c2, B2, d2, bq) _ ⟨kz.out, hl.out, hs2, hsq, rb.out, lq⟩)
        rintro ⟨S2, A2, c2, B2, d2, bq⟩ V9 ⟨kz, hl, hs2, hsq, rb, lq⟩
        dsimp only at hl hs2 hsq rb lq
        replace kz := Aside0.mk kz
        replace hl := Aside0.mk hl
        replace rb := Aside0.mk rb
        have hHeld : V9.cell? ⟨bx, 0, none⟩ = some (.slice A n c) ∧ V9.cell? ⟨bx, 1, none⟩ = some (.slice B m d) ∧ V9.cell? ⟨b3, o3 + i * 2, none⟩ = some (.int .i64 (wi i)) ∧ V9.cell? ⟨b3, o3 + i * 2 + 1, none⟩ = some (.int .i64 (wk i)) ∧ Aside0 (Nx n m bx bm hv i L T S A c B d w V9) := ⟨kz.out.k0, kz.out.k1, (hL.out _ kz.out.b i hlt.out).1, (hL.out _ kz.out.b i hlt.out).2, kz⟩
        refine norm_ (a' := ?_) ?_ ?_
        rotate_left
        · simp only [putAll, Act.put, List.setIfInBounds_toArray, List.set_cons_zero, List.set_cons_succ]
          rfl
        refine last_ (i := 10) (N := none) #[true, true, true, true, true, true, true, true, true, true, true, false] rfl rfl (by kernel_rfl) (by decide) (fun K hK => ?_)
        have hf0 := rb.out.z
        have hk0 := rb.out.e 0 (by decide)
        have hk1 := rb.out.e 1 (by decide)
        refine skip_ (w1 := ?_) (by rfl) rfl ?_ ?_
        rotate_left
        · go_simp
          rfl
        refine hK.out _ _ ?_
        clear hK K
        refine pure_ (i := 11) (N := some 18) (v := ?_) (a' := ?_) #[true, true, true, true, true, true, true, true, true, true, true, true] rfl rfl (by kernel_rfl) (fun _ _ _ h => h) (Or.inl ⟨by rfl, ?_⟩) ?_ ?_
        rotate_left
        · intro w'
          go_simp
          with_reducible rfl
        rotate_left
        · simp only [Act.put, List.setIfInBounds_toArray, List.set_cons_zero, List.set_cons_succ, i64_w, i32_w]
          rfl
        refine done_ (by kernel_rfl) ?_
        have ny := Aside0.mk (kz.out.ny hl.out hs2 hsq rb.out lq)
        clear hf0 hk0 hk1 hHeld kz kd hl rb
        generalize (V9.setCell ⟨bq, 0, none⟩ (.slice A2 n c2)).setCell ⟨bq, 1, none⟩ (.slice B2 m d2) = W9 at ny ⊢
        clear hs2 hsq lq
        trace "R20"
        cases he : (e2 == 0) with
        | false =>
          have hne : e2 ≠ 0 := by simpa using he
          have hnv : Aside0 (Nv n m L2 T ∧ ∀ j : Int, 0 ≤ j → j < n → T j ≤ 65535 + 1048576 * ((i + 1 : Nat) : Int)) := ⟨by rw [rs_no hrs.out hne]; exact hnvL.out.1, fun j j0 j1 => by have := hnvL.out.2 j j0 j1; omega⟩
          clear hne
          obtain ⟨X, hX⟩ := ny.out.x
          have x0 := hX.e 0 (by decide)
          have x1 := hX.e 1 (by decide)
          have xz := hX.z
          have q0 := ny.out.q.e 0 (by decide)
          have q1 := ny.out.q.e 1 (by decide)
          rw [if_pos rfl] at q0
          rw [if_neg (by decide)] at q1
          go_upto_region 25 with (fail)
          have N2 := Aside0.mk (Nx.mk2 (i := i) ny.out.b ny.out.ne hX ny.out.mo hnv.out.1 hnv.out.2 ny.out.lv ny.out.sn)
          clear x0 x1 xz q0 q1 hX ny
          generalize (W9.setCell ⟨bx, 0, none⟩ (.slice A2 n c2)).setCell ⟨bx, 1, none⟩ (.slice B2 m d2) = W2 at N2 ⊢
          have y0 := N2.out.k0
          have y1 := N2.out.k1
          go_wp2_with (first | (go_at_call 10; (with_reducible refine (fine_lv N2.out.lv).mono ?_); rintro e wf ⟨rfl, hb⟩; have N3 := Aside0.mk (N2.out.step hb); clear hb))
          go_roundw
          case rel => exact ⟨i + 1, by have := hlt.out; omega, by simp, L2, T, S2, A2, c2, B2, d2, N3⟩
          case measure => have := hlt.out; simp [intOf]; omega
        | true =>
          obtain ⟨x0, x1, q0, q1, eL⟩ := rs_yes hrs.out (show e2 = 0 by simpa using he)
          have hnv : Aside0 (Nv n m L2 (fun j => if j = wi i then T j + wk i else T j) ∧ ∀ j : Int, 0 ≤ j → j < n → (if j = wi i then T j + wk i else T j) ≤ 65535 + 1048576 * ((i + 1 : Nat) : Int)) := ⟨by rw [eL]; exact hnvL.out.1.st x0 x1 (hTB.out _ x0 x1) q0 q1, fun j j0 j1 => by have := hnvL.out.2 j j0 j1; split <;> omega⟩
          have bnd := hTB.out _ x0 x1
          have bnd0 := (hnvL.out.1.tot _ x0 x1)
          have bnd1 := hnvL.out.1.pa _ (rd_mem x0 (show wi i < L.hv.length by rw [hnvL.out.1.g.hn]; exact x1))
          have bnd2 := colS_pos hnvL.out.1.pb (wi i)
          have hsum : IntKind.i64.wrap (T (wi i) - hv + wk i) = T (wi i) - hv + wk i := by have := hnm.out; rw [Go.IntKind.wrap_i64]; omega
          clear bnd bnd0 bnd1 bnd2 eL
          replace q0 := Aside0.mk (And.intro q0 q1)
          clear q1
          go_upto_region 21 with (fail)
          have kd := Aside0.mk (ny.out.step (below_drew1 (Below.refl W9.heap.size W9)))
          clear ny
          refine start_ (n := 22) (S := fun w' => w'.cell? ⟨b3, o3 + i * 2, none⟩ = some (.int .i64 (wi i)) ∧ w'.cell? ⟨b3, o3 + i * 2 + 1, none⟩ = some (.int .i64 (wk i)) ∧ w'.cell? ⟨bm, (wi i).toNat, none⟩ = some (.int .i64 (T (wi i) - hv)) ∧ Aside0 (Ny n m bx bm bq hv T L2 S2 A2 c2 B2 d2 w w')) (ds := [21]) #[false, false, false, false, false, false, false, false, false, false, false, false, false, false, false, false, false, false, false, false, false, false] (by kernel_rfl) rfl rfl ⟨(hL.out _ kd.out.b i hlt.out).1, (hL.out _ kd.out.b i hlt.out).2, ((kd.out.mo.e (wi i).toNat (by omega)).trans (by rw [Int.toNat_of_nonneg x0])), kd⟩ (fun hHeld => ?_)
          generalize W9.drew = V21 at kd hHeld ⊢
          refine pure_ (i := 0) (N := some 123) (v := ?_) (a' := ?_) #[true, false, false, false, false, false, false, false, false, false, false, false, false, false, false, false, false, false, false, false, false, false] rfl rfl (by kernel_rfl) (fun _ _ _ h => h) (Or.inl ⟨by rfl, ?_⟩) ?_ ?_
          rotate_left
          · intro w'
            go_simp
            with_reducible rfl
          rotate_left
          · simp only [Act.put, List.setIfInBounds_toArray, List.set_cons_zero, List.set_cons_succ, i64_w, i32_w]
            rfl
          refine pure_ (i := 1) (N := some 124) (v := ?_) (a' := ?_) #[true, true, false, false, false, false, false, false, false, false, false, false, false, false, false, false, false, false, false, false, false, false] rfl rfl (by kernel_rfl) (fun _ _ _ h => h) (Or.inl ⟨by rfl, ?_⟩) ?_ ?_
          rotate_left
          · intro w'
            go_simp
            with_reducible rfl
          rotate_left
          · simp only [Act.put, List.setIfInBounds_toArray, List.set_cons_zero, List.set_cons_succ, i64_w, i32_w]
            rfl
          refine pure_ (i := 2) (N := some 125) (v := ?_) (a' := ?_) #[true, true, true, false, false, false, false, false, false, false, false, false, false, false, false, false, false, false, false, false, false, false] rfl rfl (by kernel_rfl) (fun _ _ _ h => h) (Or.inl ⟨by rfl, ?_⟩) ?_ ?_
          rotate_left
          · intro w'
            go_simp
            with_reducible rfl
          rotate_left
          · simp only [Act.put, List.setIfInBounds_toArray, List.set_cons_zero, List.set_cons_succ, i64_w, i32_w]
            rfl
          refine pure_ (i := 3) (N := some 126) (v := ?_) (a' := ?_) #[true, true, true, true, false, false, false, false, false, false, false, false, false, false, false, false, false, false, false, false, false, false] rfl rfl (by kernel_rfl) (fun _ _ _ h => h) (Or.inl ⟨by rfl, ?_⟩) ?_ ?_
          rotate_left
          · intro w'
            go_simp
            with_reducible rfl
          rotate_left
          · simp only [Act.put, List.setIfInBounds_toArray, List.set_cons_zero, List.set_cons_succ, i64_w, i32_w]
            rfl
          refine pure_ (i := 4) (N := some 127) (v := ?_) (a' := ?_) #[true, true, true, true, true, false, false, false, false, false, false, false, false, false, false, false, false, false, false, false, false, false] rfl rfl (by kernel_rfl) (fun _ _ _ h => h) (Or.inl ⟨by rfl, ?_⟩) ?_ ?_
          rotate_left
          · intro w'
            go_simp
            with_reducible rfl
          rotate_left
          · simp only [Act.put, List.setIfInBounds_toArray, List.set_cons_zero, List.set_cons_succ, i64_w, i32_w]
            rfl
          refine pure_ (i := 6) (N := some 129) (v := ?_) (a' := ?_) #[true, true, true, true, true, false, true, false, false, false, false, false, false, false, false, false, false, false, false, false, false, false] rfl rfl (by kernel_rfl) (fun _ _ _ h => h) (Or.inl ⟨by rfl, ?_⟩) ?_ ?_
          rotate_left
          · intro w'
            go_simp
            with_reducible rfl
          rotate_left
          · simp only [Act.put, List.setIfInBounds_toArray, List.set_cons_zero, List.set_cons_succ, i64_w, i32_w]
            rfl
          refine pure_ (i := 7) (N := some 130) (v := ?_) (a' := ?_) #[true, true, true, true, true, false, true, true, false, false, false, false, false, false, false, false, false, false, false, false, false, false] rfl rfl (by kernel_rfl) (fun _ _ _ h => h) (Or.inl ⟨by rfl, ?_⟩) ?_ ?_
          rotate_left
          · intro w'
            go_simp
            with_reducible rfl
          rotate_left
          · simp only [Act.put, List.setIfInBounds_toArray, List.set_cons_zero, List.set_cons_succ, i64_w, i32_w]
            rfl
          refine pure_ (i := 8) (N := some 131) (v := ?_) (a' := ?_) #[true, true, true, true, true, false, true, true, true, false, false, false, false, false, false, false, false, false, false, false, false, false] rfl rfl (by kernel_rfl) (fun _ _ _ h => h) (Or.inl ⟨by rfl, ?_⟩) ?_ ?_
          rotate_left
          · intro w'
            go_simp
            with_reducible rfl
          rotate_left
          · simp only [Act.put, List.setIfInBounds_toArray, List.set_cons_zero, List.set_cons_succ, i64_w, i32_w]
            rfl
          refine pure_ (i := 9) (N := some 132) (v := ?_) (a' := ?_) #[true, true, true, true, true, false, true, true, true, true, false, false, false, false, false, false, false, false, false, false, false, false] rfl rfl (by kernel_rfl) (fun _ _ _ h => h) (Or.inl ⟨by rfl, ?_⟩) ?_ ?_
          rotate_left
          · intro w'
            go_simp
            with_reducible rfl
          rotate_left
          · simp only [Act.put, List.setIfInBounds_toArray, List.set_cons_zero, List.set_cons_succ, i64_w, i32_w]
            rfl
          refine pure_ (i := 10) (N := some 133) (v := ?_) (a' := ?_) #[true, true, true, true, true, false, true, true, true, true, true, false, false, false, false, false, false, false, false, false, false, false] rfl rfl (by kernel_rfl) (fun _ _ _ h => h) (Or.inl ⟨by rfl, ?_⟩) ?_ ?_
          rotate_left
          · intro w'
            go_simp
            with_reducible rfl
          rotate_left
          · simp only [Act.put, List.setIfInBounds_toArray, List.set_cons_zero, List.set_cons_succ, i64_w, i32_w]
            rfl
          refine pure_ (i := 14) (N := some 137) (v := ?_) (a' := ?_) #[true, true, true, true, true, false, true, true, true, true, true, false, false, false, true, false, false, false, false, false, false, false] rfl rfl (by kernel_rfl) (fun _ _ _ h => h) (Or.inl ⟨by rfl, ?_⟩) ?_ ?_
          rotate_left
          · intro w'
            go_simp
            with_reducible rfl
          rotate_left
          · simp only [Act.put, List.setIfInBounds_toArray, List.set_cons_zero, List.set_cons_succ, i64_w, i32_w]
            rfl
          refine pure_ (i := 15) (N := some 138) (v := ?_) (a' := ?_) #[true, true, true, true, true, false, true, true, true, true, true, false, false, false, true, true, false, false, false, false, false, false] rfl rfl (by kernel_rfl) (fun _ _ _ h => h) (Or.inl ⟨by rfl, ?_⟩) ?_ ?_
          rotate_left
          · intro w'
            go_simp
            with_reducible rfl
          rotate_left
          · simp only [Act.put, List.setIfInBounds_toArray, List.set_cons_zero, List.set_cons_succ, i64_w, i32_w]
            rfl
          refine pure_ (i := 16) (N := some 139) (v := ?_) (a' := ?_) #[true, true, true, true, true, false, true, true, true, true, true, false, false, false, true, true, true, false, false, false, false, false] rfl rfl (by kernel_rfl) (fun _ _ _ h => h) (Or.inl ⟨by rfl, ?_⟩) ?_ ?_
          rotate_left
          · intro w'
            go_simp
            with_reducible rfl
          rotate_left
          · simp only [Act.put, List.setIfInBounds_toArray, List.set_cons_zero, List.set_cons_succ, i64_w, i32_w]
            rfl
          refine pure_ (i := 17) (N := some 140) (v := ?_) (a' := ?_) #[true, true, true, true, true, false, true, true, true, true, true, false, false, false, true, true, true, true, false, false, false, false] rfl rfl (by kernel_rfl) (fun _ _ _ h => h) (Or.inl ⟨by rfl, ?_⟩) ?_ ?_
          rotate_left
          · intro w'
            go_simp
            with_reducible rfl
          rotate_left
          · simp only [Act.put, List.setIfInBounds_toArray, List.set_cons_zero, List.set_cons_succ, i64_w, i32_w]
            rfl
          refine take_ (i := 5) (N := some 128) (v := ?_) (a' := ?_) #[true, true, true, true, true, true, true, true, true, true, true, false, false, false, true, true, true, true, false, false, false, false] rfl rfl (by kernel_rfl) (fun _ _ _ h => h) (Or.inl ⟨by rfl, ?_⟩) hHeld ?_ ?_
          rotate_left
          · rintro w' ⟨s0, s1, s2, s3⟩
            go_simp
            with_reducible rfl
          rotate_left
          · simp only [Act.put, List.setIfInBounds_toArray, List.set_cons_zero, List.set_cons_succ, i64_w, i32_w]
            rfl
          refine take_ (i := 11) (N := some 134) (v := ?_) (a' := ?_) #[true, true, true, true, true, true, true, true, true, true, true, true, false, false, true, true, true, true, false, false, false, false] rfl rfl (by kernel_rfl) (fun _ _ _ h => h) (Or.inl ⟨by rfl, ?_⟩) hHeld ?_ ?_
          rotate_left
          · rintro w' ⟨s0, s1, s2, s3⟩
            go_simp
            with_reducible rfl
          rotate_left
          · simp only [Act.put, List.setIfInBounds_toArray, List.set_cons_zero, List.set_cons_succ, i64_w, i32_w]
            rfl
          refine pure_ (i := 12) (N := some 135) (v := ?_) (a' := ?_) #[true, true, true, true, true, true, true, true, true, true, true, true, true, false, true, true, true, true, false, false, false, false] rfl rfl (by kernel_rfl) (fun _ _ _ h => h) (Or.inl ⟨by rfl, ?_⟩) ?_ ?_
          rotate_left
          · intro w'
            go_simp
            with_reducible rfl
          rotate_left
          · simp only [Act.put, List.setIfInBounds_toArray, List.set_cons_zero, List.set_cons_succ, i64_w, i32_w]
            rfl
          refine take_ (i := 13) (N := some 136) (v := ?_) (a' := ?_) #[true, true, true, true, true, true, true, true, true, true, true, true, true, true, true, true, true, true, false, false, false, false] rfl rfl (by kernel_rfl) (fun _ _ _ h => h) (Or.inl ⟨by rfl, ?_⟩) hHeld ?_ ?_
          rotate_left
          · rintro w' ⟨s0, s1, s2, s3⟩
            go_simp
            with_reducible rfl
          rotate_left
          · simp only [Act.put, List.setIfInBounds_toArray, List.set_cons_zero, List.set_cons_succ, i64_w, i32_w]
            rfl
          refine take_ (i := 18) (N := some 141) (v := ?_) (a' := ?_) #[true, true, true, true, true, true, true, true, true, true, true, true, true, true, true, true, true, true, true, false, false, false] rfl rfl (by kernel_rfl) (fun _ _ _ h => h) (Or.inl ⟨by rfl, ?_⟩) hHeld ?_ ?_
          rotate_left
          · rintro w' ⟨s0, s1, s2, s3⟩
            go_simp
            with_reducible rfl
          rotate_left
          · simp only [Act.put, List.setIfInBounds_toArray, List.set_cons_zero, List.set_cons_succ, i64_w, i32_w]
            rfl
          refine pure_ (i := 19) (N := some 142) (v := ?_) (a' := ?_) #[true, true, true, true, true, true, true, true, true, true, true, true, true, true, true, true, true, true, true, true, false, false] rfl rfl (by kernel_rfl) (fun _ _ _ h => h) (Or.inl ⟨by rfl, ?_⟩) ?_ ?_
          rotate_left
          · intro w'
            go_simp
            with_reducible rfl
          rotate_left
          · simp only [Act.put, List.setIfInBounds_toArray, List.set_cons_zero, List.set_cons_succ, i64_w, i32_w]
            rfl
          refine pure_ (i := 20) (N := some 143) (v := ?_) (a' := ?_) #[true, true, true, true, true, true, true, true, true, true, true, true, true, true, true, true, true, true, true, true, true, false] rfl rfl (by kernel_rfl) (fun _ _ _ h => h) (Or.inl ⟨by rfl, ?_⟩) ?_ ?_
          rotate_left
          · intro w'
            go_simp
            with_reducible rfl
          rotate_left
          · simp only [Act.put, List.setIfInBounds_toArray, List.set_cons_zero, List.set_cons_succ, i64_w, i32_w]
            rfl
          refine last_ (i := 21) (N := none) #[true, true, true, true, true, true, true, true, true, true, true, true, true, true, true, true, true, true, true, true, true, true] rfl rfl (by kernel_rfl) (by decide) (fun K hK => ?_)
          have hf0 := kd.out.mo.z
          have hk0 := ((kd.out.mo.e (wi i).toNat (by omega)).trans (by rw [Int.toNat_of_nonneg x0]))
          refine skip_ (w1 := ?_) (by rfl) rfl ?_ ?_
          rotate_left
          · go_simp
            rfl
          refine hK.out _ _ ?_
          clear hK K
          refine done_ (by kernel_rfl) ?_
          have ny := Aside0.mk (kd.out.more (q := wk i) x0 x1)
          clear hf0 hk0 hHeld kd hsum
          generalize V21.setCell ⟨bm, (wi i).toNat, none⟩ (.int .i64 (T (wi i) - hv + wk i)) = W21 at ny ⊢
          clear x0 x1 q0
          obtain ⟨X, hX⟩ := ny.out.x
          have x0 := hX.e 0 (by decide)
          have x1 := hX.e 1 (by decide)
          have xz := hX.z
          have q0 := ny.out.q.e 0 (by decide)
          have q1 := ny.out.q.e 1 (by decide)
          rw [if_pos rfl] at q0
          rw [if_neg (by decide)] at q1
          go_upto_region 25 with (fail)
          have N2 := Aside0.mk (Nx.mk2 (i := i) ny.out.b ny.out.ne hX ny.out.mo hnv.out.1 hnv.out.2 ny.out.lv ny.out.sn)
          clear x0 x1 xz q0 q1 hX ny
          generalize (W21.setCell ⟨bx, 0, none⟩ (.slice A2 n c2)).setCell ⟨bx, 1, none⟩ (.slice B2 m d2) = W2 at N2 ⊢
          have y0 := N2.out.k0
          have y1 := N2.out.k1
          go_wp2_with (first | (go_at_call 10; (with_reducible refine (fine_lv N2.out.lv).mono ?_); rintro e wf ⟨rfl, hb⟩; have N3 := Aside0.mk (N2.out.step hb); clear hb))
          go_roundw
          case rel => exact ⟨i + 1, by have := hlt.out; omega, by simp, L2, (fun j => if j = wi i then T j + wk i else T j), S2, A2, c2, B2, d2, N3⟩
          case measure => have := hlt.out; simp [intOf]; omega
      · obtain ⟨jj, hjj⟩ : ∃ jj : Nat, jj = N - 1 - i := ⟨_, rfl⟩
        have hjl : jj < N := by omega
        replace hjl := Aside0.mk hjl
        have hjN : (jj : Int) < N := by omega
        have hjw : IntKind.i64.wrap ((N : Int) - 1 - (i : Int)) = (jj : Int) := by have := hN.out; rw [Go.IntKind.wrap_i64]; omega
        have hNw : IntKind.i64.wrap ((N : Int) - 1) = (N : Int) - 1 := by have := hN.out; rw [Go.IntKind.wrap_i64]; omega
        have hj64 : Aside0 (-9223372036854775808 ≤ wk jj ∧ wk jj ≤ 9223372036854775807) := ⟨hkr.out jj hjl.out⟩
        clear hjj
        obtain ⟨⟨L2, k2, e2⟩, hres⟩ : ∃ x, bothS n m L tt (wi i) (wk i) (wi jj) (wk jj) = x := ⟨_, rfl⟩
        have hnv := Aside0.mk (kn.out.nv.both hTB.out hres)
        have hres2 : Aside0 (Hid (bothS n m L tt (wi i) (wk i) (wi jj) (wk jj) = (L2, k2, e2))) := ⟨hres⟩
        replace hres := Aside0.mk hres
        go_upto_region 24 with (fail)
        have kd := Aside0.mk (kn.out.step (below_drew1 (Below.refl wr.heap.size wr)))
        clear kn
        refine start_ (n := 20) (S := fun w' => w'.cell? ⟨bx, 0, none⟩ = some (.slice A n c) ∧ w'.cell? ⟨bx, 1, none⟩ = some (.slice B m d) ∧ w'.cell? ⟨b3, o3 + i * 2, none⟩ = some (.int .i64 (wi i)) ∧ w'.cell? ⟨b3, o3 + i * 2 + 1, none⟩ = some (.int .i64 (wk i)) ∧ w'.cell? ⟨b3, o3 + jj * 2, none⟩ = some (.int .i64 (wi jj)) ∧ w'.cell? ⟨b3, o3 + jj * 2 + 1, none⟩ = some (.int .i64 (wk jj)) ∧ Aside0 (Nx n m bx bm hv i L T S A c B d w w')) (ds := [19]) #[false, false, false, false, false, false, false, false, false, false, false, false, false, false, false, false, false, false, false, false] (by kernel_rfl) rfl rfl ⟨kd.out.k0, kd.out.k1, (hL.out _ kd.out.b i hlt.out).1, (hL.out _ kd.out.b i hlt.out).2, (hL.out _ kd.out.b jj hjl.out).1, (hL.out _ kd.out.b jj hjl.out).2, kd⟩ (fun hHeld => ?_)
        generalize wr.drew = V at kd hHeld ⊢
        refine pure_ (i := 1) (N := some 149) (v := ?_) (a' := ?_) #[false, true, false, false, false, false, false, false, false, false, false, false, false, false, false, false, false, false, false, false] rfl rfl (by kernel_rfl) (fun _ _ _ h => h) (Or.inl ⟨by rfl, ?_⟩) ?_ ?_
        rotate_left
        · intro w'
          go_simp
          with_reducible rfl
        rotate_left
        · simp only [Act.put, List.setIfInBounds_toArray, List.set_cons_zero, List.set_cons_succ, i64_w, i32_w]
          rfl
        refine pure_ (i := 2) (N := some 150) (v := ?_) (a' := ?_) #[false, true, true, false, false, false, false, false, false, false, false, false, false, false, false, false, false, false, false, false] rfl rfl (by kernel_rfl) (fun _ _ _ h => h) (Or.inl ⟨by rfl, ?_⟩) ?_ ?_
        rotate_left
        · intro w'
          go_simp
          with_reducible rfl
        rotate_left
        · simp only [Act.put, List.setIfInBounds_toArray, List.set_cons_zero, List.set_cons_succ, i64_w, i32_w]
          rfl
        refine pure_ (i := 3) (N := some 151) (v := ?_) (a' := ?_) #[false, true, true, true, false, false, false, false, false, false, false, false, false, false, false, false, false, false, false, false] rfl rfl (by kernel_rfl) (fun _ _ _ h => h) (Or.inl ⟨by rfl, ?_⟩) ?_ ?_
        rotate_left
        · intro w'
          go_simp
          with_reducible rfl
        rotate_left
        · simp only [Act.put, List.setIfInBounds_toArray, List.set_cons_zero, List.set_cons_succ, i64_w, i32_w]
          rfl
        refine pure_ (i := 4) (N := some 152) (v := ?_) (a' := ?_) #[false, true, true, true, true, false, false, false, false, false, false, false, false, false, false, false, false, false, false, false] rfl rfl (by kernel_rfl) (fun _ _ _ h => h) (Or.inl ⟨by rfl, ?_⟩) ?_ ?_
        rotate_left
        · intro w'
          go_simp
          with_reducible rfl
        rotate_left
        · simp only [Act.put, List.setIfInBounds_toArray, List.set_cons_zero, List.set_cons_succ, i64_w, i32_w]
          rfl
        refine pure_ (i := 6) (N := some 154) (v := ?_) (a' := ?_) #[false, true, true, true, true, false, true, false, false, false, false, false, false, false, false, false, false, false, false, false] rfl rfl (by kernel_rfl) (fun _ _ _ h => h) (Or.inl ⟨by rfl, ?_⟩) ?_ ?_
        rotate_left
        · intro w'
          go_simp
          with_reducible rfl
        rotate_left
        · simp only [Act.put, List.setIfInBounds_toArray, List.set_cons_zero, List.set_cons_succ, i64_w, i32_w]
          rfl
        refine pure_ (i := 7) (N := some 155) (v := ?_) (a' := ?_) #[false, true, true, true, true, false, true, true, false, false, false, false, false, false, false, false, false, false, false, false] rfl rfl (by kernel_rfl) (fun _ _ _ h => h) (Or.inl ⟨by rfl, ?_⟩) ?_ ?_
        rotate_left
        · intro w'
          go_simp
          with_reducible rfl
        rotate_left
        · simp only [Act.put, List.setIfInBounds_toArray, List.set_cons_zero, List.set_cons_succ, i64_w, i32_w]
          rfl
        refine pure_ (i := 8) (N := some 156) (v := ?_) (a' := ?_) #[false, true, true, true, true, false, true, true, true, false, false, false, false, false, false, false, false, false, false, false] rfl rfl (by kernel_rfl) (fun _ _ _ h => h) (Or.inl ⟨by rfl, ?_⟩) ?_ ?_
        rotate_left
        · intro w'
          go_simp
          with_reducible rfl
        rotate_left
        · simp only [Act.put, List.setIfInBounds_toArray, List.set_cons_zero, List.set_cons_succ, i64_w, i32_w]
          rfl
        refine pure_ (i := 9) (N := some 157) (v := ?_) (a' := ?_) #[false, true, true, true, true, false, true, true, true, true, false, false, false, false, false, false, false, false, false, false] rfl rfl (by kernel_rfl) (fun _ _ _ h => h) (Or.inl ⟨by rfl, ?_⟩) ?_ ?_
        rotate_left
        · intro w'
          go_simp
          with_reducible rfl
        rotate_left
        · simp only [Act.put, List.setIfInBounds_toArray, List.set_cons_zero, List.set_cons_succ, i64_w, i32_w]
          rfl
        refine pure_ (i := 10) (N := some 158) (v := ?_) (a' := ?_) #[false, true, true, true, true, false, true, true, true, true, true, false, false, false, false, false, false, false, false, false] rfl rfl (by kernel_rfl) (fun _ _ _ h => h) (Or.inl ⟨by rfl, ?_⟩) ?_ ?_
        rotate_left
        · intro w'
          go_simp
          with_reducible rfl
        rotate_left
        · simp only [Act.put, List.setIfInBounds_toArray, List.set_cons_zero, List.set_cons_succ, i64_w, i32_w]
          rfl
        refine pure_ (i := 11) (N := some 159) (v := ?_) (a' := ?_) #[false, true, true, true, true, false, true, true, true, true, true, true, false, false, false, false, false, false, false, false] rfl rfl (by kernel_rfl) (fun _ _ _ h => h) (Or.inl ⟨by rfl, ?_⟩) ?_ ?_
        rotate_left
        · intro w'
          go_simp
          with_reducible rfl
        rotate_left
        · simp only [Act.put, List.setIfInBounds_toArray, List.set_cons_zero, List.set_cons_succ, i64_w, i32_w]
          rfl
        refine pure_ (i := 12) (N := some 160) (v := ?_) (a' := ?_) #[false, true, true, true, true, false, true, true, true, true, true, true, true, false, false, false, false, false, false, false] rfl rfl (by kernel_rfl) (fun _ _ _ h => h) (Or.inl ⟨by rfl, ?_⟩) ?_ ?_
        rotate_left
        · intro w'
          go_simp
          with_reducible rfl
        rotate_left
        · simp only [Act.put, List.setIfInBounds_toArray, List.set_cons_zero, List.set_cons_succ, i64_w, i32_w]
          rfl
        refine take_ (i := 0) (N := some 148) (v := ?_) (a' := ?_) #[true, true, true, true, true, false, true, true, true, true, true, true, true, false, false, false, false, false, false, false] rfl rfl (by kernel_rfl) (fun _ _ _ h => h) (Or.inl ⟨by rfl, ?_⟩) hHeld ?_ ?_
        rotate_left
        · rintro w' ⟨s0, s1, s2, s3, s4, s5, s6⟩
          go_simp
          with_reducible rfl
        rotate_left
        · simp only [Act.put, List.setIfInBounds_toArray, List.set_cons_zero, List.set_cons_succ, i64_w, i32_w]
          rfl
        refine take_ (i := 5) (N := some 153) (v := ?_) (a' := ?_) #[true, true, true, true, true, true, true, true, true, true, true, true, true, false, false, false, false, false, false, false] rfl rfl (by kernel_rfl) (fun _ _ _ h => h) (Or.inl ⟨by rfl, ?_⟩) hHeld ?_ ?_
        rotate_left
        · rintro w' ⟨s0, s1, s2, s3, s4, s5, s6⟩
          go_simp
          with_reducible rfl
        rotate_left
        · simp only [Act.put, List.setIfInBounds_toArray, List.set_cons_zero, List.set_cons_succ, i64_w, i32_w]
          rfl
        refine take_ (i := 13) (N := some 161) (v := ?_) (a' := ?_) #[true, true, true, true, true, true, true, true, true, true, true, true, true, true, false, false, false, false, false, false] rfl rfl (by kernel_rfl) (fun _ _ _ h => h) (Or.inl ⟨by rfl, ?_⟩) hHeld ?_ ?_
        rotate_left
        · rintro w' ⟨s0, s1, s2, s3, s4, s5, s6⟩
          go_simp
          with_reducible rfl
        rotate_left
        · simp only [Act.put, List.setIfInBounds_toArray, List.set_cons_zero, List.set_cons_succ, i64_w, i32_w]
          rfl
        refine one_ (i := 14) (N := some 162) #[true, true, true, true, true, true, true, true, true, true, true, true, true, true, true, false, false, false, false, false] rfl rfl (by kernel_rfl) (by decide) (fun K hK => ?_)
        refine goes_ Try.func22 (by kernel_rfl) rfl #[.agg #[.slice A n c, .slice B m d], .int .i64 tt, .agg #[.int .i64 (wi i), .int .i64 (wk i)], .agg #[.int .i64 (wi jj), .int .i64 (wk jj)]] (by rfl) rfl rfl (by simp only [List.map_toArray, List.map_cons, List.map_nil]; rfl) ?_
        with_reducible refine (both_is n m A c B d L tt (wi i) (wk i) (wi jj) (wk jj) S _ ⟨hHeld.2.2.2.2.2.2.out.lv⟩ hk64 hj64 L2 k2 e2 hres2.out).mono ?_
        rintro e x1 ⟨S2, A2, c2, B2, d2, rfl, hl, hS, hb⟩
        refine ⟨_, rfl, ?_⟩
        have kz := Aside0.mk (hHeld.2.2.2.2.2.2.out.step hb)
        have hs2 : ¬ S2 bx ∧ ¬ S2 bm := ⟨fun h => (hS _ h).elim (hHeld.2.2.2.2.2.2.out.sn.1) (fun h => Nat.lt_irrefl _ (Nat.lt_of_lt_of_le hHeld.2.2.2.2.2.2.out.x.lt h)), fun h => (hS _ h).elim (hHeld.2.2.2.2.2.2.out.sn.2) (fun h => Nat.lt_irrefl _ (Nat.lt_of_lt_of_le hHeld.2.2.2.2.2.2.out.mo.lt h))⟩
        replace hl := Aside0.mk hl
        clear hHeld hb hS
        refine hK.out _ _ ⟨kz.out.k0, kz.out.k1, (hL.out _ kz.out.b i hlt.out).1, (hL.out _ kz.out.b i hlt.out).2, (hL.out _ kz.out.b jj hjl.out).1, (hL.out _ kz.out.b jj hjl.out).2, kz⟩ (fun hHeld => ?_)
        clear hK K
        refine norm_ (a' := ?_) ?_ ?_
        rotate_left
        · show Act.put _ (some 162) _ = _
          simp only [Act.put, List.setIfInBounds_toArray, List.set_cons_zero, List.set_cons_succ, i64_w, i32_w]
          rfl
        refine pure_ (i := 15) (N := some 147) (v := ?_) (a' := ?_) #[true, true, true, true, true, true, true, true, true, true, true, true, true, true, true, true, false, false, false, false] rfl rfl (by kernel_rfl) (fun _ _ _ h => h) (Or.inl ⟨by rfl, ?_⟩) ?_ ?_
        rotate_left
        · intro w'
          go_simp
          with_reducible rfl
        rotate_left
        · simp only [Act.put, List.setIfInBounds_toArray, List.set_cons_zero, List.set_cons_succ, i64_w, i32_w]
          rfl
        refine pure_ (i := 16) (N := some 163) (v := ?_) (a' := ?_) #[true, true, true, true, true, true, true, true, true, true, true, true, true, true, true, true, true, false, false, false] rfl rfl (by kernel_rfl) (fun _ _ _ h => h) (Or.inl ⟨by rfl, ?_⟩) ?_ ?_
        rotate_left
        · intro w'
          go_simp
          with_reducible rfl
        rotate_left
        · simp only [Act.put, List.setIfInBounds_toArray, List.set_cons_zero, List.set_cons_succ, i64_w, i32_w]
          rfl
        refine pure_ (i := 17) (N := some 164) (v := ?_) (a' := ?_) #[true, true, true, true, true, true, true, true, true, true, true, true, true, true, true, true, true, true, false, false] rfl rfl (by kernel_rfl) (fun _ _ _ h => h) (Or.inl ⟨by rfl, ?_⟩) ?_ ?_
        rotate_left
        · intro w'
          go_simp
          with_reducible rfl
        rotate_left
        · simp only [Act.put, List.setIfInBounds_toArray, List.set_cons_zero, List.set_cons_succ, i64_w, i32_w]
          rfl
        refine pure_ (i := 18) (N := some 165) (v := ?_) (a' := ?_) #[true, true, true, true, true, true, true, true, true, true, true, true, true, true, true, true, true, true, true, false] rfl rfl (by kernel_rfl) (fun _ _ _ h => h) (Or.inl ⟨by rfl, ?_⟩) ?_ ?_
        rotate_left
        · intro w'
          go_simp
          with_reducible rfl
        rotate_left
        · simp only [Act.put, List.setIfInBounds_toArray, List.set_cons_zero, List.set_cons_succ, i64_w, i32_w]
          rfl
        refine last_ (i := 19) (N := none) #[true, true, true, true, true, true, true, true, true, true, true, true, true, true, true, true, true, true, true, true] rfl rfl (by kernel_rfl) (by decide) (fun K hK => ?_)
        have hf0 := kz.out.x.z
        have hk0 := kz.out.k0
        have hk1 := kz.out.k1
        refine skip_ (w1 := ?_) (by rfl) rfl ?_ ?_
        rotate_left
        · go_simp
          rfl
        refine hK.out _ _ ?_
        clear hK K
        refine done_ (by kernel_rfl) ?_
        have N2 := Aside0.mk (kz.out.put hnv.out hl.out hs2)
        clear hf0 hk0 hk1 hHeld kz kd hl
        generalize (x1.setCell ⟨bx, 0, none⟩ (.slice A2 n c2)).setCell ⟨bx, 1, none⟩ (.slice B2 m d2) = W2 at N2 ⊢
        have y0 := N2.out.k0
        have y1 := N2.out.k1
        go_wp2_with (first | (go_at_call 10; (with_reducible refine (fine_lv N2.out.lv).mono ?_); rintro e wf ⟨rfl, hb⟩; have N3 := Aside0.mk (N2.out.step hb); clear hb))
        go_roundw
        case rel => exact ⟨i + 1, by have := hlt.out; omega, by simp, L2, T, S2, A2, c2, B2, d2, N3⟩
        case measure => have := hlt.out; simp [intOf]; omega
    · obtain rfl : i = N := by omega
      clear hwi
      have hgd := Aside0.mk (And.intro hnm.out.1 hnm.out.2.2.1)
      obtain ⟨ad, rfl, z1, z2⟩ := kn.out.lv.at_ (i := 0) (by omega) (by have := hgd.out; omega)
      obtain ⟨bd, az, rz, rfl, z3, z4, z5, z6⟩ := kn.out.lv.row_ (t := 0) (i := 0) (by omega) (by have := hgd.out; omega) (by omega) (by have := hgd.out; omega)
      clear z1 z2 z3 z4 z5 z6
      go_upto_region 28 with (fail)
      go_loopw [19, 20] (fun v19 v20 wr => ∃ j : Nat, j ≤ n ∧ v19 = .int .i64 j ∧ Aside0 (Nx n m bx bm hv i L T S (some ad) c (some bd) d w wr)) (fun v _ _ => n - (intOf v).toNat)
      case atStart => exact ⟨0, by omega, rfl, kn⟩
      case round =>
        clear kn
        obtain ⟨j, hj, rfl, kn⟩ := hrel
        have hwj : IntKind.i64.wrap ((j : Int) + 1) = (j : Int) + 1 := by have := hnm.out; rw [Go.IntKind.wrap_i64]; omega
        by_cases hjn : (j : Int) < n
        · obtain ⟨hc, ehc⟩ : ∃ x, rd L.hv (j : Int) = x := ⟨_, rfl⟩
          obtain ⟨mj, emj⟩ : ∃ x, T (j : Int) - hv = x := ⟨_, rfl⟩
          obtain ⟨tj, etj⟩ : ∃ x, T (j : Int) = x := ⟨_, rfl⟩
          have hjl : j < n := by omega
          have hTj : T (j : Int) ≤ 1000000000000 := by have h1 := kn.out.tb (j : Int) (by omega) hjn; have h2 := hN.out; omega
          have hcp : 0 ≤ hc := by rw [← ehc]; exact kn.out.nv.pa _ (rd_mem (by omega) (by rw [kn.out.nv.g.hn]; exact hjn))
          have hTp : 0 ≤ T (j : Int) := by have h1 := kn.out.nv.tot (j : Int) (by omega) hjn; have h2 := colS_pos kn.out.nv.pb (j : Int); omega
          have htot : tot0 n L (j : Int) = tj := by rw [tot0_in (by omega) hjn, kn.out.nv.totS (by omega) hjn hTj, etj]
          have hsum : IntKind.i64.wrap (hv + mj) = tj := by have := hnm.out; rw [Go.IntKind.wrap_i64]; omega
          have hng : ¬ hc < 0 := by omega
          have hngb : decide (hc < 0) = false := decide_eq_false hng
          replace ehc := Aside0.mk ehc
          replace emj := Aside0.mk emj
          replace htot := Aside0.mk htot
          replace hjl := Aside0.mk hjl
          clear etj hTj hTp
          go_upto_region 30 with (fail)
          have kd := Aside0.mk (kn.out.step (below_drew1 (Below.refl wr.heap.size wr)))
          clear kn
          refine start_ (n := 20) (S := fun w' => w'.cell? ⟨bx, 0, none⟩ = some (.slice (some ad) n c) ∧ w'.cell? ⟨bx, 1, none⟩ = some (.slice (some bd) m d) ∧ w'.cell? (ad.add j) = some (.int .i64 hc) ∧ w'.cell? ⟨bm, j, none⟩ = some (.int .i64 mj) ∧ Aside0 (Nx n m bx bm hv i L T S (some ad) c (some bd) d w w')) (ds := []) #[false, false, false, false, false, false, false, false, false, false, false, false, false, false, false, false, false, false, false, false] (by kernel_rfl) rfl rfl ⟨kd.out.k0, kd.out.k1, ((nx_hv kd.out hjl.out).trans (by rw [ehc.out])), ((kd.out.mo.e j hjl.out).trans (by rw [emj.out])), kd⟩ (fun hHeld => ?_)
          generalize wr.drew = V at kd hHeld ⊢
          refine pure_ (i := 0) (N := some 188) (v := ?_) (a' := ?_) #[true, false, false, false, false, false, false, false, false, false, false, false, false, false, false, false, false, false, false, false] rfl rfl (by kernel_rfl) (fun _ _ _ h => h) (Or.inl ⟨by rfl, ?_⟩) ?_ ?_
          rotate_left
          · intro w'
            go_simp
            with_reducible rfl
          rotate_left
          · simp only [Act.put, List.setIfInBounds_toArray, List.set_cons_zero, List.set_cons_succ, i64_w, i32_w]
            rfl
          refine pure_ (i := 2) (N := some 190) (v := ?_) (a' := ?_) #[true, false, true, false, false, false, false, false, false, false, false, false, false, false, false, false, false, false, false, false] rfl rfl (by kernel_rfl) (fun _ _ _ h => h) (Or.inl ⟨by rfl, ?_⟩) ?_ ?_
          rotate_left
          · intro w'
            go_simp
            with_reducible rfl
          rotate_left
          · simp only [Act.put, List.setIfInBounds_toArray, List.set_cons_zero, List.set_cons_succ, i64_w, i32_w]
            rfl
          refine take_ (i := 1) (N := some 189) (v := ?_) (a' := ?_) #[true, true, true, false, false, false, false, false, false, false, false, false, false, false, false, false, false, false, false, false] rfl rfl (by kernel_rfl) (fun _ _ _ h => h) (Or.inl ⟨by rfl, ?_⟩) hHeld ?_ ?_
          rotate_left
          · rintro w' ⟨s0, s1, s2, s3, s4⟩
            go_simp
            with_reducible rfl
          rotate_left
          · simp only [Act.put, List.setIfInBounds_toArray, List.set_cons_zero, List.set_cons_succ, i64_w, i32_w]
            rfl
          refine pure_ (i := 3) (N := some 191) (v := ?_) (a' := ?_) #[true, true, true, true, false, false, false, false, false, false, false, false, false, false, false, false, false, false, false, false] rfl rfl (by kernel_rfl) (fun _ _ _ h => h) (Or.inl ⟨by rfl, ?_⟩) ?_ ?_
          rotate_left
          · intro w'
            go_simp
            with_reducible rfl
          rotate_left
          · simp only [Act.put, List.setIfInBounds_toArray, List.set_cons_zero, List.set_cons_succ, i64_w, i32_w]
            rfl
          refine take_ (i := 4) (N := some 192) (v := ?_) (a' := ?_) #[true, true, true, true, true, false, false, false, false, false, false, false, false, false, false, false, false, false, false, false] rfl rfl (by kernel_rfl) (fun _ _ _ h => h) (Or.inl ⟨by rfl, ?_⟩) hHeld ?_ ?_
          rotate_left
          · rintro w' ⟨s0, s1, s2, s3, s4⟩
            go_simp
            with_reducible rfl
          rotate_left
          · simp only [Act.put, List.setIfInBounds_toArray, List.set_cons_zero, List.set_cons_succ, i64_w, i32_w]
            rfl
          refine pure_ (i := 5) (N := some 193) (v := ?_) (a' := ?_) #[true, true, true, true, true, true, false, false, false, false, false, false, false, false, false, false, false, false, false, false] rfl rfl (by kernel_rfl) (fun _ _ _ h => h) (Or.inl ⟨by rfl, ?_⟩) ?_ ?_
          rotate_left
          · intro w'
            go_simp
            with_reducible rfl
          rotate_left
          · simp only [Act.put, List.setIfInBounds_toArray, List.set_cons_zero, List.set_cons_succ, i64_w, i32_w]
            rfl
          refine pure_ (i := 6) (N := some 194) (v := ?_) (a' := ?_) #[true, true, true, true, true, true, true, false, false, false, false, false, false, false, false, false, false, false, false, false] rfl rfl (by kernel_rfl) (fun _ _ _ h => h) (Or.inl ⟨by rfl, ?_⟩) ?_ ?_
          rotate_left
          · intro w'
            go_simp
            with_reducible rfl
          rotate_left
          · simp only [Act.put, List.setIfInBounds_toArray, List.set_cons_zero, List.set_cons_succ, i64_w, i32_w]
            rfl
          refine pure_ (i := 9) (N := some 197) (v := ?_) (a' := ?_) #[true, true, true, true, true, true, true, false, false, true, false, false, false, false, false, false, false, false, false, false] rfl rfl (by kernel_rfl) (fun _ _ _ h => h) (Or.inl ⟨by rfl, ?_⟩) ?_ ?_
          rotate_left
          · intro w'
            go_simp
            with_reducible rfl
          rotate_left
          · simp only [Act.put, List.setIfInBounds_toArray, List.set_cons_zero, List.set_cons_succ, i64_w, i32_w]
            rfl
          refine pure_ (i := 11) (N := some 199) (v := ?_) (a' := ?_) #[true, true, true, true, true, true, true, false, false, true, false, true, false, false, false, false, false, false, false, false] rfl rfl (by kernel_rfl) (fun _ _ _ h => h) (Or.inl ⟨by rfl, ?_⟩) ?_ ?_
          rotate_left
          · intro w'
            go_simp
            with_reducible rfl
          rotate_left
          · simp only [Act.put, List.setIfInBounds_toArray, List.set_cons_zero, List.set_cons_succ, i64_w, i32_w]
            rfl
          refine pure_ (i := 12) (N := some 200) (v := ?_) (a' := ?_) #[true, true, true, true, true, true, true, false, false, true, false, true, true, false, false, false, false, false, false, false] rfl rfl (by kernel_rfl) (fun _ _ _ h => h) (Or.inl ⟨by rfl, ?_⟩) ?_ ?_
          rotate_left
          · intro w'
            go_simp
            with_reducible rfl
          rotate_left
          · simp only [Act.put, List.setIfInBounds_toArray, List.set_cons_zero, List.set_cons_succ, i64_w, i32_w]
            rfl
          refine pure_ (i := 13) (N := some 201) (v := ?_) (a' := ?_) #[true, true, true, true, true, true, true, false, false, true, false, true, true, true, false, false, false, false, false, false] rfl rfl (by kernel_rfl) (fun _ _ _ h => h) (Or.inl ⟨by rfl, ?_⟩) ?_ ?_
          rotate_left
          · intro w'
            go_simp
            with_reducible rfl
          rotate_left
          · simp only [Act.put, List.setIfInBounds_toArray, List.set_cons_zero, List.set_cons_succ, i64_w, i32_w]
            rfl
          refine pure_ (i := 14) (N := some 202) (v := ?_) (a' := ?_) #[true, true, true, true, true, true, true, false, false, true, false, true, true, true, true, false, false, false, false, false] rfl rfl (by kernel_rfl) (fun _ _ _ h => h) (Or.inl ⟨by rfl, ?_⟩) ?_ ?_
          rotate_left
          · intro w'
            go_simp
            with_reducible rfl
          rotate_left
          · simp only [Act.put, List.setIfInBounds_toArray, List.set_cons_zero, List.set_cons_succ, i64_w, i32_w]
            rfl
          refine pure_ (i := 15) (N := some 203) (v := ?_) (a' := ?_) #[true, true, true, true, true, true, true, false, false, true, false, true, true, true, true, true, false, false, false, false] rfl rfl (by kernel_rfl) (fun _ _ _ h => h) (Or.inl ⟨by rfl, ?_⟩) ?_ ?_
          rotate_left
          · intro w'
            go_simp
            with_reducible rfl
          rotate_left
          · simp only [Act.put, List.setIfInBounds_toArray, List.set_cons_zero, List.set_cons_succ, i64_w, i32_w]
            rfl
          refine take_ (i := 7) (N := some 195) (v := ?_) (a' := ?_) #[true, true, true, true, true, true, true, true, false, true, false, true, true, true, true, true, false, false, false, false] rfl rfl (by kernel_rfl) (fun _ _ _ h => h) (Or.inl ⟨by rfl, ?_⟩) hHeld ?_ ?_
          rotate_left
          · rintro w' ⟨s0, s1, s2, s3, s4⟩
            go_simp
            with_reducible rfl
          rotate_left
          · simp only [Act.put, List.setIfInBounds_toArray, List.set_cons_zero, List.set_cons_succ, i64_w, i32_w]
            rfl
          refine take_ (i := 16) (N := some 204) (v := ?_) (a' := ?_) #[true, true, true, true, true, true, true, true, false, true, false, true, true, true, true, true, true, false, false, false] rfl rfl (by kernel_rfl) (fun _ _ _ h => h) (Or.inl ⟨by rfl, ?_⟩) hHeld ?_ ?_
          rotate_left
          · rintro w' ⟨s0, s1, s2, s3, s4⟩
            go_simp
            with_reducible rfl
          rotate_left
          · simp only [Act.put, List.setIfInBounds_toArray, List.set_cons_zero, List.set_cons_succ, i64_w, i32_w]
            rfl
          refine pure_ (i := 17) (N := some 205) (v := ?_) (a' := ?_) #[true, true, true, true, true, true, true, true, false, true, false, true, true, true, true, true, true, true, false, false] rfl rfl (by kernel_rfl) (fun _ _ _ h => h) (Or.inl ⟨by rfl, ?_⟩) ?_ ?_
          rotate_left
          · intro w'
            go_simp
            with_reducible rfl
          rotate_left
          · simp only [Act.put, List.setIfInBounds_toArray, List.set_cons_zero, List.set_cons_succ, i64_w, i32_w]
            rfl
          refine one_ (i := 8) (N := some 196) #[true, true, true, true, true, true, true, true, true, true, false, true, true, true, true, true, true, true, false, false] rfl rfl (by kernel_rfl) (by decide) (fun K hK => ?_)
          refine goes_ Try.func12 (by kernel_rfl) rfl #[.agg #[.slice (some ad) n c, .slice (some bd) m d]] (by rfl) rfl rfl (by simp only [List.map_toArray, List.map_cons, List.map_nil]; rfl) ?_
          with_reducible refine (its_is (some ad) n c (some bd) m d _).mono ?_
          rintro e x1 ⟨rfl, hb⟩
          refine ⟨_, rfl, ?_⟩
          have kz := Aside0.mk (hHeld.2.2.2.2.out.step hb)
          clear hHeld hb
          refine hK.out _ _ ⟨kz.out.k0, kz.out.k1, ((nx_hv kz.out hjl.out).trans (by rw [ehc.out])), ((kz.out.mo.e j hjl.out).trans (by rw [emj.out])), kz⟩ (fun hHeld => ?_)
          clear hK K
          refine norm_ (a' := ?_) ?_ ?_
          rotate_left
          · show Act.put _ (some 196) _ = _
            simp only [Act.put, List.setIfInBounds_toArray, List.set_cons_zero, List.set_cons_succ, i64_w, i32_w]
            rfl
          refine one_ (i := 10) (N := some 198) #[true, true, true, true, true, true, true, true, true, true, true, true, true, true, true, true, true, true, false, false] rfl rfl (by kernel_rfl) (by decide) (fun K hK => ?_)
          refine goes_ Try.func27 (by kernel_rfl) rfl #[.agg #[.slice (some ad) n c, .slice (some bd) m d], .int .i64 (j : Int)] (by rfl) rfl rfl (by simp only [List.map_toArray, List.map_cons, List.map_nil]; rfl) ?_
          with_reducible refine (rtotal_v (j : Int) tj (hHeld.2.2.2.2.out.lv) htot.out).mono ?_
          rintro e x2 ⟨rfl, hb⟩
          refine ⟨_, rfl, ?_⟩
          have kz := Aside0.mk (hHeld.2.2.2.2.out.step hb)
          clear hHeld hb
          refine hK.out _ _ ⟨kz.out.k0, kz.out.k1, ((nx_hv kz.out hjl.out).trans (by rw [ehc.out])), ((kz.out.mo.e j hjl.out).trans (by rw [emj.out])), kz⟩ (fun hHeld => ?_)
          clear hK K
          refine norm_ (a' := ?_) ?_ ?_
          rotate_left
          · show Act.put _ (some 198) _ = _
            simp only [Act.put, List.setIfInBounds_toArray, List.set_cons_zero, List.set_cons_succ, i64_w, i32_w]
            rfl
          refine pure_ (i := 18) (N := some 206) (v := ?_) (a' := ?_) #[true, true, true, true, true, true, true, true, true, true, true, true, true, true, true, true, true, true, true, false] rfl rfl (by kernel_rfl) (fun _ _ _ h => h) (Or.inl ⟨by rfl, ?_⟩) ?_ ?_
          rotate_left
          · intro w'
            go_simp
            with_reducible rfl
          rotate_left
          · simp only [Act.put, List.setIfInBounds_toArray, List.set_cons_zero, List.set_cons_succ, i64_w, i32_w]
            rfl
          refine pure_ (i := 19) (N := some 207) (v := ?_) (a' := ?_) #[true, true, true, true, true, true, true, true, true, true, true, true, true, true, true, true, true, true, true, true] rfl rfl (by kernel_rfl) (fun _ _ _ h => h) (Or.inl ⟨by rfl, ?_⟩) ?_ ?_
          rotate_left
          · intro w'
            go_simp
            with_reducible rfl
          rotate_left
          · simp only [Act.put, List.setIfInBounds_toArray, List.set_cons_zero, List.set_cons_succ, i64_w, i32_w]
            rfl
          refine done_ (by kernel_rfl) ?_
          have kn := hHeld.2.2.2.2
          clear hHeld kd kz hsum hng hngb
          go_upto_region 33 with (fail)
          go_loopw [20] (fun v20 wr => ∃ t : Nat, t ≤ m ∧ v20 = .int .i64 t ∧ Aside0 (Nx n m bx bm hv i L T S (some ad) c (some bd) d w wr)) (fun v _ => m - (intOf v).toNat)
          case atStart => exact ⟨0, by omega, rfl, kn⟩
          case round =>
            clear kn
            obtain ⟨t, ht, rfl, kn⟩ := hrel
            have hwt : IntKind.i64.wrap ((t : Int) + 1) = (t : Int) + 1 := by have := hnm.out; rw [Go.IntKind.wrap_i64]; omega
            by_cases htm : (t : Int) < m
            · obtain ⟨bz, az, rz, eB, _, h1, _, h2⟩ := kn.out.lv.row_ (t := (t : Int)) (i := (j : Int)) (by omega) htm (by omega) hjn
              cases eB
              rw [Int.toNat_natCast] at h1 h2
              have hr := row_mem (hd := L.hd) (t := (t : Int)) (by omega) (by rw [kn.out.nv.g.hm]; exact htm)
              have hyp := kn.out.nv.pb _ hr _ (rd_mem (i := (j : Int)) (by omega) (by rw [kn.out.nv.g.rows _ hr]; exact hjn))
              obtain ⟨y, hy⟩ : ∃ y, rd (row L.hd (t : Int)) (j : Int) = y := ⟨_, rfl⟩
              rw [hy] at h2 hyp
              have hyn : ¬ y < 0 := by omega
              have y1 := kn.out.k1
              clear hr hy
              go_wp2
              go_roundw
              case rel => exact ⟨t + 1, by omega, by simp, kn⟩
              case measure => simp [intOf]; omega
            · go_wp2
              go_roundw
              case rel => exact ⟨j + 1, by omega, by simp, kn⟩
              case measure => simp [intOf]; omega
        · go_wp2
          go_ret
          exact ⟨rfl, kn.out.b⟩
set_option maxHeartbeats 8000000 in
set_option maxRecDepth 100000 in
theorem never_long (tx ty hv : Int) (A3 : Option Addr) (N c3 : Nat) (A4 : Option Addr) (M c4 : Nat) (w : World) (hxy : Aside0 (0 ≤ tx ∧ tx ≤ 255 ∧ 0 ≤ ty ∧ ty ≤ 255)) (h : (N : Int) > 100 ∨ (M : Int) < (N : Int)) :
    Calls Try.prog 9 #[.int .u8 tx, .int .u8 ty, .int .u16 hv, .slice A3 N c3, .slice A4 M c4] w fun e w' => e = .returned (.bool true) ∧ Below w.heap.size w w' := by
  by_cases h1 : (N : Int) > 100
  · clear h
    go_enter Try.func9, Try.ntmps9
    go_wp2_with (first | (go_at_call 11; (with_reducible refine (shown_is _).mono ?_); rintro e wg ⟨rfl, hb⟩; have HB := Aside0.mk hb; clear hb))
    go_ret
    exact ⟨rfl, HB.out⟩
  · have h2 : (M : Int) < (N : Int) := by omega
    clear h
    go_enter Try.func9, Try.ntmps9
    go_wp2_with (first | (go_at_call 11; (with_reducible refine (shown_is _).mono ?_); rintro e wg ⟨rfl, hb⟩; have HB := Aside0.mk hb; clear hb))
    go_ret
    exact ⟨rfl, HB.out⟩
/-- Wants that came in. -/
structure WL (A : Option Addr) (N : Nat) (b o : Nat) (wi wk : Nat → Int) (w : World) : Prop where
  a : 0 < N → A = some ⟨b, o, none⟩
  c : ∀ i, i < N → w.cell? ⟨b, o + i * 2, none⟩ = some (.int .i64 (wi i)) ∧ w.cell? ⟨b, o + i * 2 + 1, none⟩ = some (.int .i64 (wk i))
  k : ∀ i, i < N → I64 (wk i)
/-- Small numbers that came in. -/
structure UL (A : Option Addr) (N : Nat) (b o : Nat) (q : Nat → Int) (w : World) : Prop where
  a : 0 < N → A = some ⟨b, o, none⟩
  c : ∀ i, i < N → w.cell? ⟨b, o + i, none⟩ = some (.int .u8 (q i))
  k : ∀ i, i < N → 0 ≤ q i ∧ q i ≤ 255
theorem never_law (tx ty hv : Int) (A3 : Option Addr) (N c3 : Nat) (A4 : Option Addr) (M c4 : Nat) (w : World) (hx : 0 ≤ tx ∧ tx ≤ 255) (hy : 0 ≤ ty ∧ ty ≤ 255) (hh : 0 ≤ hv ∧ hv ≤ 65535) (hl : ∃ b o wi wk, WL A3 N b o wi wk w) (hq : ∃ b o q, UL A4 M b o q w) :
    Calls Try.prog 9 #[.int .u8 tx, .int .u8 ty, .int .u16 hv, .slice A3 N c3, .slice A4 M c4] w fun e w' => e = .returned (.bool true) ∧ Below w.heap.size w w' := by
  obtain ⟨b3, o3, wi, wk, hl⟩ := hl
  obtain ⟨b4, o4, q, hq⟩ := hq
  by_cases h1 : (N : Int) > 100 ∨ (M : Int) < (N : Int)
  · exact never_long tx ty hv A3 N c3 A4 M c4 w ⟨⟨hx.1, hx.2, hy.1, hy.2⟩⟩ h1
  · have g1 : ¬ (N : Int) > 100 := by omega
    have g2 : ¬ (M : Int) < (N : Int) := by omega
    have hNM : N ≤ 100 ∧ N ≤ M := by omega
    obtain ⟨r1, hr1⟩ : ∃ r, tx.tmod 4 = r := ⟨_, rfl⟩
    obtain ⟨r2, hr2⟩ : ∃ r, ty.tmod 5 = r := ⟨_, rfl⟩
    have k1 : 0 ≤ r1 ∧ r1 < 4 := by rw [← hr1]; exact ⟨Int.tmod_nonneg _ hx.1, Int.tmod_lt_of_pos _ (by decide)⟩
    have k2 : 0 ≤ r2 ∧ r2 < 5 := by rw [← hr2]; exact ⟨Int.tmod_nonneg _ hy.1, Int.tmod_lt_of_pos _ (by decide)⟩
    obtain ⟨n, hn⟩ := Int.eq_ofNat_of_zero_le (show 0 ≤ 1 + r1 by omega)
    obtain ⟨m, hm⟩ := Int.eq_ofNat_of_zero_le (show 0 ≤ 1 + r2 by omega)
    have e1 : nN (n : Int) (m : Int) = n := by unfold nN; rw [if_neg (by omega), Int.toNat_natCast]
    have e2 : nM (n : Int) (m : Int) = m := by unfold nM; rw [if_neg (by omega), Int.toNat_natCast]
    have hI : I64 hv := by unfold I64; omega
    have hMk : Mk 24 n m n m hv (newL n m hv) := fun w => by
      have := new_is (n : Int) (m : Int) hv hI w
      rw [e1, e2] at this
      exact this
    refine never_ok tx ty hv r1 r2 n m A3 N c3 A4 M c4 b3 o3 b4 o4 wi wk q (newL n m hv) w ⟨fun h => ⟨hl.a h, hq.a (by omega)⟩⟩ ⟨hNM⟩ g1 g2 hr1 (by rw [Go.IntKind.wrap_i64]; omega) (by rw [hr1, Go.IntKind.wrap_i64]; omega) (by rw [hn, Go.IntKind.wrap_i64]; omega) hr2 (by rw [Go.IntKind.wrap_i64]; omega) (by rw [hr2, Go.IntKind.wrap_i64]; omega) (by rw [hm, Go.IntKind.wrap_i64]; omega) (by rw [Go.IntKind.wrap_i64]; omega) (by simp; omega) (by omega) ⟨by omega⟩ ⟨hMk⟩ ⟨newL_nv hh.1 hI (by omega) (by omega)⟩ ⟨fun W hb i hi => ?_⟩ ⟨fun W hb i hi => ?_⟩ ⟨fun i hi => hq.k i (by omega)⟩ ⟨fun i hi => hl.k i hi⟩
    · have h2 := hl.c i hi
      exact ⟨(hb.cell (p := ⟨b3, o3 + i * 2, none⟩) (cell_blk h2.1)).trans h2.1, (hb.cell (p := ⟨b3, o3 + i * 2 + 1, none⟩) (cell_blk h2.2)).trans h2.2⟩
    · have h2 := hq.c i (by omega)
      exact (hb.cell (p := ⟨b4, o4 + i, none⟩) (cell_blk h2)).trans h2
end Go.Proofs.Ytlgoincnopfnjaa.Led
