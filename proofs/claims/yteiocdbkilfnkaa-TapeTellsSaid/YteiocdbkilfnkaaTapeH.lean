/- Contracts of the reference's tape. -/
import Derived.Test.YteiocdbkilfnkaaTapeG
import Derived.BigRegion
import Derived.StillTailTactics
namespace Go.Proofs.Yteiocdbkilfnkaa.Tape
open Go Go.RowKit Go.Conc Go.Proofs.YteiocdbkilfnkaaW.PrintWords Go.Proofs.YteiocdbkilfnkaaW.PrintMore
attribute [local go_sem] max2_int min2_int max_two min_two

theorem its_any (A : Option Addr) (n c : Nat) (x : Int) (w : World) :
    Calls Try.prog 24 #[.agg #[.slice A n c, .int .i64 x]] w fun e w' => e = .returned (.agg #[.slice A n c, .int .i64 x]) ∧ Below w.heap.size w w' := by
  go_enter Try.func24, Try.ntmps24
  go_wp2
  refine bodyPost_ret (v := .agg #[.slice A n c, .int .i64 x]) (by simp [results, Try.results24, go_sem]) rfl ⟨rfl, ?_⟩
  exact ((Below.refl w.heap.size w).alloc (Nat.le_refl _) _).alloc (by simp) _
theorem rleft_any (A : Option Addr) (n c : Nat) (x v : Int) (w : World) (hx : Hid (-9223372036854775808 ≤ x ∧ x ≤ 9223372036854775807)) (hn : Hid ((n : Int) ≤ 9223372036854775807)) (hl : Hid (leftS n x = v)) :
    Calls Try.prog 29 #[.agg #[.slice A n c, .int .i64 x]] w fun e w' => e = .returned (.int .i64 v) ∧ Below w.heap.size w w' := by
  have h0 := hx.out.1
  have h1 := hx.out.2
  have hn' := hn.out
  have HB := Aside0.mk (Below.refl w.heap.size w)
  by_cases h : x < 0
  · obtain rfl : 0 = v := by have := hl.out; unfold leftS at this; rw [if_pos h] at this; exact this
    clear hl
    go_enter Try.func29, Try.ntmps29
    go_wp2
    go_ret
    exact ⟨rfl, below_alloc HB.out _⟩
  · by_cases h2 : (n : Int) ≤ x
    · obtain rfl : 0 = v := by have := hl.out; unfold leftS at this; rw [if_neg h, if_neg (by omega)] at this; exact this
      clear hl
      go_enter Try.func29, Try.ntmps29
      go_wp2
      go_ret
      exact ⟨rfl, below_alloc HB.out _⟩
    · obtain rfl : (n : Int) - x = v := by have := hl.out; unfold leftS at this; rw [if_neg h, if_pos (by omega)] at this; exact this
      clear hl
      go_enter Try.func29, Try.ntmps29
      go_wp2
      go_ret
      exact ⟨rfl, below_alloc HB.out _⟩
theorem rnext_none (A : Option Addr) (n c : Nat) (x : Int) (w : World) (h : x < 0 ∨ (n : Int) ≤ x) :
    Calls Try.prog 23 #[.agg #[.slice A n c, .int .i64 x]] w fun e w' => e = .returned (.tuple #[.int .i64 0, .agg #[.slice A n c, .int .i64 x]]) ∧ Below w.heap.size w w' := by
  have HB := Aside0.mk (((Below.refl w.heap.size w).alloc (Nat.le_refl _) (.cells #[.slice A n c, .int .i64 x] 32)).alloc (by simp) (.cells #[.slice A n c, .int .i64 x] 32))
  rcases h with h | h
  · go_enter Try.func23, Try.ntmps23
    go_wp2
    go_region
    go_wp2
    refine bodyPost_ret (v := .tuple #[.int .i64 0, .agg #[.slice A n c, .int .i64 x]]) (by simp [results, Try.results23, go_sem]) rfl ⟨rfl, ?_⟩
    exact below_drew1 HB.out
  · have h2 : ¬ x < 0 := by omega
    go_enter Try.func23, Try.ntmps23
    go_wp2
    go_region
    go_wp2
    refine bodyPost_ret (v := .tuple #[.int .i64 0, .agg #[.slice A n c, .int .i64 x]]) (by simp [results, Try.results23, go_sem]) rfl ⟨rfl, ?_⟩
    exact below_drew1 HB.out
theorem rnext_some (b off n c i : Nat) (d : Int) (w : World) (hi : i < n) (hn : Hid ((n : Int) ≤ 9223372036854775807)) (hb : b < w.heap.size) (hc : w.cell? ⟨b, off + i, none⟩ = some (.int .i64 d)) :
    Calls Try.prog 23 #[.agg #[.slice (some ⟨b, off, none⟩) n c, .int .i64 (i : Int)]] w fun e w' => e = .returned (.tuple #[.int .i64 d, .agg #[.slice (some ⟨b, off, none⟩) n c, .int .i64 ((i : Int) + 1)]]) ∧ Below w.heap.size w w' := by
  have hn' := hn.out
  have h1 : (i : Int) < (n : Int) := by omega
  have h2 : ¬ (i : Int) < 0 := by omega
  have h3 : ¬ (n : Int) ≤ (i : Int) := by omega
  have hw : IntKind.i64.wrap ((i : Int) + 1) = (i : Int) + 1 := by rw [Go.IntKind.wrap_i64]; omega
  have hc2 : ((w.alloc (.cells #[.slice (some ⟨b, off, none⟩) n c, .int .i64 (i : Int)] 32)).alloc (.cells #[.slice none 0 0, .int .i64 0] 32)).cell? ⟨b, off + i, none⟩ = some (.int .i64 d) :=
    ((((Below.refl w.heap.size w).alloc (Nat.le_refl _) _).alloc (by simp) _).cell (p := ⟨b, off + i, none⟩) hb).trans hc
  have HB := Aside0.mk (((Below.refl w.heap.size w).alloc (Nat.le_refl _) (.cells #[.slice (some ⟨b, off, none⟩) n c, .int .i64 (i : Int)] 32)).alloc (by simp) (.cells #[.slice (some ⟨b, off, none⟩) n c, .int .i64 ((i : Int) + 1)] 32))
  go_enter Try.func23, Try.ntmps23
  go_wp2
  go_region
  go_wp2
  refine bodyPost_ret (v := .tuple #[.int .i64 d, .agg #[.slice (some ⟨b, off, none⟩) n c, .int .i64 ((i : Int) + 1)]]) (by simp [results, Try.results23, go_sem]) rfl ⟨rfl, ?_⟩
  exact below_drew1 HB.out
theorem rnext_is (A : Option Addr) (n c : Nat) (xs : Nat → Int) (x D Y : Int) (w : World) (hR : Reads A n xs w) (hn : Hid ((n : Int) ≤ 9223372036854775807)) (hD : Hid (nextD n xs x = D)) (hY : Hid (nextY n x = Y)) :
    Calls Try.prog 23 #[.agg #[.slice A n c, .int .i64 x]] w fun e w' => e = .returned (.tuple #[.int .i64 D, .agg #[.slice A n c, .int .i64 Y]]) ∧ Below w.heap.size w w' := by
  rw [← hD.out, ← hY.out]
  unfold nextD nextY
  by_cases h : 0 ≤ x ∧ x < n
  · rw [if_pos h, if_pos h]
    rcases hR with h2 | ⟨b, off, rfl, h2, h3⟩
    · omega
    · obtain ⟨i, rfl⟩ : ∃ i : Nat, x = i := ⟨x.toNat, by omega⟩
      exact rnext_some b off n c i (xs i) w (by omega) hn h2 (h3 i (by omega))
  · rw [if_neg h, if_neg h]
    exact rnext_none A n c x w (by omega)
theorem rbelow_low (A : Option Addr) (n c : Nat) (x m : Int) (w : World) (hm : m < 1) :
    Calls Try.prog 26 #[.agg #[.slice A n c, .int .i64 x], .int .i64 m] w fun e w' => e = .returned (.tuple #[.int .i64 0, .agg #[.slice A n c, .int .i64 x]]) ∧ Below w.heap.size w w' := by
  go_enter Try.func26, Try.ntmps26
  go_wp2
  go_region
  go_wp2
  refine bodyPost_ret (v := .tuple #[.int .i64 0, .agg #[.slice A n c, .int .i64 x]]) (by simp [results, Try.results26, go_sem]) rfl ⟨rfl, ?_⟩
  exact below_drew1 (((Below.refl w.heap.size w).alloc (Nat.le_refl _) _).alloc (by simp) _)
theorem rbelow_next (A : Option Addr) (n c : Nat) (x y d m r : Int) (w : World) (hm : 1 ≤ m) (hm2 : m ≤ 9223372036854775807) (hr : Hid (d % m = r))
    (hN : ∀ w1 : World, Below w.heap.size w w1 → Calls Try.prog 23 #[.agg #[.slice A n c, .int .i64 x]] w1 fun e w' => e = .returned (.tuple #[.int .i64 d, .agg #[.slice A n c, .int .i64 y]]) ∧ Below w1.heap.size w1 w') :
    Calls Try.prog 26 #[.agg #[.slice A n c, .int .i64 x], .int .i64 m] w fun e w' => e = .returned (.tuple #[.int .i64 r, .agg #[.slice A n c, .int .i64 y]]) ∧ Below w.heap.size w w' := by
  have hN' := Aside0.mk hN
  clear hN
  have ht1 : -m < d.tmod m := tmod_low d m hm
  have ht2 : d.tmod m < m := Int.tmod_lt_of_pos d (by omega)
  by_cases h : d.tmod m < 0
  · have hr' : d.tmod m + m = r := by rw [← hr.out, emod_of_tmod d m hm, if_pos h]
    subst hr'
    clear hr
    go_enter Try.func26, Try.ntmps26
    go_wp2_with (go_at_call 23; (with_reducible refine (hN'.out _ (((Below.refl w.heap.size w).alloc (Nat.le_refl _) _).alloc (by simp) _)).mono ?_); rintro e w1 ⟨rfl, hB⟩)
    have hsz := hB.size
    simp only [World.size_alloc] at hsz
    have hx2 : w1.cell? ⟨w.heap.size + 1, 0, none⟩ = some (.slice none 0 0) := (hB.cell (p := ⟨w.heap.size + 1, 0, none⟩) (by simp)).trans (by simp)
    have hx3 : w1.cell? ⟨w.heap.size + 1, 1, none⟩ = some (.int .i64 0) := (hB.cell (p := ⟨w.heap.size + 1, 1, none⟩) (by simp)).trans (by simp)
    have hf0 : w1.frozen? ⟨w.heap.size + 1, 0, none⟩ = false := (hB.frozen (p := ⟨w.heap.size + 1, 0, none⟩) (by simp)).trans (by simp)
    have hf1 : w1.frozen? ⟨w.heap.size + 1, 1, none⟩ = false := (hB.frozen (p := ⟨w.heap.size + 1, 1, none⟩) (by simp)).trans (by simp)
    have HB := below_step (((Below.refl w.heap.size w).alloc (Nat.le_refl _) _).alloc (by simp) _) hB
    have hlt : w.heap.size + 1 < w1.heap.size := by omega
    have hlt2 : ¬ w1.heap.size = w.heap.size + 1 := by omega
    have hlt3 : ¬ w.heap.size + 1 = w1.heap.size := by omega
    have hz0 : (w1.alloc (.cells #[.slice A n c, .int .i64 y] 32)).cell? ⟨w.heap.size + 1, 0, none⟩ = some (.slice none 0 0) := (((Below.refl w1.heap.size w1).alloc (Nat.le_refl _) _).cell (p := ⟨w.heap.size + 1, 0, none⟩) hlt).trans hx2
    have hz1 : (w1.alloc (.cells #[.slice A n c, .int .i64 y] 32)).cell? ⟨w.heap.size + 1, 1, none⟩ = some (.int .i64 0) := (((Below.refl w1.heap.size w1).alloc (Nat.le_refl _) _).cell (p := ⟨w.heap.size + 1, 1, none⟩) hlt).trans hx3
    have hz2 : (w1.alloc (.cells #[.slice A n c, .int .i64 y] 32)).frozen? ⟨w.heap.size + 1, 0, none⟩ = false := (((Below.refl w1.heap.size w1).alloc (Nat.le_refl _) _).frozen (p := ⟨w.heap.size + 1, 0, none⟩) hlt).trans hf0
    have hz3 : (w1.alloc (.cells #[.slice A n c, .int .i64 y] 32)).frozen? ⟨w.heap.size + 1, 1, none⟩ = false := (((Below.refl w1.heap.size w1).alloc (Nat.le_refl _) _).frozen (p := ⟨w.heap.size + 1, 1, none⟩) hlt).trans hf1
    go_wp2
    go_region
    go_wp2
    refine bodyPost_ret (v := .tuple #[.int .i64 (d.tmod m + m), .agg #[.slice A n c, .int .i64 y]]) (by simp [results, Try.results26, go_sem, hx2, hx3, cell_alloc_lt, hlt]) rfl ⟨rfl, ?_⟩
    exact below_drew1 (((HB.setCell (by simp) _).setCell (by simp) _).alloc (by simp; omega) _)
  · have hr' : d.tmod m = r := by rw [← hr.out, emod_of_tmod d m hm, if_neg h]
    subst hr'
    clear hr
    go_enter Try.func26, Try.ntmps26
    go_wp2_with (go_at_call 23; (with_reducible refine (hN'.out _ (((Below.refl w.heap.size w).alloc (Nat.le_refl _) _).alloc (by simp) _)).mono ?_); rintro e w1 ⟨rfl, hB⟩)
    have hsz := hB.size
    simp only [World.size_alloc] at hsz
    have hx2 : w1.cell? ⟨w.heap.size + 1, 0, none⟩ = some (.slice none 0 0) := (hB.cell (p := ⟨w.heap.size + 1, 0, none⟩) (by simp)).trans (by simp)
    have hx3 : w1.cell? ⟨w.heap.size + 1, 1, none⟩ = some (.int .i64 0) := (hB.cell (p := ⟨w.heap.size + 1, 1, none⟩) (by simp)).trans (by simp)
    have hf0 : w1.frozen? ⟨w.heap.size + 1, 0, none⟩ = false := (hB.frozen (p := ⟨w.heap.size + 1, 0, none⟩) (by simp)).trans (by simp)
    have hf1 : w1.frozen? ⟨w.heap.size + 1, 1, none⟩ = false := (hB.frozen (p := ⟨w.heap.size + 1, 1, none⟩) (by simp)).trans (by simp)
    have HB := below_step (((Below.refl w.heap.size w).alloc (Nat.le_refl _) _).alloc (by simp) _) hB
    have hlt : w.heap.size + 1 < w1.heap.size := by omega
    have hlt2 : ¬ w1.heap.size = w.heap.size + 1 := by omega
    have hlt3 : ¬ w.heap.size + 1 = w1.heap.size := by omega
    have hz0 : (w1.alloc (.cells #[.slice A n c, .int .i64 y] 32)).cell? ⟨w.heap.size + 1, 0, none⟩ = some (.slice none 0 0) := (((Below.refl w1.heap.size w1).alloc (Nat.le_refl _) _).cell (p := ⟨w.heap.size + 1, 0, none⟩) hlt).trans hx2
    have hz1 : (w1.alloc (.cells #[.slice A n c, .int .i64 y] 32)).cell? ⟨w.heap.size + 1, 1, none⟩ = some (.int .i64 0) := (((Below.refl w1.heap.size w1).alloc (Nat.le_refl _) _).cell (p := ⟨w.heap.size + 1, 1, none⟩) hlt).trans hx3
    have hz2 : (w1.alloc (.cells #[.slice A n c, .int .i64 y] 32)).frozen? ⟨w.heap.size + 1, 0, none⟩ = false := (((Below.refl w1.heap.size w1).alloc (Nat.le_refl _) _).frozen (p := ⟨w.heap.size + 1, 0, none⟩) hlt).trans hf0
    have hz3 : (w1.alloc (.cells #[.slice A n c, .int .i64 y] 32)).frozen? ⟨w.heap.size + 1, 1, none⟩ = false := (((Below.refl w1.heap.size w1).alloc (Nat.le_refl _) _).frozen (p := ⟨w.heap.size + 1, 1, none⟩) hlt).trans hf1
    go_wp2
    go_region
    go_wp2
    refine bodyPost_ret (v := .tuple #[.int .i64 (d.tmod m), .agg #[.slice A n c, .int .i64 y]]) (by simp [results, Try.results26, go_sem, hx2, hx3, cell_alloc_lt, hlt]) rfl ⟨rfl, ?_⟩
    exact below_drew1 (((HB.setCell (by simp) _).setCell (by simp) _).alloc (by simp; omega) _)
theorem rbelow_is (A : Option Addr) (n c : Nat) (xs : Nat → Int) (x m D Y : Int) (w : World) (hR : Reads A n xs w) (hn : Hid ((n : Int) ≤ 9223372036854775807)) (hm : Hid (m ≤ 9223372036854775807)) (hD : Hid (belowD n xs x m = D)) (hY : Hid (belowY n x m = Y)) :
    Calls Try.prog 26 #[.agg #[.slice A n c, .int .i64 x], .int .i64 m] w fun e w' => e = .returned (.tuple #[.int .i64 D, .agg #[.slice A n c, .int .i64 Y]]) ∧ Below w.heap.size w w' := by
  rw [← hD.out, ← hY.out]
  unfold belowD belowY
  by_cases h : m < 1
  · rw [if_pos h, if_pos h]
    exact rbelow_low A n c x m w h
  · rw [if_neg h, if_neg h]
    exact rbelow_next A n c x (nextY n x) (nextD n xs x) m _ w (by omega) hm.out rfl fun w1 hb => rnext_is A n c xs x _ _ w1 (hR.below hb) hn rfl rfl
/-- The same tape twice is the same. -/
theorem same_is (A : Option Addr) (n c : Nat) (xs : Nat → Int) (x : Int) (w : World) (hR : Aside0 (Reads A n xs w)) (hn : (n : Int) ≤ 9223372036854775807) :
    Calls Try.prog 27 #[.agg #[.slice A n c, .int .i64 x], .agg #[.slice A n c, .int .i64 x]] w fun e w' => e = .returned (.bool true) ∧ Below w.heap.size w w' := by
  have hBX : Aside0 (BX w.heap.size A n c x ((w.alloc (.cells #[.slice A n c, .int .i64 x] 32)).alloc (.cells #[.slice A n c, .int .i64 x] 32)) ∧ BX (w.heap.size + 1) A n c x ((w.alloc (.cells #[.slice A n c, .int .i64 x] 32)).alloc (.cells #[.slice A n c, .int .i64 x] 32)) ∧ Below w.heap.size w ((w.alloc (.cells #[.slice A n c, .int .i64 x] 32)).alloc (.cells #[.slice A n c, .int .i64 x] 32))) :=
    Aside0.mk ⟨(BX.new w 32).alloc _, by have h := BX.new (A := A) (n := n) (c := c) (x := x) (w.alloc (.cells #[.slice A n c, .int .i64 x] 32)) 32; rw [World.size_alloc] at h; exact h, ((Below.refl w.heap.size w).alloc (Nat.le_refl _) _).alloc (by simp) _⟩
  go_enter Try.func27, Try.ntmps27
  go_upto_region 4 with fail
  generalize (w.alloc (.cells #[.slice A n c, .int .i64 x] 32)).alloc (.cells #[.slice A n c, .int .i64 x] 32) = W0 at hBX ⊢
  go_loopw [5] (fun i wr => ∃ k : Nat, k ≤ n ∧ i = .int .i64 k ∧ Aside0 (BX w.heap.size A n c x wr ∧ BX (w.heap.size + 1) A n c x wr ∧ Below w.heap.size w wr)) (fun i _ => n - (intOf i).toNat)
  case atStart => exact ⟨0, Nat.zero_le _, rfl, hBX⟩
  case round =>
    clear hBX
    obtain ⟨k, hk, rfl, hX⟩ := hrel
    obtain ⟨⟨_, p0, p1⟩, ⟨_, q0, q1⟩, hb⟩ := hX.out
    have hb := Aside0.mk hb
    by_cases hlt : k < n
    · rcases hR.out with h9 | ⟨b, off, rfl, hbz, hcell⟩
      · omega
      have c9 := (hb.out.cell (p := ⟨b, off + k, none⟩) hbz).trans (hcell k hlt)
      clear hcell
      have g1 : (k : Int) < (n : Int) := by omega
      go_wp2
      go_quiet (fail)
      go_wp2
      go_roundw
      case rel => exact ⟨k + 1, by omega, by go_num, Aside0.mk ⟨hX.out.1.drewN _, hX.out.2.1.drewN _, pw_below_drewN hb.out _⟩⟩
      case measure => simp [intOf]; omega
    · have g1 : ¬ (k : Int) < (n : Int) := by omega
      go_wp2
      go_ret
      exact ⟨rfl, hb.out⟩
set_option maxHeartbeats 2000000 in
theorem rskip_is (A : Option Addr) (n c : Nat) (xs : Nat → Int) (x m Y : Int) (w : World) (hR : Aside0 (Reads A n xs w)) (hx : Hid (-9223372036854775808 ≤ x ∧ x ≤ 9223372036854775807)) (hn : Hid ((n : Int) ≤ 9223372036854775807)) (hY : Hid (skipY n x m = Y)) :
    Calls Try.prog 31 #[.agg #[.slice A n c, .int .i64 x], .int .i64 m] w fun e w' => e = .returned (.agg #[.slice A n c, .int .i64 Y]) ∧ Below w.heap.size w w' := by
  have hX0 : Aside0 (BF w.heap.size A n c (x + (0 : Nat)) ((w.alloc (.cells #[.slice A n c, .int .i64 x] 32)).alloc (.cells #[.slice none 0 0, .int .i64 0] 32)) ∧ BF (w.heap.size + 1) none 0 0 0 ((w.alloc (.cells #[.slice A n c, .int .i64 x] 32)).alloc (.cells #[.slice none 0 0, .int .i64 0] 32)) ∧ Below w.heap.size w ((w.alloc (.cells #[.slice A n c, .int .i64 x] 32)).alloc (.cells #[.slice none 0 0, .int .i64 0] 32))) := by
    refine Aside0.mk ⟨?_, ?_, ((Below.refl w.heap.size w).alloc (Nat.le_refl _) _).alloc (by simp) _⟩
    · rw [show x + ((0 : Nat) : Int) = x from by omega]
      exact (BF.new w 32).alloc _
    · have h := BF.new (A := none) (n := 0) (c := 0) (x := 0) (w.alloc (.cells #[.slice A n c, .int .i64 x] 32)) 32
      rw [World.size_alloc] at h
      exact h
  have lb := leftS_bound n x
  have lb := Aside0.mk lb
  go_enter Try.func31, Try.ntmps31
  go_upto_region 2 with fail
  generalize (w.alloc (.cells #[.slice A n c, .int .i64 x] 32)).alloc (.cells #[.slice none 0 0, .int .i64 0] 32) = W0 at hX0 ⊢
  go_loopw [5] (fun i wr => ∃ k : Nat, (k : Int) ≤ leftS n x ∧ ((k : Int) ≤ m ∨ k = 0) ∧ i = .int .i64 k ∧ Aside0 (BF w.heap.size A n c (x + k) wr ∧ BF (w.heap.size + 1) none 0 0 0 wr ∧ Below w.heap.size w wr)) (fun i _ => n + 1 - (intOf i).toNat)
  case atStart => exact ⟨0, by have := lb.out; omega, .inr rfl, rfl, hX0⟩
  case round =>
    clear hX0
    obtain ⟨k, hk, hkm, rfl, hX⟩ := hrel
    obtain ⟨⟨pz, p0, p1⟩, pf, pg⟩ := hX.out.1; obtain ⟨⟨qz, q0, q1⟩, qf, qg⟩ := hX.out.2.1
    have hkl : leftS n (x + k) = leftS n x - k ∧ (k : Int) ≤ n := by
      have h1 := lb.out
      have h2 := hn.out
      unfold leftS at *
      (repeat' split at *) <;> omega
    have hxk : Hid (-9223372036854775808 ≤ x + (k : Int) ∧ x + (k : Int) ≤ 9223372036854775807) := by
      have h1 := lb.out
      have h2 := hn.out
      have h3 := hx.out
      exact ⟨by omega, by omega⟩
    have hl2 : Hid (leftS n (x + k) = leftS n x - k) := hkl.1
    have hkn := hkl.2
    have hn2 := hn.out
    clear hkl
    have hk := Aside0.mk hk
    have hkm := Aside0.mk hkm
    by_cases h1 : (k : Int) < m
    · by_cases h2 : 0 < leftS n x - k
      · obtain ⟨E, hE⟩ : ∃ E, leftS n x - k = E := ⟨_, rfl⟩
        rw [hE] at hl2 h2
        have hE := Aside0.mk hE
        obtain ⟨D, hD⟩ : ∃ D, Hid (nextD n xs (x + k) = D) := ⟨_, rfl⟩
        obtain ⟨Z, hZe⟩ : ∃ Z, Hid (Z = x + ((k + 1 : Nat) : Int)) := ⟨_, rfl⟩
        have hZ : Hid (nextY n (x + k) = Z) := by
          change _ = _
          rw [hZe.out]
          have h3 := hl2.out
          unfold leftS at h3
          unfold nextY
          (repeat' split at h3) <;> first | omega | (rw [if_pos (by omega)]; omega)
        go_wp2_with (first | (go_at_call 29; (with_reducible refine (rleft_any A n c (x + k) E _ hxk hn hl2).mono ?_); rintro e w5 ⟨rfl, hb⟩; have n0_ := Aside0.mk (And.intro (hX.out.1.below hb) (And.intro (hX.out.2.1.below hb) (below_step hX.out.2.2 hb))); clear hX hb; have hX := n0_; clear n0_; obtain ⟨⟨pz, p0, p1⟩, pf, pg⟩ := hX.out.1; obtain ⟨⟨qz, q0, q1⟩, qf, qg⟩ := hX.out.2.1) | (go_at_call 23; (with_reducible refine (rnext_is A n c xs (x + k) D Z _ ?_ hn hD hZ).mono ?_); (case refine_1 => exact hR.out.below hX.out.2.2); rintro e w6 ⟨rfl, hb⟩; have n0_ := Aside0.mk (And.intro (hX.out.1.below hb) (And.intro (hX.out.2.1.below hb) (below_step hX.out.2.2 hb))); clear hX hb; have hX := n0_; clear n0_; obtain ⟨⟨pz, p0, p1⟩, pf, pg⟩ := hX.out.1; obtain ⟨⟨qz, q0, q1⟩, qf, qg⟩ := hX.out.2.1))
        go_roundw
        case rel => exact ⟨k + 1, by have := hE.out; omega, .inl (by omega), by go_num, Aside0.mk ⟨by rw [← hZe.out]; exact hX.out.1.put Z, (hX.out.2.1.set _ _ (by omega)).set _ _ (by omega), (hX.out.2.2.setCell (Nat.le_refl _) _).setCell (Nat.le_refl _) _⟩⟩
        case measure => simp [intOf]; omega
      · have h3 : leftS n x - k = 0 := by have := hk.out; omega
        rw [h3] at hl2
        clear h2 h3
        have hYk : Hid (x + (k : Int) = Y) := by
          change _ = _
          rw [← hY.out]
          unfold skipY
          have h4 := hl2.out
          have h5 := hk.out
          have h6 : leftS n x = k := by
            have := lb.out
            unfold leftS at *
            (repeat' split at *) <;> omega
          rw [h6, if_pos h1]
          split <;> omega
        go_wp2_with (first | (go_at_call 29; (with_reducible refine (rleft_any A n c (x + k) 0 _ hxk hn hl2).mono ?_); rintro e w5 ⟨rfl, hb⟩; have n0_ := Aside0.mk (And.intro (hX.out.1.below hb) (And.intro (hX.out.2.1.below hb) (below_step hX.out.2.2 hb))); clear hX hb; have hX := n0_; clear n0_; obtain ⟨⟨pz, p0, p1⟩, pf, pg⟩ := hX.out.1; obtain ⟨⟨qz, q0, q1⟩, qf, qg⟩ := hX.out.2.1))
        rw [hYk.out]
        refine bodyPost_ret (v := .agg #[.slice A n c, .int .i64 Y]) (by simp [results, Try.results31, go_sem, q0, q1]) rfl ⟨rfl, ?_⟩
        exact ((hX.out.2.2.setCell (by simp) _).setCell (by simp) _)
    · have hYk : Hid (x + (k : Int) = Y) := by
        change _ = _
        rw [← hY.out]
        unfold skipY
        have h4 := hk.out
        have h5 := hkm.out
        have h6 := lb.out
        by_cases g : leftS n x < m
        · rw [if_pos g]
          split <;> omega
        · rw [if_neg g]
          split <;> omega
      go_wp2
      rw [hYk.out]
      refine bodyPost_ret (v := .agg #[.slice A n c, .int .i64 Y]) (by simp [results, Try.results31, go_sem, q0, q1]) rfl ⟨rfl, ?_⟩
      exact ((hX.out.2.2.setCell (by simp) _).setCell (by simp) _)
end Go.Proofs.Yteiocdbkilfnkaa.Tape
