/- For every word w of 64 bits: the program's Kind, Who and Where of w are those of the reference. No condition. -/
import Derived.Test.YteiocdbkilfnkaaPCodeTellsx3
import Derived.Laws.BitsLemmas
namespace Go.Proofs.Yteiocdbkilfnkaa.Pure
open Go Go.RowKit Go.Proofs.Yteiocdbkilfnkaa.PCodeTells Go.Proofs.YteiocdbkilfnkaaW.PrintWords Go.Proofs.YteiocdbkilfnkaaW.PrintLast

/-- The low three bits. -/
theorem and7 (a : Int) : Go.bits .and .i64 a 7 = a % 8 := by
  have h : (BitVec.ofInt 64 a &&& BitVec.ofInt 64 7).toNat = (a % 8).toNat := by
    have h7 : (BitVec.ofInt 64 7).toNat = 2 ^ 3 - 1 := by decide
    rw [BitVec.toNat_and, h7, Nat.and_two_pow_sub_one_eq_mod, BitVec.toNat_ofInt]
    omega
  show IntKind.i64.wrap ((BitVec.ofInt 64 a &&& BitVec.ofInt 64 7).toNat : Int) = _
  rw [h, Go.IntKind.wrap_i64]
  omega
/-- The low four bits. -/
theorem and15 (a : Int) : Go.bits .and .i64 a 15 = a % 16 := by
  have h : (BitVec.ofInt 64 a &&& BitVec.ofInt 64 15).toNat = (a % 16).toNat := by
    have h7 : (BitVec.ofInt 64 15).toNat = 2 ^ 4 - 1 := by decide
    rw [BitVec.toNat_and, h7, Nat.and_two_pow_sub_one_eq_mod, BitVec.toNat_ofInt]
    omega
  show IntKind.i64.wrap ((BitVec.ofInt 64 a &&& BitVec.ofInt 64 15).toNat : Int) = _
  rw [h, Go.IntKind.wrap_i64]
  omega

/-- What a word says: its kind and its number. -/
def spec (w : Int) : Int × Int :=
  if w = 5 then (5, -1)
  else if 1 ≤ w % 8 ∧ w % 8 ≤ 3 ∧ 8 ≤ w ∧ w < 136 then (w % 8, w / 8 - 1)
  else if w % 8 = 4 ∧ 8 ≤ w ∧ w < 520 ∧ 1 ≤ (w / 8 - 1) % 16 ∧ (w / 8 - 1) % 16 ≤ 3 then (4, w / 8 - 1)
  else (0, 0)
theorem lit64 {w : Int} (h : (Lit.int .i64 w).wf = true) : -9223372036854775808 ≤ w ∧ w ≤ 9223372036854775807 := by
  simpa [Lit.wf, IntKind.min, IntKind.max, IntKind.signed, IntKind.bits] using h
theorem w64 {n : Int} (h : -9223372036854775808 ≤ n ∧ n ≤ 9223372036854775807) : wrap64 n = n := by
  unfold wrap64
  omega
theorem j0_spec (k : Nat) (w : Int) (b : Bool) (h5 : ¬ w = 5) (hb : b = decide (1 ≤ w % 8 ∧ w % 8 ≤ 3 ∧ 8 ≤ w ∧ w < 136)) :
    code_of.j0 (k + 1) ((w / 8 - 1) / 16) ((w / 8 - 1) % 16) b (w % 8) (w / 8 - 1) = some (spec w) := by
  subst hb
  simp only [code_of.j0]
  unfold spec
  rw [if_neg h5]
  by_cases h1 : 1 ≤ w % 8 ∧ w % 8 ≤ 3 ∧ 8 ≤ w ∧ w < 136
  · rw [if_pos (by simpa using h1), if_pos h1]
  · rw [if_neg (by simpa using h1), if_neg h1]
    by_cases h2 : w % 8 = 4 ∧ 8 ≤ w ∧ w < 520 ∧ 1 ≤ (w / 8 - 1) % 16 ∧ (w / 8 - 1) % 16 ≤ 3
    · rw [if_pos h2, if_pos (by omega), if_pos (by omega), if_pos (by omega), if_pos (by omega), if_pos (by omega), h2.1]
    · rw [if_neg h2]
      split
      · split
        · split
          · split
            · split
              · omega
              · rfl
            · rfl
          · rfl
        · rfl
      · rfl
theorem of_spec (k : Nat) (w : Int) (hw : -9223372036854775808 ≤ w ∧ w ≤ 9223372036854775807) : code_of.f (k + 1) w = some (spec w) := by
  unfold code_of.f
  simp only [and7, and15, w64 (n := w / 8 - 1) (by omega)]
  by_cases h5 : w = 5
  · subst h5; rfl
  · rw [if_neg (by simp; omega)]
    by_cases h1 : w % 8 ≥ 1
    · rw [if_pos h1]
      by_cases h2 : w % 8 ≤ 3
      · rw [if_pos h2]
        by_cases h3 : w / 8 - 1 ≥ 0
        · rw [if_pos h3]
          exact j0_spec k w _ h5 (by rw [decide_eq_decide]; omega)
        · rw [if_neg h3]
          exact j0_spec k w _ h5 (by symm; rw [decide_eq_false_iff_not]; omega)
      · rw [if_neg h2]
        exact j0_spec k w _ h5 (by symm; rw [decide_eq_false_iff_not]; omega)
    · rw [if_neg h1]
      exact j0_spec k w _ h5 (by symm; rw [decide_eq_false_iff_not]; omega)

/-- The kind, whose, and where. -/
def kindS (w : Int) : Int := if w = 0 then 0 else if (spec w).1 = 0 then -1 else (spec w).1
def whoS (w : Int) : Int := if 1 ≤ (spec w).1 ∧ (spec w).1 ≤ 3 then (spec w).2 else -1
def whereS (w : Int) : Int × Int := if (spec w).1 = 4 then ((spec w).2 / 16, (spec w).2 % 16) else (-1, 0)
theorem spec_zero : spec 0 = (0, 0) := by decide
theorem spec_both (w : Int) : (spec w).1 = 0 → (spec w).2 = 0 := by
  unfold spec
  intro h
  split at h
  · simp at h
  · split at h
    · simp only at h; omega
    · split at h
      · simp at h
      · rename_i h1 h2 h3; rw [if_neg h1, if_neg h2, if_neg h3]
theorem kind_spec (k : Nat) (w : Int) (hw : -9223372036854775808 ≤ w ∧ w ≤ 9223372036854775807) : code_Kind.f (k + 1) w = some (kindS w) := by
  unfold code_Kind.f kindS
  rw [of_spec k w hw]
  simp only [Option.bind_some]
  by_cases h0 : w = 0
  · subst h0; simp [spec_zero]
  · rw [if_neg h0, if_neg h0]
    by_cases h : (spec w).1 = 0
    · have h2 := spec_both w h
      rw [if_pos h, h, h2]; rfl
    · rw [if_neg h, if_pos (by simp [h])]
theorem who_spec (k : Nat) (w : Int) (hw : -9223372036854775808 ≤ w ∧ w ≤ 9223372036854775807) : code_Who.f (k + 1) w = some (whoS w) := by
  unfold code_Who.f whoS
  rw [of_spec k w hw]
  simp only [Option.bind_some]
  by_cases h1 : (spec w).1 ≥ 1
  · rw [if_pos h1]
    by_cases h2 : (spec w).1 ≤ 3
    · rw [if_pos h2, if_pos ⟨h1, h2⟩]
    · rw [if_neg h2, if_neg (by omega)]
  · rw [if_neg h1, if_neg (by omega)]
theorem where_spec (k : Nat) (w : Int) (hw : -9223372036854775808 ≤ w ∧ w ≤ 9223372036854775807) : code_Where.f (k + 1) w = some (whereS w) := by
  unfold code_Where.f whereS
  rw [of_spec k w hw]
  simp only [Option.bind_some, and15]
  by_cases h1 : (spec w).1 = 4
  · rw [if_pos h1, if_pos h1]
  · rw [if_neg h1, if_neg h1]
theorem shown_true (k : Nat) : millstreamlaw08_shown.f (k + 1) = some true := by
  unfold millstreamlaw08_shown.f
  have a1 : code_Open.f 1 2 = some 156 := by unfold code_Open.f code_said_word.f; simp [wrap64]
  have a2 : code_First.f 2 = some 25 := by unfold code_First.f code_said_word.f; simp [wrap64]
  rw [a1, a2]
  simp only [Option.bind_some]
  rw [where_spec k 156 (by decide), kind_spec k 26 (by decide), who_spec k 27 (by decide), kind_spec k 5 (by decide), kind_spec k 0 (by decide), kind_spec k 9 (by decide), kind_spec k 1 (by decide)]
  decide

theorem first_ref (t : Int) (h : 0 ≤ t ∧ t < 16) : millstreamref08_First.f t = some (8 * (t + 1) + 1) := by
  unfold millstreamref08_First.f; rw [w64 (n := t + 1) (by omega), w64 (n := 8 * (t + 1)) (by omega), w64 (by omega)]
theorem joined_ref (t : Int) (h : 0 ≤ t ∧ t < 16) : millstreamref08_Joined.f t = some (8 * (t + 1) + 2) := by
  unfold millstreamref08_Joined.f; rw [w64 (n := t + 1) (by omega), w64 (n := 8 * (t + 1)) (by omega), w64 (by omega)]
theorem deposited_ref (t : Int) (h : 0 ≤ t ∧ t < 16) : millstreamref08_Deposited.f t = some (8 * (t + 1) + 3) := by
  unfold millstreamref08_Deposited.f; rw [w64 (n := t + 1) (by omega), w64 (n := 8 * (t + 1)) (by omega), w64 (by omega)]
theorem open_ref (i l : Int) (h : 0 ≤ i ∧ i < 4) (g : 0 ≤ l ∧ l < 16) : millstreamref08_Open.f i l = some (8 * (16 * i + l + 1) + 4) := by
  unfold millstreamref08_Open.f; rw [w64 (n := 16 * i) (by omega), w64 (n := 16 * i + l) (by omega), w64 (n := 16 * i + l + 1) (by omega), w64 (n := 8 * (16 * i + l + 1)) (by omega), w64 (by omega)]
/-- The loop over layers. -/
theorem l2_ref (w i : Int) (hi : 0 ≤ i ∧ i < 4) (d : Nat) : ∀ (k : Nat) (l : Int), 1 ≤ l → (4 : Int) - l = d →
    millstreamref08_Kind.l2 (k + d + 1) w i l = if (w - 4) % 8 = 0 ∧ 16 * i + l ≤ (w - 4) / 8 - 1 ∧ (w - 4) / 8 - 1 < 16 * i + 4 then some 4 else millstreamref08_Kind.l1 k w (i + 1) := by
  induction d with
  | zero =>
    intro k l h1 hd
    rw [millstreamref08_Kind.l2]
    rw [if_neg (by omega), if_neg (by omega), w64 (by omega)]
  | succ d ih =>
    intro k l h1 hd
    rw [show k + (d + 1) + 1 = (k + d + 1) + 1 from by omega]
    rw [millstreamref08_Kind.l2]
    rw [if_pos (by omega), open_ref i l hi (by omega)]
    simp only [Option.bind_some]
    by_cases e : w = 8 * (16 * i + l + 1) + 4
    · rw [if_pos e, if_pos (by omega)]
    · rw [if_neg e, w64 (by omega), ih k (l + 1) (by omega) (by omega)]
      by_cases c : (w - 4) % 8 = 0 ∧ 16 * i + l ≤ (w - 4) / 8 - 1 ∧ (w - 4) / 8 - 1 < 16 * i + 4
      · rw [if_pos c, if_pos (by omega)]
      · rw [if_neg c, if_neg (by omega)]
/-- The loop over items. -/
theorem l1_ref (w : Int) (d : Nat) : ∀ (k : Nat) (i : Int), 0 ≤ i → (4 : Int) - i = d →
    millstreamref08_Kind.l1 (k + 5 * d + 1) w i = if (w - 4) % 8 = 0 ∧ 16 * i ≤ (w - 4) / 8 - 1 ∧ (w - 4) / 8 - 1 < 64 ∧ 1 ≤ ((w - 4) / 8 - 1) % 16 ∧ ((w - 4) / 8 - 1) % 16 ≤ 3 then some 4 else some (-1) := by
  induction d with
  | zero =>
    intro k i h1 hd
    rw [millstreamref08_Kind.l1]
    rw [if_neg (by omega), if_neg (by omega)]
  | succ d ih =>
    intro k i h1 hd
    rw [show k + 5 * (d + 1) + 1 = (k + 5 * d + 1 + 3 + 1) + 1 from by omega]
    rw [millstreamref08_Kind.l1]
    rw [if_pos (by omega), l2_ref w i (by omega) 3 (k + 5 * d + 1) 1 (by omega) (by omega), ih k (i + 1) (by omega) (by omega)]
    by_cases c : (w - 4) % 8 = 0 ∧ 16 * i + 1 ≤ (w - 4) / 8 - 1 ∧ (w - 4) / 8 - 1 < 16 * i + 4
    · rw [if_pos c, if_pos (by omega)]
    · rw [if_neg c]
      by_cases c2 : (w - 4) % 8 = 0 ∧ 16 * (i + 1) ≤ (w - 4) / 8 - 1 ∧ (w - 4) / 8 - 1 < 64 ∧ 1 ≤ ((w - 4) / 8 - 1) % 16 ∧ ((w - 4) / 8 - 1) % 16 ≤ 3
      · rw [if_pos c2, if_pos (by omega)]
      · rw [if_neg c2, if_neg (by omega)]
/-- The loop over threads. -/
theorem l0_ref (w : Int) (d : Nat) : ∀ (k : Nat) (t : Int), 0 ≤ t → (16 : Int) - t = d →
    millstreamref08_Kind.l0 (k + d + 1) w t = if 1 ≤ w % 8 ∧ w % 8 ≤ 3 ∧ t ≤ w / 8 - 1 ∧ w / 8 - 1 < 16 then some (w % 8) else millstreamref08_Kind.l1 k w 0 := by
  induction d with
  | zero =>
    intro k t h1 hd
    rw [millstreamref08_Kind.l0]
    rw [if_neg (by omega), if_neg (by omega)]
  | succ d ih =>
    intro k t h1 hd
    rw [show k + (d + 1) + 1 = (k + d + 1) + 1 from by omega]
    rw [millstreamref08_Kind.l0]
    rw [if_pos (by omega), first_ref t (by omega), joined_ref t (by omega), deposited_ref t (by omega)]
    simp only [Option.bind_some]
    by_cases e1 : w = 8 * (t + 1) + 1
    · rw [if_pos e1, if_pos (by omega)]; congr 1; omega
    · rw [if_neg e1]
      by_cases e2 : w = 8 * (t + 1) + 2
      · rw [if_pos e2, if_pos (by omega)]; congr 1; omega
      · rw [if_neg e2]
        by_cases e3 : w = 8 * (t + 1) + 3
        · rw [if_pos e3, if_pos (by omega)]; congr 1; omega
        · rw [if_neg e3, w64 (by omega), ih k (t + 1) (by omega) (by omega)]
          by_cases c : 1 ≤ w % 8 ∧ w % 8 ≤ 3 ∧ t ≤ w / 8 - 1 ∧ w / 8 - 1 < 16
          · rw [if_pos c, if_pos (by omega)]
          · rw [if_neg c, if_neg (by omega)]
theorem kind_ref (w : Int) : millstreamref08_Kind.f 38 w = some (kindS w) := by
  unfold millstreamref08_Kind.f kindS
  by_cases h0 : w = 0
  · rw [if_pos h0, if_pos h0]
  · rw [if_neg h0, if_neg h0]
    unfold millstreamref08_Told.f
    simp only [Option.bind_some]
    by_cases h5 : w = 5
    · subst h5; rfl
    · rw [if_neg h5, l0_ref w 16 21 0 (by omega) (by omega), l1_ref w 4 0 0 (by omega) (by omega)]
      unfold spec
      rw [if_neg h5]
      by_cases c : 1 ≤ w % 8 ∧ w % 8 ≤ 3 ∧ 8 ≤ w ∧ w < 136
      · rw [if_pos c, if_pos (by omega)]
        simp only
        rw [if_neg (by omega)]
      · rw [if_neg c, if_neg (by omega)]
        by_cases c2 : w % 8 = 4 ∧ 8 ≤ w ∧ w < 520 ∧ 1 ≤ (w / 8 - 1) % 16 ∧ (w / 8 - 1) % 16 ≤ 3
        · rw [if_pos c2, if_pos (by omega)]; rfl
        · rw [if_neg c2, if_neg (by omega)]; rfl
theorem kindS_one (w : Int) (h : 1 ≤ kindS w ∧ kindS w ≤ 4) : kindS w = (spec w).1 := by
  unfold kindS at *
  split at h
  · omega
  · split at h
    · omega
    · rename_i a b; rw [if_neg a, if_neg b]
theorem spec_two (w : Int) (h : 1 ≤ (spec w).1 ∧ (spec w).1 ≤ 4) : (spec w).2 = w / 8 - 1 ∧ 8 ≤ w ∧ w < 520 := by
  unfold spec at *
  by_cases a : w = 5
  · rw [if_pos a] at h; simp at h
  · rw [if_neg a] at h ⊢
    by_cases b : 1 ≤ w % 8 ∧ w % 8 ≤ 3 ∧ 8 ≤ w ∧ w < 136
    · rw [if_pos b] at h ⊢; exact ⟨rfl, by omega, by omega⟩
    · rw [if_neg b] at h ⊢
      by_cases c : w % 8 = 4 ∧ 8 ≤ w ∧ w < 520 ∧ 1 ≤ (w / 8 - 1) % 16 ∧ (w / 8 - 1) % 16 ≤ 3
      · rw [if_pos c] at h ⊢; exact ⟨rfl, by omega, by omega⟩
      · rw [if_neg c] at h; simp at h
theorem spec_of_kind (w : Int) (h : (spec w).1 ≠ 0) (h0 : w ≠ 0) : kindS w = (spec w).1 := by
  unfold kindS; rw [if_neg h0, if_neg h]
theorem who_ref (w : Int) : millstreamref08_Who.f 38 w = some (whoS w) := by
  unfold millstreamref08_Who.f whoS
  rw [kind_ref w]
  simp only [Option.bind_some]
  by_cases c : 1 ≤ (spec w).1 ∧ (spec w).1 ≤ 3
  · have h2 := spec_two w (by omega)
    have hk := spec_of_kind w (by omega) (by omega)
    rw [if_pos c, if_neg (by omega), if_neg (by omega)]
    rw [Int.tdiv_eq_ediv_of_nonneg (by omega), w64 (n := w / 8) (by omega), w64 (by omega), h2.1]
  · rw [if_neg c]
    by_cases d : kindS w < 1
    · rw [if_pos d]
    · rw [if_neg d]
      by_cases e : kindS w > 3
      · rw [if_pos e]
      · exact absurd (kindS_one w (by omega)) (by omega)
theorem where_ref (w : Int) : millstreamref08_Where.f 38 w = some (whereS w) := by
  unfold millstreamref08_Where.f whereS
  rw [kind_ref w]
  simp only [Option.bind_some]
  by_cases c : (spec w).1 = 4
  · have h2 := spec_two w (by omega)
    have hk := spec_of_kind w (by omega) (by omega)
    rw [if_pos c, if_pos (by omega), Int.tdiv_eq_ediv_of_nonneg (a := w) (by omega), w64 (n := w / 8) (by omega), w64 (n := w / 8 - 1) (by omega), h2.1]
    rw [Int.tdiv_eq_ediv_of_nonneg (a := w / 8 - 1) (by omega), Int.tmod_eq_emod_of_nonneg (a := w / 8 - 1) (by omega), w64 (by omega)]
  · rw [if_neg c]
    by_cases d : kindS w = 4
    · exact absurd (kindS_one w (by omega)) (by omega)
    · rw [if_neg d]
theorem CodeTells : millstreamlaw08_CodeTells.Pure := by
  intro w hw
  have hw := lit64 hw
  refine ⟨38, ?_⟩
  unfold millstreamlaw08_CodeTells.f
  rw [where_spec 37 w hw, where_ref, kind_spec 37 w hw, kind_ref, who_spec 37 w hw, who_ref, shown_true 37]
  simp

end Go.Proofs.Yteiocdbkilfnkaa.Pure
