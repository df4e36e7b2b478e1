/- For every thread, item and layer: the program's words First, Joined, Deposited, Open and Told are those of the reference. No condition. -/
import Derived.Test.YteiocdbkilfnkaaPCodeMakesx3
import Derived.Laws.BitsLemmas
namespace Go.Proofs.Yteiocdbkilfnkaa.Pure
open Go Go.RowKit Go.Proofs.Yteiocdbkilfnkaa.PCodeMakes Go.Proofs.YteiocdbkilfnkaaW.PrintWords Go.Proofs.YteiocdbkilfnkaaW.PrintLast

/-- The low three bits. -/
theorem and7 (a : Int) : Go.bits .and .i64 a 7 = a % 8 := by
  have h : (BitVec.ofInt 64 a &&& BitVec.ofInt 64 7).toNat = (a % 8).toNat := by
    have h7 : (BitVec.ofInt 64 7).toNat = 2 ^ 3 - 1 := by decide
    rw [BitVec.toNat_and, h7, Nat.and_two_pow_sub_one_eq_mod, BitVec.toNat_ofInt]
    omega
  show IntKind.i64.wrap ((BitVec.ofInt 64 a &&& BitVec.ofInt 64 7).toNat : Int) = _
  rw [h, Go.IntKind.wrap_i64]
  omega
/-- The low four bits. -/
theorem and15 (a : Int) : Go.bits .and .i64 a 15 = a % 16 := by
  have h : (BitVec.ofInt 64 a &&& BitVec.ofInt 64 15).toNat = (a % 16).toNat := by
    have h7 : (BitVec.ofInt 64 15).toNat = 2 ^ 4 - 1 := by decide
    rw [BitVec.toNat_and, h7, Nat.and_two_pow_sub_one_eq_mod, BitVec.toNat_ofInt]
    omega
  show IntKind.i64.wrap ((BitVec.ofInt 64 a &&& BitVec.ofInt 64 15).toNat : Int) = _
  rw [h, Go.IntKind.wrap_i64]
  omega

/-- What a word says: its kind and its number. -/
def spec (w : Int) : Int × Int :=
  if w = 5 then (5, -1)
  else if 1 ≤ w % 8 ∧ w % 8 ≤ 3 ∧ 8 ≤ w ∧ w < 136 then (w % 8, w / 8 - 1)
  else if w % 8 = 4 ∧ 8 ≤ w ∧ w < 520 ∧ 1 ≤ (w / 8 - 1) % 16 ∧ (w / 8 - 1) % 16 ≤ 3 then (4, w / 8 - 1)
  else (0, 0)
theorem lit64 {w : Int} (h : (Lit.int .i64 w).wf = true) : -9223372036854775808 ≤ w ∧ w ≤ 9223372036854775807 := by
  simpa [Lit.wf, IntKind.min, IntKind.max, IntKind.signed, IntKind.bits] using h
theorem w64 {n : Int} (h : -9223372036854775808 ≤ n ∧ n ≤ 9223372036854775807) : wrap64 n = n := by
  unfold wrap64
  omega
theorem j0_spec (k : Nat) (w : Int) (b : Bool) (h5 : ¬ w = 5) (hb : b = decide (1 ≤ w % 8 ∧ w % 8 ≤ 3 ∧ 8 ≤ w ∧ w < 136)) :
    code_of.j0 (k + 1) ((w / 8 - 1) / 16) ((w / 8 - 1) % 16) b (w % 8) (w / 8 - 1) = some (spec w) := by
  subst hb
  simp only [code_of.j0]
  unfold spec
  rw [if_neg h5]
  by_cases h1 : 1 ≤ w % 8 ∧ w % 8 ≤ 3 ∧ 8 ≤ w ∧ w < 136
  · rw [if_pos (by simpa using h1), if_pos h1]
  · rw [if_neg (by simpa using h1), if_neg h1]
    by_cases h2 : w % 8 = 4 ∧ 8 ≤ w ∧ w < 520 ∧ 1 ≤ (w / 8 - 1) % 16 ∧ (w / 8 - 1) % 16 ≤ 3
    · rw [if_pos h2, if_pos (by omega), if_pos (by omega), if_pos (by omega), if_pos (by omega), if_pos (by omega), h2.1]
    · rw [if_neg h2]
      split
      · split
        · split
          · split
            · split
              · omega
              · rfl
            · rfl
          · rfl
        · rfl
      · rfl
theorem of_spec (k : Nat) (w : Int) (hw : -9223372036854775808 ≤ w ∧ w ≤ 9223372036854775807) : code_of.f (k + 1) w = some (spec w) := by
  unfold code_of.f
  simp only [and7, and15, w64 (n := w / 8 - 1) (by omega)]
  by_cases h5 : w = 5
  · subst h5; rfl
  · rw [if_neg (by simp; omega)]
    by_cases h1 : w % 8 ≥ 1
    · rw [if_pos h1]
      by_cases h2 : w % 8 ≤ 3
      · rw [if_pos h2]
        by_cases h3 : w / 8 - 1 ≥ 0
        · rw [if_pos h3]
          exact j0_spec k w _ h5 (by rw [decide_eq_decide]; omega)
        · rw [if_neg h3]
          exact j0_spec k w _ h5 (by symm; rw [decide_eq_false_iff_not]; omega)
      · rw [if_neg h2]
        exact j0_spec k w _ h5 (by symm; rw [decide_eq_false_iff_not]; omega)
    · rw [if_neg h1]
      exact j0_spec k w _ h5 (by symm; rw [decide_eq_false_iff_not]; omega)

/-- The kind, whose, and where. -/
def kindS (w : Int) : Int := if w = 0 then 0 else if (spec w).1 = 0 then -1 else (spec w).1
def whoS (w : Int) : Int := if 1 ≤ (spec w).1 ∧ (spec w).1 ≤ 3 then (spec w).2 else -1
def whereS (w : Int) : Int × Int := if (spec w).1 = 4 then ((spec w).2 / 16, (spec w).2 % 16) else (-1, 0)
theorem spec_zero : spec 0 = (0, 0) := by decide
theorem spec_both (w : Int) : (spec w).1 = 0 → (spec w).2 = 0 := by
  unfold spec
  intro h
  split at h
  · simp at h
  · split at h
    · simp only at h; omega
    · split at h
      · simp at h
      · rename_i h1 h2 h3; rw [if_neg h1, if_neg h2, if_neg h3]
theorem kind_spec (k : Nat) (w : Int) (hw : -9223372036854775808 ≤ w ∧ w ≤ 9223372036854775807) : code_Kind.f (k + 1) w = some (kindS w) := by
  unfold code_Kind.f kindS
  rw [of_spec k w hw]
  simp only [Option.bind_some]
  by_cases h0 : w = 0
  · subst h0; simp [spec_zero]
  · rw [if_neg h0, if_neg h0]
    by_cases h : (spec w).1 = 0
    · have h2 := spec_both w h
      rw [if_pos h, h, h2]; rfl
    · rw [if_neg h, if_pos (by simp [h])]
theorem who_spec (k : Nat) (w : Int) (hw : -9223372036854775808 ≤ w ∧ w ≤ 9223372036854775807) : code_Who.f (k + 1) w = some (whoS w) := by
  unfold code_Who.f whoS
  rw [of_spec k w hw]
  simp only [Option.bind_some]
  by_cases h1 : (spec w).1 ≥ 1
  · rw [if_pos h1]
    by_cases h2 : (spec w).1 ≤ 3
    · rw [if_pos h2, if_pos ⟨h1, h2⟩]
    · rw [if_neg h2, if_neg (by omega)]
  · rw [if_neg h1, if_neg (by omega)]
theorem where_spec (k : Nat) (w : Int) (hw : -9223372036854775808 ≤ w ∧ w ≤ 9223372036854775807) : code_Where.f (k + 1) w = some (whereS w) := by
  unfold code_Where.f whereS
  rw [of_spec k w hw]
  simp only [Option.bind_some, and15]
  by_cases h1 : (spec w).1 = 4
  · rw [if_pos h1, if_pos h1]
  · rw [if_neg h1, if_neg h1]
theorem shown_true (k : Nat) : millstreamlaw08_shown.f (k + 1) = some true := by
  unfold millstreamlaw08_shown.f
  have a1 : code_Open.f 1 2 = some 156 := by unfold code_Open.f code_said_word.f; simp [wrap64]
  have a2 : code_First.f 2 = some 25 := by unfold code_First.f code_said_word.f; simp [wrap64]
  rw [a1, a2]
  simp only [Option.bind_some]
  rw [where_spec k 156 (by decide), kind_spec k 26 (by decide), who_spec k 27 (by decide), kind_spec k 5 (by decide), kind_spec k 0 (by decide), kind_spec k 9 (by decide), kind_spec k 1 (by decide)]
  decide

theorem lit8 {w : Int} (h : (Lit.int .u8 w).wf = true) : 0 ≤ w ∧ w ≤ 255 := by
  simpa [Lit.wf, IntKind.min, IntKind.max, IntKind.signed, IntKind.bits] using h
theorem CodeMakes : millstreamlaw08_CodeMakes.Pure := by
  intro a0 a1 a2 h0 h1 h2
  have h0 := lit8 h0; have h1 := lit8 h1; have h2 := lit8 h2
  refine ⟨1, ?_⟩
  unfold millstreamlaw08_CodeMakes.f
  rw [w64 (n := a0) (by omega), w64 (n := a1) (by omega), w64 (n := a2) (by omega), Int.tmod_eq_emod_of_nonneg (a := a0) (by omega), Int.tmod_eq_emod_of_nonneg (a := a1) (by omega), Int.tmod_eq_emod_of_nonneg (a := a2) (by omega), w64 (n := 1 + a2 % 3) (by omega)]
  rw [shown_true 0]
  unfold code_First.f code_Joined.f code_Deposited.f code_Open.f code_Told.f millstreamref08_First.f millstreamref08_Joined.f millstreamref08_Deposited.f millstreamref08_Open.f millstreamref08_Told.f code_said_word.f
  simp only [Option.bind_some]
  rw [Int.mul_comm (a1 % 4) 16]
  simp [wrap64]

end Go.Proofs.Yteiocdbkilfnkaa.Pure
