/- Plain facts on the words of the program, over the printed functions. -/
import Derived.Test.YteiocdbkilfnkaaPCodeMakesx3
import Derived.Laws.BitsLemmas
namespace Go.Proofs.Yteiocdbkilfnkaa.Words
open Go Go.RowKit Go.Proofs.Yteiocdbkilfnkaa.PCodeMakes Go.Proofs.YteiocdbkilfnkaaW.PrintWords Go.Proofs.YteiocdbkilfnkaaW.PrintLast

/-- The low three bits. -/
theorem and7 (a : Int) : Go.bits .and .i64 a 7 = a % 8 := by
  have h : (BitVec.ofInt 64 a &&& BitVec.ofInt 64 7).toNat = (a % 8).toNat := by
    have h7 : (BitVec.ofInt 64 7).toNat = 2 ^ 3 - 1 := by decide
    rw [BitVec.toNat_and, h7, Nat.and_two_pow_sub_one_eq_mod, BitVec.toNat_ofInt]
    omega
  show IntKind.i64.wrap ((BitVec.ofInt 64 a &&& BitVec.ofInt 64 7).toNat : Int) = _
  rw [h, Go.IntKind.wrap_i64]
  omega
/-- The low four bits. -/
theorem and15 (a : Int) : Go.bits .and .i64 a 15 = a % 16 := by
  have h : (BitVec.ofInt 64 a &&& BitVec.ofInt 64 15).toNat = (a % 16).toNat := by
    have h7 : (BitVec.ofInt 64 15).toNat = 2 ^ 4 - 1 := by decide
    rw [BitVec.toNat_and, h7, Nat.and_two_pow_sub_one_eq_mod, BitVec.toNat_ofInt]
    omega
  show IntKind.i64.wrap ((BitVec.ofInt 64 a &&& BitVec.ofInt 64 15).toNat : Int) = _
  rw [h, Go.IntKind.wrap_i64]
  omega

/-- What a word says: its kind and its number. -/
def spec (w : Int) : Int × Int :=
  if w = 5 then (5, -1)
  else if 1 ≤ w % 8 ∧ w % 8 ≤ 3 ∧ 8 ≤ w ∧ w < 136 then (w % 8, w / 8 - 1)
  else if w % 8 = 4 ∧ 8 ≤ w ∧ w < 520 ∧ 1 ≤ (w / 8 - 1) % 16 ∧ (w / 8 - 1) % 16 ≤ 3 then (4, w / 8 - 1)
  else (0, 0)
theorem lit64 {w : Int} (h : (Lit.int .i64 w).wf = true) : -9223372036854775808 ≤ w ∧ w ≤ 9223372036854775807 := by
  simpa [Lit.wf, IntKind.min, IntKind.max, IntKind.signed, IntKind.bits] using h
theorem w64 {n : Int} (h : -9223372036854775808 ≤ n ∧ n ≤ 9223372036854775807) : wrap64 n = n := by
  unfold wrap64
  omega
theorem j0_spec (k : Nat) (w : Int) (b : Bool) (h5 : ¬ w = 5) (hb : b = decide (1 ≤ w % 8 ∧ w % 8 ≤ 3 ∧ 8 ≤ w ∧ w < 136)) :
    code_of.j0 (k + 1) ((w / 8 - 1) / 16) ((w / 8 - 1) % 16) b (w % 8) (w / 8 - 1) = some (spec w) := by
  subst hb
  simp only [code_of.j0]
  unfold spec
  rw [if_neg h5]
  by_cases h1 : 1 ≤ w % 8 ∧ w % 8 ≤ 3 ∧ 8 ≤ w ∧ w < 136
  · rw [if_pos (by simpa using h1), if_pos h1]
  · rw [if_neg (by simpa using h1), if_neg h1]
    by_cases h2 : w % 8 = 4 ∧ 8 ≤ w ∧ w < 520 ∧ 1 ≤ (w / 8 - 1) % 16 ∧ (w / 8 - 1) % 16 ≤ 3
    · rw [if_pos h2, if_pos (by omega), if_pos (by omega), if_pos (by omega), if_pos (by omega), if_pos (by omega), h2.1]
    · rw [if_neg h2]
      split
      · split
        · split
          · split
            · split
              · omega
              · rfl
            · rfl
          · rfl
        · rfl
      · rfl
theorem of_spec (k : Nat) (w : Int) (hw : -9223372036854775808 ≤ w ∧ w ≤ 9223372036854775807) : code_of.f (k + 1) w = some (spec w) := by
  unfold code_of.f
  simp only [and7, and15, w64 (n := w / 8 - 1) (by omega)]
  by_cases h5 : w = 5
  · subst h5; rfl
  · rw [if_neg (by simp; omega)]
    by_cases h1 : w % 8 ≥ 1
    · rw [if_pos h1]
      by_cases h2 : w % 8 ≤ 3
      · rw [if_pos h2]
        by_cases h3 : w / 8 - 1 ≥ 0
        · rw [if_pos h3]
          exact j0_spec k w _ h5 (by rw [decide_eq_decide]; omega)
        · rw [if_neg h3]
          exact j0_spec k w _ h5 (by symm; rw [decide_eq_false_iff_not]; omega)
      · rw [if_neg h2]
        exact j0_spec k w _ h5 (by symm; rw [decide_eq_false_iff_not]; omega)
    · rw [if_neg h1]
      exact j0_spec k w _ h5 (by symm; rw [decide_eq_false_iff_not]; omega)

/-- The kind, whose, and where. -/
def kindS (w : Int) : Int := if w = 0 then 0 else if (spec w).1 = 0 then -1 else (spec w).1
def whoS (w : Int) : Int := if 1 ≤ (spec w).1 ∧ (spec w).1 ≤ 3 then (spec w).2 else -1
def whereS (w : Int) : Int × Int := if (spec w).1 = 4 then ((spec w).2 / 16, (spec w).2 % 16) else (-1, 0)
theorem spec_zero : spec 0 = (0, 0) := by decide
theorem spec_both (w : Int) : (spec w).1 = 0 → (spec w).2 = 0 := by
  unfold spec
  intro h
  split at h
  · simp at h
  · split at h
    · simp only at h; omega
    · split at h
      · simp at h
      · rename_i h1 h2 h3; rw [if_neg h1, if_neg h2, if_neg h3]
theorem kind_spec (k : Nat) (w : Int) (hw : -9223372036854775808 ≤ w ∧ w ≤ 9223372036854775807) : code_Kind.f (k + 1) w = some (kindS w) := by
  unfold code_Kind.f kindS
  rw [of_spec k w hw]
  simp only [Option.bind_some]
  by_cases h0 : w = 0
  · subst h0; simp [spec_zero]
  · rw [if_neg h0, if_neg h0]
    by_cases h : (spec w).1 = 0
    · have h2 := spec_both w h
      rw [if_pos h, h, h2]; rfl
    · rw [if_neg h, if_pos (by simp [h])]
theorem who_spec (k : Nat) (w : Int) (hw : -9223372036854775808 ≤ w ∧ w ≤ 9223372036854775807) : code_Who.f (k + 1) w = some (whoS w) := by
  unfold code_Who.f whoS
  rw [of_spec k w hw]
  simp only [Option.bind_some]
  by_cases h1 : (spec w).1 ≥ 1
  · rw [if_pos h1]
    by_cases h2 : (spec w).1 ≤ 3
    · rw [if_pos h2, if_pos ⟨h1, h2⟩]
    · rw [if_neg h2, if_neg (by omega)]
  · rw [if_neg h1, if_neg (by omega)]
theorem where_spec (k : Nat) (w : Int) (hw : -9223372036854775808 ≤ w ∧ w ≤ 9223372036854775807) : code_Where.f (k + 1) w = some (whereS w) := by
  unfold code_Where.f whereS
  rw [of_spec k w hw]
  simp only [Option.bind_some, and15]
  by_cases h1 : (spec w).1 = 4
  · rw [if_pos h1, if_pos h1]
  · rw [if_neg h1, if_neg h1]
theorem shown_true (k : Nat) : millstreamlaw08_shown.f (k + 1) = some true := by
  unfold millstreamlaw08_shown.f
  have a1 : code_Open.f 1 2 = some 156 := by unfold code_Open.f code_said_word.f; simp [wrap64]
  have a2 : code_First.f 2 = some 25 := by unfold code_First.f code_said_word.f; simp [wrap64]
  rw [a1, a2]
  simp only [Option.bind_some]
  rw [where_spec k 156 (by decide), kind_spec k 26 (by decide), who_spec k 27 (by decide), kind_spec k 5 (by decide), kind_spec k 0 (by decide), kind_spec k 9 (by decide), kind_spec k 1 (by decide)]
  decide

theorem lit8 {w : Int} (h : (Lit.int .u8 w).wf = true) : 0 ≤ w ∧ w ≤ 255 := by
  simpa [Lit.wf, IntKind.min, IntKind.max, IntKind.signed, IntKind.bits] using h
theorem word_of (a b : Int) (h : 0 ≤ a ∧ a < 8) (g : 0 ≤ b ∧ b < 1000) : code_said_word.f a b = some (8 * (b + 1) + a) := by
  unfold code_said_word.f; rw [w64 (n := b + 1) (by omega), w64 (n := 8 * (b + 1)) (by omega), w64 (by omega)]
theorem first_of (t : Int) (h : 0 ≤ t ∧ t < 16) : code_First.f t = some (8 * (t + 1) + 1) := by
  unfold code_First.f; rw [word_of _ _ (by omega) (by omega)]; rfl
theorem joined_of (t : Int) (h : 0 ≤ t ∧ t < 16) : code_Joined.f t = some (8 * (t + 1) + 2) := by
  unfold code_Joined.f; rw [word_of _ _ (by omega) (by omega)]; rfl
theorem deposited_of (t : Int) (h : 0 ≤ t ∧ t < 16) : code_Deposited.f t = some (8 * (t + 1) + 3) := by
  unfold code_Deposited.f; rw [word_of _ _ (by omega) (by omega)]; rfl
theorem open_of (i l : Int) (h : 0 ≤ i ∧ i < 4) (g : 1 ≤ l ∧ l ≤ 3) : code_Open.f i l = some (8 * (16 * i + l + 1) + 4) := by
  unfold code_Open.f; rw [w64 (n := i * 16) (by omega), w64 (n := i * 16 + l) (by omega), word_of _ _ (by omega) (by omega)]
  simp only [Option.bind_some]; congr 1; omega
theorem spec_thread (t c : Int) (h : 0 ≤ t ∧ t < 16) (g : 1 ≤ c ∧ c ≤ 3) : spec (8 * (t + 1) + c) = (c, t) := by
  unfold spec; rw [if_neg (by omega), if_pos (by omega)]; congr 1 <;> omega
theorem spec_open (i l : Int) (h : 0 ≤ i ∧ i < 4) (g : 1 ≤ l ∧ l ≤ 3) : spec (8 * (16 * i + l + 1) + 4) = (4, 16 * i + l) := by
  unfold spec; rw [if_neg (by omega), if_neg (by omega), if_pos (by omega)]; congr 1; omega
theorem kind_thread (t c : Int) (h : 0 ≤ t ∧ t < 16) (g : 1 ≤ c ∧ c ≤ 3) : kindS (8 * (t + 1) + c) = c := by
  unfold kindS; rw [spec_thread t c h g, if_neg (by omega)]; simp only; rw [if_neg (by omega)]
theorem who_thread (t c : Int) (h : 0 ≤ t ∧ t < 16) (g : 1 ≤ c ∧ c ≤ 3) : whoS (8 * (t + 1) + c) = t := by
  unfold whoS; rw [spec_thread t c h g]; simp only; rw [if_pos g]
theorem kind_open (i l : Int) (h : 0 ≤ i ∧ i < 4) (g : 1 ≤ l ∧ l ≤ 3) : kindS (8 * (16 * i + l + 1) + 4) = 4 := by
  unfold kindS; rw [spec_open i l h g, if_neg (by omega)]; rfl
theorem who_open (i l : Int) (h : 0 ≤ i ∧ i < 4) (g : 1 ≤ l ∧ l ≤ 3) : whoS (8 * (16 * i + l + 1) + 4) = -1 := by
  unfold whoS; rw [spec_open i l h g]; rfl
theorem where_open (i l : Int) (h : 0 ≤ i ∧ i < 4) (g : 1 ≤ l ∧ l ≤ 3) : whereS (8 * (16 * i + l + 1) + 4) = (i, l) := by
  unfold whereS; rw [spec_open i l h g]; simp only; rw [if_pos True.intro]; congr 1 <;> omega

/-! Contracts of the words' functions. -/
theorem kind_any (a r : Int) (w : World) (h : Hid (-9223372036854775808 ≤ a ∧ a ≤ 9223372036854775807)) (e : Hid (kindS a = r)) :
    Calls Try.prog 16 #[.int .i64 a] w fun e w' => e = .returned (.int .i64 r) ∧ Below w.heap.size w w' :=
  code_Kind.calls 1 a r w (by rw [kind_spec 0 a h.out, e.out])
theorem who_any (a r : Int) (w : World) (h : Hid (-9223372036854775808 ≤ a ∧ a ≤ 9223372036854775807)) (e : Hid (whoS a = r)) :
    Calls Try.prog 18 #[.int .i64 a] w fun e w' => e = .returned (.int .i64 r) ∧ Below w.heap.size w w' :=
  code_Who.calls 1 a r w (by rw [who_spec 0 a h.out, e.out])
theorem where_any (a r s : Int) (w : World) (h : Hid (-9223372036854775808 ≤ a ∧ a ≤ 9223372036854775807)) (e : Hid (whereS a = (r, s))) :
    Calls Try.prog 14 #[.int .i64 a] w fun e w' => e = .returned (.tuple #[.int .i64 r, .int .i64 s]) ∧ Below w.heap.size w w' :=
  code_Where.calls 1 a r s w (by rw [where_spec 0 a h.out, e.out])
theorem shown_any (w : World) : Calls Try.prog 20 #[] w fun e w' => e = .returned (.bool true) ∧ Below w.heap.size w w' :=
  millstreamlaw08_shown.calls 1 true w (shown_true 0)
end Go.Proofs.Yteiocdbkilfnkaa.Words
