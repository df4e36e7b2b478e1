/- slices.Repeat of one number. -/
import Derived.Test.YtlgoincnopfnjaaLedH0
import Derived.Laws.IdiomCopy
import Derived.Deep.OwnRows
import Derived.Deep.RegionLaw
import Derived.Test.YtlgoincnopfnjaaPLedgerActsx1
namespace Go.Proofs.Ytlgoincnopfnjaa.Led
open Go Go.RowKit Go.Proofs.YtlgoincnopfnjaaW.PrintWords Go.Proofs.YtlgoincnopfnjaaW.PrintMore Go.Proofs.YtlgoincnopfnjaaW.PrintLast
set_option linter.unusedSimpArgs false
set_option linter.unusedVariables false
attribute [local go_sem] max2_int min2_int max_two min_two eqA27
theorem mul_f {k : Int} (hk : 1 ≤ k ∧ k ≤ 4) : PLedgerActs.bits_Mul.f 1 k = some (0, k) := by
  obtain rfl | rfl | rfl | rfl : k = 1 ∨ k = 2 ∨ k = 3 ∨ k = 4 := by omega
  all_goals decide
theorem mul_is (k : Int) (w : World) (hk : 1 ≤ k ∧ k ≤ 4) : Calls Try.prog 39 #[.int .u64 1, .int .u64 k] w fun e w' => e = .returned (.tuple #[.int .u64 0, .int .u64 k]) ∧ Below w.heap.size w w' :=
  (PLedgerActs.bits_Mul.calls 1 k 0 k w (mul_f hk)).mono fun _ _ h => ⟨h.1, h.2.below⟩
/-- A copy by its run. -/
theorem wp_copy_by {P : Program} {w w' : World} {ops : Array Oper} {rest : List Oper} {o : Oper} {a : Act} {Q : Exit → Act → World → Prop} (hgd : o.guard = none) (s x : Operand) (t : TypeId)
    (ho : o.op = .call { callee := .builtin .copy, args := #[s, x], argTypes := #[t, t] }) (v u r : Value) (hs : a.eval s = v) (hx : a.eval x = u)
    (hrun : (Builtin.copy_ #[t, t] o.type #[v, u]).run P w = .ok r w') (h : wpList P ops Q rest (a.put o.dst r) w') : wpList P ops Q (o :: rest) a w := by
  refine wpList_plain hgd fun K hK => ?_
  unfold Oper.wp
  simp only [execOp, ho, resolve, invoke, builtin, Sem.run_bind, Sem.run_pure, Result.andThen_ok, List.map_toArray, List.map_cons, List.map_nil, hs, hx, hrun]
  exact hK _ _ h
theorem step_copy_by {P : Program} {ops : Array Oper} {o : Oper} {a : Act} {w : World} {K : Act → World → Prop} {Q : Exit → Act → World → Prop} {E : Prop}
    (hg : o.guard = none) (d x : Operand) (t : TypeId) (ho : o.op = .call { callee := .builtin .copy, args := #[d, x], argTypes := #[t, t] })
    (v u r : Value) (hd : a.eval d = v) (hx : a.eval x = u) {w' : World} (hr : (Builtin.copy_ #[t, t] o.type #[v, u]).run P w = .ok r w') (hK : K (a.put o.dst r) w') :
    if Region.wanted o (yielded ops a.tmps) = true then Oper.wp P o a w K Q else E := by
  have hw : Region.wanted o (yielded ops a.tmps) = true := by simp [Region.wanted, hg]
  rw [if_pos hw]
  unfold Oper.wp
  simp only [execOp, ho, resolve, invoke, builtin, Sem.run_bind, Sem.run_pure, Result.andThen_ok, List.map_toArray, List.map_cons, List.map_nil, hd, hx, hr]
  exact hK
theorem RW.made (W : World) (k : Nat) (z : Value) (e : TypeId) : RW W.heap.size k (fun _ => z) (W.alloc (.cells (madeCells #[z] k) e)) := by
  refine ⟨by simp, fun i hi => ?_, fun i => ?_⟩
  · show World.cell? _ _ = _
    unfold World.cell?
    rw [heap_alloc_new]
    simp [madeCells, hi, Nat.mod_one]
  · unfold World.frozen?
    rw [heap_alloc_new]
    simp
/-- Cells of a row of the call's own, laid anew. -/
theorem RW.cells {x n : Nat} {X : Nat → Value} {w : World} (h : RW x n X w) (o : Nat) (cs : List Value) (ho : o + cs.length ≤ n) : RW x n (fun i => if o ≤ i ∧ i < o + cs.length then cs.getD (i - o) default else X i) (w.setCells x o cs) := by
  induction cs generalizing o w X with
  | nil =>
    refine ⟨h.lt, fun i hi => ?_, h.z⟩
    rw [if_neg (by simp)]
    exact h.e i hi
  | cons v r ih =>
    have hl : (v :: r).length = r.length + 1 := rfl
    have h1 := ih (h.put (j := o) (by omega) v) (o + 1) (by omega)
    refine ⟨h1.lt, fun i hi => ?_, h1.z⟩
    refine (h1.e i hi).trans ?_
    congr 1
    by_cases h2 : i = o
    · subst h2
      rw [if_neg (by omega), if_pos rfl, if_pos ⟨Nat.le_refl _, by omega⟩, Nat.sub_self]
      rfl
    · by_cases h3 : o + 1 ≤ i ∧ i < o + 1 + r.length
      · rw [if_pos h3, if_pos (by omega), show i - o = (i - (o + 1)) + 1 by omega]
        rfl
      · rw [if_neg h3, if_neg h2, if_neg (by omega)]
theorem below_cells {n : Nat} {w0 : World} {x : Nat} (hx : n ≤ x) (cs : List Value) : ∀ (o : Nat) (w : World), Below n w0 w → Below n w0 (w.setCells x o cs) := by
  induction cs with
  | nil => exact fun _ _ h => h
  | cons v r ih => exact fun o w h => ih (o + 1) _ (h.setCell (p := ⟨x, o, none⟩) hx v)
/-- A copy onto a row of the call's own. -/
theorem copy_rw {x n : Nat} {X : Nat → Value} {w : World} (h : RW x n X w) (ty : TypeId) (o dLen dCap : Nat) (a : Addr) (sLen sCap : Nat) (v : Value) (hv : v.oneCell' = true) (q : Nat) (hq : q = Nat.min sLen dLen) (ho : o + q ≤ n)
    (hsrc : ∀ j, j < q → w.cell? (a.add j) = some v) : ∃ w', (Builtin.copy_ #[22, 22] ty #[.slice (some ⟨x, o, none⟩) dLen dCap, .slice (some a) sLen sCap]).run Try.prog w = .ok (.int .i64 (q : Int)) w' ∧ RW x n (fun i => if o ≤ i ∧ i < o + q then v else X i) w' ∧ ∀ b w0, b ≤ x → Below b w0 w → Below b w0 w' := by
  have hl : (List.replicate q v).length = q := List.length_replicate ..
  have hi : (Try.prog.info? 3).map (·.size) = some 1 := by
    have := info3
    cases e : Try.prog.info? 3 with
    | none => rw [e] at this; cases this
    | some i => rw [e] at this; simp at this; simp [this]
  have hr := run_copy_cells (P := Try.prog) w 22 22 ty 3 x o dLen dCap a sLen sCap (List.replicate q v) Try.underlying22 hi (by rw [hl, hq])
    (fun j u hu => by
      rw [List.getElem?_replicate] at hu
      by_cases h1 : j < q
      · rw [if_pos h1] at hu; cases hu; exact hsrc j h1
      · rw [if_neg h1] at hu; cases hu)
    (fun j hj => by rw [hl] at hj; rw [h.e (o + j) (by omega)]; rfl) (fun j _ => h.z _) (fun u hu => by obtain ⟨_, rfl⟩ := List.mem_replicate.mp hu; exact hv)
  refine ⟨_, hr.trans (by rw [hl]; rfl), ?_, fun b w0 hb h1 => below_cells hb _ _ _ h1⟩
  have h2 := h.cells o (List.replicate q v) (by rw [hl]; exact ho)
  refine ⟨h2.lt, fun i hi => (h2.e i hi).trans ?_, h2.z⟩
  rw [hl]
  congr 1
  by_cases h3 : o ≤ i ∧ i < o + q
  · rw [if_pos h3, if_pos h3, List.getD_eq_getElem?_getD, List.getElem?_replicate, if_pos (by omega)]; rfl
  · rw [if_neg h3, if_neg h3]
/-- The row in the middle of Repeat. -/
structure Rep (x k j : Nat) (hv : Int) (w W : World) : Prop where
  r : RW x k (fun i => if i < j then .int .i64 hv else .int .i64 0) W
  b : Below w.heap.size w W
  lo : w.heap.size ≤ x
set_option maxHeartbeats 4000000 in
set_option maxRecDepth 100000 in
theorem repeat_is (a : Addr) (c : Nat) (hv : Int) (k : Nat) (w : World) (hR : w.cell? a = some (.int .i64 hv)) (hlt : a.block < w.heap.size) (hk : 1 ≤ (k : Int) ∧ (k : Int) ≤ 4) :
    Calls Try.prog 37 #[.slice (some a) 1 c, .int .i64 k] w fun e w' => ∃ x, e = .returned (.slice (some ⟨x, 0, none⟩) k k) ∧ w.heap.size ≤ x ∧ RW x k (fun _ => .int .i64 hv) w' ∧ Below w.heap.size w w' := by
  have h0 : ¬ (k : Int) < 0 := by omega
  have hKK := Aside0.mk hk
  have HR := Aside0.mk hR
  have HL := Aside0.mk hlt
  have hw : IntKind.u64.wrap (k : Int) = k := by simp [IntKind.wrap, IntKind.bits, IntKind.signed]; omega
  have hg : ¬ (k : Int) > 9223372036854775807 := by omega
  have hw2 : IntKind.i64.wrap (k : Int) = k := by rw [Go.IntKind.wrap_i64]; omega
  have hmk := run_make_row' (P := Try.prog) 22 3 (.int .i64 0) 8 Try.underlying22 info3 rfl .i64 .i64 k (by omega) (by omega)
  clear hk hR hlt
  go_enter Try.func37, Try.ntmps37
  go_upto_region 6 with (first | (go_at_call 39; (with_reducible refine (mul_is k _ hKK.out).mono ?_); rintro e w1 ⟨rfl, hb⟩; have HB := Aside0.mk hb; clear hb))
  go_upto_region 7 with (fail)
  have r0 := RW.made w1 k (.int .i64 0) 3
  have b0 := HB.out.alloc (HB.out.size) (.cells (madeCells #[.int .i64 0] k) 3)
  have hs1 := HB.out.size
  have xl := Aside0.mk HB.out.size
  generalize w1.alloc (.cells (madeCells #[.int .i64 0] k) 3) = W1 at r0 b0 ⊢
  generalize w1.heap.size = x at r0 xl ⊢
  clear hmk
  obtain ⟨W2, c1, r1, b1⟩ := copy_rw r0 3 0 k k a 1 c (.int .i64 hv) rfl 1 (by have := hKK.out; show 1 = min 1 k; omega) (by have := hKK.out; omega) (fun j hj => by
    obtain rfl : j = 0 := by omega
    exact (b0.cell (p := a.add 0) (by rw [blk_add]; exact HL.out)).trans (by rw [show a.add 0 = a from by cases a with | mk b o s => cases s <;> rfl]; exact HR.out))
  have c1 := Aside0.mk c1
  have rp : Aside0 (Rep x k 1 hv w W2) := ⟨⟨⟨r1.lt, fun i hi => (r1.e i hi).trans (by congr 1; by_cases h : i < 1 <;> simp [h]), r1.z⟩, b1 _ _ xl.out b0, xl.out⟩⟩
  clear r0 b0 r1 b1 hs1
  go_upto_region 8 with (first | (at_builtin; refine wp_copy_by rfl _ _ 22 rfl _ _ _ rfl rfl c1.out ?_))
  clear c1
  go_loopw [8] (fun v wr => ∃ j : Nat, 1 ≤ j ∧ j ≤ k ∧ v = .int .i64 j ∧ Aside0 (Rep x k j hv w wr)) (fun v _ => k - (intOf v).toNat)
  case atStart => exact ⟨1, by omega, by have := hKK.out; omega, rfl, rp⟩
  case round =>
    obtain ⟨j, hj1, hj2, rfl, hrp⟩ := hrel
    have hwj : IntKind.i64.wrap (j : Int) = j := by have := hKK.out; rw [Go.IntKind.wrap_i64]; omega
    by_cases hjk : (j : Int) < k
    · have hd := (below_drew1 (Below.refl wr.heap.size wr))
      have r2 := hrp.out.r.step hd
      have b2 := below_drew1 hrp.out.b
      clear c1 h0 hw hw2
      go_upto_region 9 with (fail)
      obtain ⟨q, hq⟩ : ∃ q, q = Nat.min j (k - j) := ⟨_, rfl⟩
      have hq1 : 1 ≤ q ∧ q ≤ j ∧ j + q ≤ k := by
        have h1 := Nat.min_le_left j (k - j)
        have h2 := Nat.min_le_right j (k - j)
        have h3 : 1 ≤ min j (k - j) := Nat.le_min.mpr ⟨hj1, by omega⟩
        have h4 : q = min j (k - j) := hq
        omega
      obtain ⟨W4, c2, r3, b3⟩ := copy_rw r2 3 j (k - j) (k - j) ⟨x, 0, none⟩ j k (.int .i64 hv) rfl q hq hq1.2.2 (fun i hi => by
        have h1 : i < j := by omega
        rw [Go.WideShapes.add_plain, Nat.zero_add]
        exact (r2.e i (by omega)).trans (by rw [if_pos h1]))
      have c2 := Aside0.mk c2
      have hkj : ¬ k = j := by omega
      have hwq : IntKind.i64.wrap ((j : Int) + (q : Int)) = (j : Int) + (q : Int) := by have := hKK.out; rw [Go.IntKind.wrap_i64]; omega
      have hq1 := Aside0.mk hq1
      have rp4 : Aside0 (Rep x k (j + q) hv w W4) := ⟨⟨⟨r3.lt, fun i hi => (r3.e i hi).trans (by
        congr 1
        by_cases h1 : i < j
        · rw [if_neg (by omega), if_pos h1, if_pos (by omega)]
        · by_cases h2 : i < j + q
          · rw [if_pos (by omega), if_pos h2]
          · rw [if_neg (by omega), if_neg h1, if_neg h2]), r3.z⟩, b3 _ _ hrp.out.lo b2, hrp.out.lo⟩⟩
      clear hq b2 r2 r3 b3
      go_region_law (refine step_copy_by rfl (.tmp 41) (.tmp 44) 22 rfl (.slice (some ⟨x, j, none⟩) (k - j) (k - j)) (.slice (some ⟨x, 0, none⟩) j k) _ (by simp [Act.eval, Act.put, hkj]) (by simp [Act.eval, Act.put]) c2.out ?_)
      go_simp
      go_roundw
      case rel =>
        refine ⟨_, _, _, _, _, _, _, _, _, _, _, _, _, _, ?_, rfl⟩
        exact ⟨j + q, by omega, hq1.out.2.2, by simp, rp4⟩
      case measure => have := hq1.out; simp [intOf]; omega
    · obtain rfl : j = k := by omega
      have hjk2 : ¬ (j : Int) < j := by omega
      clear c1
      go_wp2
      go_ret
      exact ⟨x, rfl, hrp.out.lo, ⟨hrp.out.r.lt, fun i hi => (hrp.out.r.e i hi).trans (by rw [if_pos hi]), hrp.out.r.z⟩, hrp.out.b⟩
end Go.Proofs.Ytlgoincnopfnjaa.Led
