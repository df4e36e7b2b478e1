/- Slices that can be read, slices that the call owns, and slices.Clone at []int and [][]int. -/
import Derived.Test.YtlgoincnopfnjaaProg
import Derived.Test.YtlgoincnopfnjaaWMore
import Derived.Outline
import Derived.WalkKit
import Derived.KernelRfl
import Derived.RegionTactic
import Derived.BigRegion
import Derived.Deep.QuietTactic
import Derived.BigQuiet
import Derived.Laws.Rows
import Derived.Laws.AppendOwn
import Derived.Laws.AppendOwnNone
import Derived.OwnWalk
import Derived.WalkSpells
import Derived.Deep.RegionHeld
import Derived.Deep.RegionHeld3
import Derived.Deep.Cut
namespace Go.Proofs.Ytlgoincnopfnjaa.Led
open Go Go.RowKit Go.Proofs.YtlgoincnopfnjaaW.PrintWords Go.Proofs.YtlgoincnopfnjaaW.PrintMore

theorem cell_lt {w : World} {b k : Nat} {v : Value} (h : w.cell? ⟨b, k, none⟩ = some v) : b < w.heap.size := by
  rcases Nat.lt_or_ge b w.heap.size with g | g
  · exact g
  · simp [World.cell?, Array.getElem?_eq_none g] at h
theorem lit64 {x : Int} (h : (Lit.int .i64 x).wf = true) : -9223372036854775808 ≤ x ∧ x ≤ 9223372036854775807 := by
  simpa [Lit.wf, IntKind.min, IntKind.max, IntKind.signed, IntKind.bits] using h
theorem lit8 {x : Int} (h : (Lit.int .u8 x).wf = true) : 0 ≤ x ∧ x ≤ 255 := by
  simpa [Lit.wf, IntKind.min, IntKind.max, IntKind.signed, IntKind.bits] using h
theorem lit16 {x : Int} (h : (Lit.int .u16 x).wf = true) : 0 ≤ x ∧ x ≤ 65535 := by
  simpa [Lit.wf, IntKind.min, IntKind.max, IntKind.signed, IntKind.bits] using h
/-- Whole numbers as values. -/
def ints (f : Nat → Int) : Nat → Value := fun i => .int .i64 (f i)
/-- The slice's elements can be read. -/
def RV (A : Option Addr) (n : Nat) (vs : Nat → Value) (w : World) : Prop := n = 0 ∨ ∃ ad : Addr, A = some ad ∧ ad.block < w.heap.size ∧ ∀ i, i < n → w.cell? (ad.add i) = some (vs i)
theorem blk_add (a : Addr) (i : Nat) : (a.add i).block = a.block := by unfold Addr.add; split <;> rfl
theorem RV.below {A : Option Addr} {n : Nat} {vs : Nat → Value} {w w' : World} (h : RV A n vs w) (hb : Below w.heap.size w w') : RV A n vs w' := by
  rcases h with h | ⟨ad, rfl, h1, h2⟩
  · exact .inl h
  · exact .inr ⟨ad, rfl, Nat.lt_of_lt_of_le h1 hb.size, fun i hi => (hb.cell (p := ad.add i) (by rw [blk_add]; exact h1)).trans (h2 i hi)⟩
/-- The call's own slice: at the head of a block from base on, which can be written. -/
def Ow (A : Option Addr) (n : Nat) (vs : Nat → Value) (base : Nat) (w : World) : Prop := (A = none ∧ n = 0) ∨ ∃ g, A = some ⟨g, 0, none⟩ ∧ base ≤ g ∧ g < w.heap.size ∧ (∀ i, i < n → w.cell? ⟨g, i, none⟩ = some (vs i)) ∧ ∀ i, w.frozen? ⟨g, i, none⟩ = false
theorem Ow.reads {A : Option Addr} {n : Nat} {vs : Nat → Value} {base : Nat} {w : World} (h : Ow A n vs base w) : RV A n vs w := by
  rcases h with ⟨_, h⟩ | ⟨g, rfl, _, h1, h2, _⟩
  · exact .inl h
  · exact .inr ⟨⟨g, 0, none⟩, rfl, h1, fun i hi => by rw [Go.WideShapes.add_plain, Nat.zero_add]; exact h2 i hi⟩
theorem Ow.below {A : Option Addr} {n : Nat} {vs : Nat → Value} {base : Nat} {w w' : World} (h : Ow A n vs base w) (hb : Below w.heap.size w w') : Ow A n vs base w' := by
  rcases h with h | ⟨g, rfl, h0, h1, h2, h3⟩
  · exact .inl h
  · exact .inr ⟨g, rfl, h0, Nat.lt_of_lt_of_le h1 hb.size, fun i hi => (hb.cell (p := ⟨g, i, none⟩) h1).trans (h2 i hi), fun i => (hb.frozen (p := ⟨g, i, none⟩) h1).trans (h3 i)⟩
/-- The elements as a list. -/
def vals (n : Nat) (vs : Nat → Value) : List Value := (List.range n).map vs
theorem vals_get {m : Nat} {vs : Nat → Value} {j : Nat} {u : Value} (h : (vals m vs)[j]? = some u) : j < m ∧ u = vs j := by
  unfold vals at h
  rw [List.getElem?_map, Option.map_eq_some_iff] at h
  obtain ⟨k, hk, rfl⟩ := h
  have h1 : j < m := by
    rcases Nat.lt_or_ge j m with h | h
    · exact h
    · rw [List.getElem?_eq_none (by simpa using h)] at hk; cases hk
  rw [List.getElem?_range h1] at hk
  cases hk
  exact ⟨h1, rfl⟩
theorem info3 : (Try.prog.info? 3).map (fun i => (i.zero, i.size, i.bytes)) = some (some (.int .i64 0), 1, 8) := by kernel_rfl
theorem info22 : (Try.prog.info? 22).map (fun i => (i.zero, i.size, i.bytes)) = some (some (.slice none 0 0), 1, 24) := by kernel_rfl
theorem own_empty (e base : Nat) (w : World) (hb : base ≤ w.heap.size) : (w.alloc (.cells #[] e)).ownsRow base e 1 (.slice (some ⟨w.heap.size, 0, none⟩) 0 0) 0 [] :=
  ⟨rfl, .inr ⟨w.heap.size, 0, #[], rfl, hb, heap_alloc_new w _, Nat.le_refl _, Nat.zero_le _, rfl, rfl⟩⟩
/-- An owned row as the call's own slice. -/
theorem ow_of {e : Nat} {w : World} {base n : Nat} {v : Value} {vs : Nat → Value} (h : w.ownsRow base e 1 v n (vals n vs)) : ∃ A c, v = .slice A n c ∧ Ow A n vs base w ∧ n ≤ c := by
  rcases h.2 with ⟨rfl, rfl⟩ | ⟨g, cap, cur, rfl, hg, hb, hn, hm, hc, ht⟩
  · exact ⟨none, 0, rfl, .inl ⟨rfl, rfl⟩, Nat.le_refl _⟩
  · have hlt : g < w.heap.size := by
      rcases Nat.lt_or_ge g w.heap.size with h1 | h1
      · exact h1
      · rw [Array.getElem?_eq_none h1] at hb; cases hb
    refine ⟨some ⟨g, 0, none⟩, cap, rfl, .inr ⟨g, rfl, hg, hlt, fun i hi => ?_, fun i => by simp [World.frozen?, hb]⟩, hn⟩
    have := h.cells (g := g) rfl i (vs i) (by unfold vals; rw [List.getElem?_map, List.getElem?_range hi]; rfl)
    rw [Go.WideShapes.add_plain] at this
    simpa using this
/-- An append of a slice that can be read to the empty slice. -/
theorem append_clone (ts e bytes : Nat) (z : Value) (hz1 : z.cells.size = 1) (ht : Try.prog.underlying ts = some (.slice e)) (hinfo : (Try.prog.info? e).map (fun i => (i.zero, i.size, i.bytes)) = some (some z, 1, bytes)) (w : World) (a : Addr) (n c : Nat) (vs : Nat → Value) (hR : RV (some a) n vs w)
    (hone : ∀ i, i < n → (vs i).oneCell' = true) (hmax : n ≤ maxLen) (hb : n * bytes ≤ 140737488355328) :
    ∃ A' c' w', (Builtin.append_ #[ts, ts] ts #[.slice (some ⟨w.heap.size, 0, none⟩) 0 0, .slice (some a) n c]).run Try.prog (w.alloc (.cells #[] e)) = .ok (.slice A' n c') w' ∧ Ow A' n vs w.heap.size w' ∧ n ≤ c' ∧ Below w.heap.size w w' := by
  obtain ⟨i, hi, hz0, hs1, hs2⟩ := info_parts hinfo
  have b1 : Below w.heap.size w (w.alloc (.cells #[] e)) := (Below.refl _ _).alloc (Nat.le_refl _) _
  have hR' := hR.below b1
  obtain ⟨v', w', h1, h2, h3, _⟩ := run_append_own (P := Try.prog) (w.alloc (.cells #[] e)) w.heap.size ts ts e i z 1 bytes ht hi hz0 hs1 hs2 hz1 (by decide) _ 0 [] (own_empty e w.heap.size w (Nat.le_refl _)) a n c (vals n vs) (by simp [vals])
    (fun j u hj => by
      obtain ⟨hj1, rfl⟩ := vals_get hj
      rcases hR' with h | ⟨ad, h, _, hc⟩
      · omega
      · simp only [Option.some.injEq] at h
        subst h
        exact hc j hj1)
    (fun u hu => by
      obtain ⟨j, hj⟩ := List.getElem?_of_mem hu
      obtain ⟨h1, rfl⟩ := vals_get hj
      exact hone j h1)
    (by omega) (by rw [Nat.zero_add]; exact hb) (by simp)
  rw [List.nil_append, Nat.zero_add] at h2
  obtain ⟨A', c', rfl, ho, hn⟩ := ow_of h2
  exact ⟨A', c', w', h1, ho, hn, pw_below_grown b1 _ (by simp) h3 (fun k hk => by simp [Value.ownBlock] at hk; omega)⟩
/-- An append by its run. -/
theorem wp_append_by {P : Program} {w w' : World} {ops : Array Oper} {rest : List Oper} {o : Oper} {a : Act} {Q : Exit → Act → World → Prop} (hgd : o.guard = none) (s x : Operand) (t : TypeId)
    (ho : o.op = .call { callee := .builtin .append, args := #[s, x], argTypes := #[t, t] }) (v u r : Value) (hs : a.eval s = v) (hx : a.eval x = u)
    (hrun : (Builtin.append_ #[t, t] o.type #[v, u]).run P w = .ok r w') (h : wpList P ops Q rest (a.put o.dst r) w') : wpList P ops Q (o :: rest) a w := by
  refine wpList_plain hgd fun K hK => ?_
  unfold Oper.wp
  simp only [execOp, ho, resolve, invoke, builtin, Sem.run_bind, Sem.run_pure, Result.andThen_ok, List.map_toArray, List.map_cons, List.map_nil, hs, hx, hrun]
  exact hK _ _ h
/-- What Clone leaves. -/
def Cloned (n : Nat) (vs : Nat → Value) (w : World) (e : Ending) (w' : World) : Prop := ∃ A' c', e = .returned (.slice A' n c') ∧ Ow A' n vs w.heap.size w' ∧ n ≤ c' ∧ Below w.heap.size w w'
theorem clone_ints (A : Option Addr) (n c : Nat) (vs : Nat → Value) (w : World) (hR : Aside0 (RV A n vs w)) (hone : Aside0 (∀ i, i < n → (vs i).oneCell' = true)) (hb : n * 8 ≤ 140737488355328) :
    Calls Try.prog 35 #[.slice A n c] w (Cloned n vs w) := by
  cases A with
  | none =>
    obtain rfl : n = 0 := by rcases hR.out with h | ⟨_, h, _⟩; · exact h
                             · cases h
    have hq := Lib.run_eql_slice_nil (P := Try.prog) w 22 3 none 0 c 0 0 Try.underlying22
    go_enter Try.func35, Try.ntmps35
    go_wp2
    go_ret
    exact ⟨none, 0, rfl, .inl ⟨rfl, rfl⟩, Nat.le_refl _, Below.refl _ _⟩
  | some a =>
    obtain ⟨A', c', w', hr, h1, h2, h3⟩ := append_clone 22 3 8 (.int .i64 0) rfl Try.underlying22 info3 w a n c vs hR.out hone.out (by unfold maxLen; omega) hb
    have hr := Aside0.mk hr
    have h1 := Aside0.mk h1
    have h2 := Aside0.mk h2
    have hq := Lib.run_eql_slice_nil (P := Try.prog) w 22 3 (some a) n c 0 0 Try.underlying22
    go_enter Try.func35, Try.ntmps35
    go_wp2_with (first | (at_builtin; refine wp_append_by rfl _ _ 22 rfl _ _ _ rfl rfl hr.out ?_))
    go_ret
    exact ⟨A', c', rfl, h1.out, h2.out, h3⟩
theorem clone_rows (A : Option Addr) (n c : Nat) (vs : Nat → Value) (w : World) (hR : Aside0 (RV A n vs w)) (hone : Aside0 (∀ i, i < n → (vs i).oneCell' = true)) (hb : n * 24 ≤ 140737488355328) :
    Calls Try.prog 38 #[.slice A n c] w (Cloned n vs w) := by
  cases A with
  | none =>
    obtain rfl : n = 0 := by rcases hR.out with h | ⟨_, h, _⟩; · exact h
                             · cases h
    have hq := Lib.run_eql_slice_nil (P := Try.prog) w 23 22 none 0 c 0 0 Try.underlying23
    go_enter Try.func38, Try.ntmps38
    go_wp2
    go_ret
    exact ⟨none, 0, rfl, .inl ⟨rfl, rfl⟩, Nat.le_refl _, Below.refl _ _⟩
  | some a =>
    obtain ⟨A', c', w', hr, h1, h2, h3⟩ := append_clone 23 22 24 (.slice none 0 0) rfl Try.underlying23 info22 w a n c vs hR.out hone.out (by unfold maxLen; omega) hb
    have hr := Aside0.mk hr
    have h1 := Aside0.mk h1
    have h2 := Aside0.mk h2
    have hq := Lib.run_eql_slice_nil (P := Try.prog) w 23 22 (some a) n c 0 0 Try.underlying23
    go_enter Try.func38, Try.ntmps38
    go_wp2_with (first | (at_builtin; refine wp_append_by rfl _ _ 23 rfl _ _ _ rfl rfl hr.out ?_))
    go_ret
    exact ⟨A', c', rfl, h1.out, h2.out, h3⟩
end Go.Proofs.Ytlgoincnopfnjaa.Led
