/- The walk of the statement TapeAlike. -/
import Derived.Test.YteiocdbkilfnkaaTapeF
import Derived.Laws.AppendOwn
import Derived.Laws.AppendOwnNone
import Derived.OwnWalk
import Derived.Deep.RegionHeld
namespace Go.Proofs.Yteiocdbkilfnkaa.Tape
open Go Go.RowKit Go.Conc Go.Proofs.YteiocdbkilfnkaaW.PrintWords Go.Proofs.YteiocdbkilfnkaaW.PrintMore
attribute [local go_sem] max2_int min2_int max_two min_two

theorem info3 : (Try.prog.info? 3).map (fun i => (i.zero, i.size, i.bytes)) = some (some (.int .i64 0), 1, 8) := by kernel_rfl
/-- The elements as values. -/
def vals (m : Nat) (f : Nat → Int) : List Value := (List.range m).map fun i => .int .i64 (f i)
theorem vals_get {m : Nat} {f : Nat → Int} {j : Nat} {u : Value} (h : (vals m f)[j]? = some u) : j < m ∧ u = .int .i64 (f j) := by
  unfold vals at h
  rw [List.getElem?_map, Option.map_eq_some_iff] at h
  obtain ⟨k, hk, rfl⟩ := h
  have h1 : j < m := by
    rcases Nat.lt_or_ge j m with h | h
    · exact h
    · rw [List.getElem?_eq_none (by simpa using h)] at hk; cases hk
  rw [List.getElem?_range h1] at hk
  cases hk
  exact ⟨h1, rfl⟩
/-- One list of elements behind another one. -/
def app (n : Nat) (f g : Nat → Int) : Nat → Int := fun i => if i < n then f i else g (i - n)
theorem append_any (base : Nat) (w : World) (v : Value) (n : Nat) (xs : List Value) (hown : w.ownsRow base 3 1 v n xs) (A : Option Addr) (m c : Nat) (f : Nat → Int) (hR : Reads A m f w) (hnil : A = none → m = 0 ∧ c = 0)
    (hb : (n + m) * 8 ≤ 140737488355328) (hbase : base ≤ w.heap.size) :
    ∃ v' w', (Builtin.append_ #[27, 27] 27 #[v, .slice A m c]).run Try.prog w = .ok v' w' ∧ w'.ownsRow base 3 1 v' (n + m) (xs ++ vals m f) ∧ w.grownBy w' v.ownBlock := by
  obtain ⟨i, hi, hz0, hz1, hz2⟩ := info_parts info3
  cases A with
  | none =>
    obtain ⟨rfl, rfl⟩ := hnil rfl
    exact ⟨v, w, run_append_owned_none w base 27 27 3 i 1 Try.underlying27 hi v n xs hown, by simpa [vals] using hown, ⟨rfl, rfl, rfl, Nat.le_refl _, fun _ _ _ => rfl⟩⟩
  | some a =>
    obtain ⟨v', w', h1, h2, h3, _⟩ := run_append_own (P := Try.prog) w base 27 27 3 i (.int .i64 0) 1 8 Try.underlying27 hi hz0 hz1 hz2 rfl (by decide) v n xs hown a m c (vals m f) (by simp [vals])
      (fun j u hj => by
        obtain ⟨hj1, rfl⟩ := vals_get hj
        rcases hR with h | ⟨b, off, h, _, hc⟩
        · omega
        · simp only [Option.some.injEq] at h
          subst h
          rw [Go.WideShapes.add_plain]
          exact hc j hj1)
      (fun u hu => by
        obtain ⟨j, hj⟩ := List.getElem?_of_mem hu
        obtain ⟨_, rfl⟩ := vals_get hj
        rfl)
      (by unfold maxLen; omega) hb hbase
    exact ⟨v', w', h1, h2, h3⟩
/-- A slice that the call owns can be read. -/
theorem own_reads {w : World} {base n : Nat} {v : Value} {f : Nat → Int} (h : w.ownsRow base 3 1 v n (vals n f)) : ∃ A c, v = .slice A n c ∧ Reads A n f w ∧ (∀ a, A = some a → base ≤ a.block ∧ a.block < w.heap.size) := by
  rcases h.2 with ⟨rfl, rfl⟩ | ⟨g, cap, cur, rfl, hg, hb, hn, hm, hc, ht⟩
  · exact ⟨none, 0, rfl, .inl rfl, fun a h => by cases h⟩
  · have hlt : g < w.heap.size := by
      rcases Nat.lt_or_ge g w.heap.size with h1 | h1
      · exact h1
      · rw [Array.getElem?_eq_none h1] at hb; cases hb
    refine ⟨some ⟨g, 0, none⟩, cap, rfl, .inr ⟨g, 0, rfl, hlt, fun i hi => ?_⟩, fun a h => by cases h; exact ⟨hg, hlt⟩⟩
    have := h.cells (g := g) rfl i (.int .i64 (f i)) (by unfold vals; rw [List.getElem?_map, List.getElem?_range hi]; rfl)
    rw [Go.WideShapes.add_plain] at this
    simpa using this
theorem vals_append (n m : Nat) (f g : Nat → Int) : vals n f ++ vals m g = vals (n + m) (app n f g) := by
  apply List.ext_getElem?
  intro j
  unfold vals app
  rcases Nat.lt_or_ge j n with h | h
  · rw [List.getElem?_append_left (by simpa using h), List.getElem?_map, List.getElem?_map, List.getElem?_range h, List.getElem?_range (by omega)]
    simp [h]
  · rw [List.getElem?_append_right (by simpa using h)]
    simp only [List.length_map, List.length_range]
    rw [List.getElem?_map, List.getElem?_map]
    rcases Nat.lt_or_ge (j - n) m with h2 | h2
    · rw [List.getElem?_range h2, List.getElem?_range (by omega)]
      simp; omega
    · rw [List.getElem?_eq_none (by simpa using h2), List.getElem?_eq_none (by simp; omega)]
      rfl
theorem own_empty (base : Nat) (w : World) (hb : base ≤ w.heap.size) : (w.alloc (.cells #[] 3)).ownsRow base 3 1 (.slice (some ⟨w.heap.size, 0, none⟩) 0 0) 0 [] :=
  ⟨rfl, .inr ⟨w.heap.size, 0, #[], rfl, hb, heap_alloc_new w _, Nat.le_refl _, Nat.zero_le _, rfl, rfl⟩⟩
/-- Two appends to the empty slice: a slice of the call's own that can be read, and nothing that was there has changed. -/
theorem two_appends (w0 w : World) (hB : Below w0.heap.size w0 w) (A L : Option Addr) (n m c d : Nat) (f g : Nat → Int) (hA : Reads A n f w0) (hL : Reads L m g w0) (nA : A = none → n = 0 ∧ c = 0) (nL : L = none → m = 0 ∧ d = 0) (hn : n ≤ 60) (hm : m ≤ 60) :
    ∃ v1 w1 S k w2, (Builtin.append_ #[27, 27] 27 #[.slice (some ⟨w.heap.size, 0, none⟩) 0 0, .slice A n c]).run Try.prog (w.alloc (.cells #[] 3)) = .ok v1 w1 ∧
      (Builtin.append_ #[27, 27] 27 #[v1, .slice L m d]).run Try.prog w1 = .ok (.slice S (n + m) k) w2 ∧ Below w.heap.size w w2 ∧
      Reads S (n + m) (app n f g) w2 ∧ (∀ a, S = some a → w.heap.size ≤ a.block ∧ a.block < w2.heap.size) := by
  have hs := hB.size
  have b1 : Below w.heap.size w (w.alloc (.cells #[] 3)) := (Below.refl _ _).alloc (Nat.le_refl _) _
  obtain ⟨v1, w1, hr1, ho1, hg1⟩ := append_any w.heap.size (w.alloc (.cells #[] 3)) _ 0 [] (own_empty w.heap.size w (Nat.le_refl _)) A n c f (hA.below (hB.alloc hs _)) nA (by omega) (by simp)
  have b2 : Below w.heap.size w w1 := pw_below_grown b1 _ (by simp) hg1 (fun k hk => by simp [Value.ownBlock] at hk; omega)
  rw [List.nil_append, Nat.zero_add] at ho1
  have b3 := b2.size
  obtain ⟨v2, w2, hr2, ho2, hg2⟩ := append_any w.heap.size w1 v1 n _ ho1 L m d g (hL.below (below_step hB b2)) nL (by omega) b3
  have b4 : Below w.heap.size w w2 := pw_below_grown b2 _ b3 hg2 (fun k hk => (ho1.lt k hk).1)
  rw [vals_append] at ho2
  obtain ⟨S, k, rfl, hr, hl⟩ := own_reads ho2
  exact ⟨v1, w1, S, k, w2, hr1, hr2, b4, hr, hl⟩
/-- An append by its run. -/
theorem wp_append_by {P : Program} {w w' : World} {ops : Array Oper} {rest : List Oper} {o : Oper} {a : Act} {Q : Exit → Act → World → Prop} (hgd : o.guard = none) (s x : Operand) (t : TypeId)
    (ho : o.op = .call { callee := .builtin .append, args := #[s, x], argTypes := #[t, t] }) (v u r : Value) (hs : a.eval s = v) (hx : a.eval x = u)
    (hrun : (Builtin.append_ #[t, t] o.type #[v, u]).run P w = .ok r w') (h : wpList P ops Q rest (a.put o.dst r) w') : wpList P ops Q (o :: rest) a w := by
  refine wpList_plain hgd fun K hK => ?_
  unfold Oper.wp
  simp only [execOp, ho, resolve, invoke, builtin, Sem.run_bind, Sem.run_pure, Result.andThen_ok, List.map_toArray, List.map_cons, List.map_nil, hs, hx, hrun]
  exact hK _ _ h
theorem alike_out (A B L : Option Addr) (n1 n2 n c1 c2 c : Nat) (m : Int) (w : World) (h : 60 < (n1 : Int) ∨ 60 < (n2 : Int) ∨ 60 < (n : Int)) :
    Calls Try.prog 9 #[.slice A n1 c1, .slice B n2 c2, .slice L n c, .int .i64 m] w fun e w' => e = .returned (.bool true) ∧ Below w.heap.size w w' := by
  by_cases h1 : 60 < (n1 : Int)
  · clear h
    go_enter Try.func9, Try.ntmps9
    go_wp2_with (first | (go_at_call 21; (with_reducible refine (shown_any _).mono ?_); rintro e w1 ⟨rfl, hb⟩))
    go_ret
    exact ⟨rfl, hb⟩
  · by_cases h2 : 60 < (n2 : Int)
    · clear h
      go_enter Try.func9, Try.ntmps9
      go_wp2_with (first | (go_at_call 21; (with_reducible refine (shown_any _).mono ?_); rintro e w1 ⟨rfl, hb⟩))
      go_ret
      exact ⟨rfl, hb⟩
    · have h3 : 60 < (n : Int) := by omega
      clear h
      go_enter Try.func9, Try.ntmps9
      go_wp2_with (first | (go_at_call 21; (with_reducible refine (shown_any _).mono ?_); rintro e w1 ⟨rfl, hb⟩))
      go_ret
      exact ⟨rfl, hb⟩
theorem alike_facts (n1 n2 n k : Nat) (f1 f2 g : Nat → Int) (m : Int) (hk : k ≤ n) (q1 : n1 ≤ 60) (q2 : n2 ≤ 60) (q3 : n ≤ 60) :
    ∃ R V1 V2 D Z1 Z2 Lf x y e : Int, Hid (posOf n k + n1 = x) ∧ Hid (posOf n k + n2 = y) ∧ Hid (-9223372036854775808 ≤ x ∧ x ≤ 9223372036854775807) ∧ Hid (-9223372036854775808 ≤ y ∧ y ≤ 9223372036854775807) ∧
      Hid (belowD (n1 + n) (app n1 f1 g) x m = R) ∧ Hid (belowD (n2 + n) (app n2 f2 g) y m = R) ∧ Hid (belowY (n1 + n) x m = V1) ∧ Hid (belowY (n2 + n) y m = V2) ∧
      Hid (nextD (n1 + n) (app n1 f1 g) x = D) ∧ Hid (nextD (n2 + n) (app n2 f2 g) y = D) ∧ Hid (nextY (n1 + n) x = Z1) ∧ Hid (nextY (n2 + n) y = Z2) ∧
      Hid (leftS (n1 + n) x = Lf) ∧ Hid (leftS (n2 + n) y = Lf) ∧ Hid (IntKind.i64.wrap (V1 - x) = e) ∧ Hid (IntKind.i64.wrap (V2 - y) = e) ∧ Hid (Z1 = posOf n (k + 1) + n1) ∧ Hid (Z2 = posOf n (k + 1) + n2) := by
  have hp : posOf n k = (k : Int) := by unfold posOf; split <;> omega
  have hD : nextD (n1 + n) (app n1 f1 g) ((k : Int) + n1) = (if k < n then g k else 0) := by
    unfold nextD app
    by_cases h : k < n
    · rw [if_pos (by omega), if_pos h]
      have e1 : ((k : Int) + n1).toNat = k + n1 := by omega
      simp [e1]
      intro h3; omega
    · rw [if_neg (by omega), if_neg h]
  have hD' : nextD (n2 + n) (app n2 f2 g) ((k : Int) + n2) = (if k < n then g k else 0) := by
    unfold nextD app
    by_cases h : k < n
    · rw [if_pos (by omega), if_pos h]
      have e1 : ((k : Int) + n2).toNat = k + n2 := by omega
      simp [e1]
      intro h3; omega
    · rw [if_neg (by omega), if_neg h]
  have hY : nextY (n1 + n) ((k : Int) + n1) = posOf n (k + 1) + n1 := by unfold nextY posOf; (repeat' split) <;> omega
  have hY' : nextY (n2 + n) ((k : Int) + n2) = posOf n (k + 1) + n2 := by unfold nextY posOf; (repeat' split) <;> omega
  have hs : 0 ≤ posOf n (k + 1) ∧ posOf n (k + 1) ≤ 60 := by unfold posOf; split <;> omega
  rw [hp]
  refine ⟨_, _, _, _, _, _, _, _, _, (if m < 1 then 0 else posOf n (k + 1) - k), rfl, rfl, ⟨by omega, by omega⟩, ⟨by omega, by omega⟩, rfl, ?_, rfl, rfl, hD, hD', rfl, rfl, rfl, ?_, ?_, ?_, hY, hY'⟩
  · change belowD _ _ _ _ = belowD _ _ _ _
    unfold belowD
    rw [hD, hD']
  · change leftS _ _ = leftS _ _
    unfold leftS
    (repeat' split) <;> omega
  · change IntKind.i64.wrap _ = _
    unfold belowY
    rw [hY, Go.IntKind.wrap_i64]
    split <;> omega
  · change IntKind.i64.wrap _ = _
    unfold belowY
    rw [hY', Go.IntKind.wrap_i64]
    split <;> omega
theorem Reads.set {A : Option Addr} {n : Nat} {f : Nat → Int} {w : World} (h : Reads A n f w) (b k : Nat) (v : Value) (hd : ∀ a, A = some a → a.block ≠ b) : Reads A n f (w.setCell ⟨b, k, none⟩ v) := by
  rcases h with h | ⟨c, off, rfl, h1, h2⟩
  · exact .inl h
  · have := hd _ rfl
    exact .inr ⟨c, off, rfl, by simpa using h1, fun i hi => by
      rw [← h2 i hi]
      exact World.cell?_setCell_far w ⟨b, k, none⟩ ⟨c, off + i, none⟩ v (Ne.symm this)⟩
theorem BF.set {b g : Nat} {A : Option Addr} {n c : Nat} {x : Int} {w : World} (h : BF b A n c x w) (k : Nat) (v : Value) (hd : b ≠ g) : BF b A n c x (w.setCell ⟨g, k, none⟩ v) := by
  obtain ⟨⟨h1, h2, h3⟩, h4, h5⟩ := h
  exact ⟨⟨by simpa using h1, (World.cell?_setCell_far w ⟨g, k, none⟩ ⟨b, 0, none⟩ v (Ne.symm hd)).trans h2, (World.cell?_setCell_far w ⟨g, k, none⟩ ⟨b, 1, none⟩ v (Ne.symm hd)).trans h3⟩, by rw [← h4]; simp, by rw [← h5]; simp⟩
/-- The two tapes in a later world. -/
structure Al (S1 S2 : Option Addr) (N1 k1 N2 k2 : Nat) (F1 F2 : Nat → Int) (bt bu : Nat) (x y : Int) (w0 w : World) : Prop where
  hb : Below w0.heap.size w0 w
  ra : Reads S1 N1 F1 w
  rb : Reads S2 N2 F2 w
  fx : BF bt S1 N1 k1 x w
  fy : BF bu S2 N2 k2 y w
theorem Al.below {S1 S2 : Option Addr} {N1 k1 N2 k2 : Nat} {F1 F2 : Nat → Int} {bt bu : Nat} {x y : Int} {w0 w w' : World} (h : Al S1 S2 N1 k1 N2 k2 F1 F2 bt bu x y w0 w) (hb : Below w.heap.size w w') : Al S1 S2 N1 k1 N2 k2 F1 F2 bt bu x y w0 w' :=
  ⟨below_step h.hb hb, h.ra.below hb, h.rb.below hb, h.fx.below hb, h.fy.below hb⟩
theorem Al.alloc {S1 S2 : Option Addr} {N1 k1 N2 k2 : Nat} {F1 F2 : Nat → Int} {bt bu : Nat} {x y : Int} {w0 w : World} (h : Al S1 S2 N1 k1 N2 k2 F1 F2 bt bu x y w0 w) (o : Obj) : Al S1 S2 N1 k1 N2 k2 F1 F2 bt bu x y w0 (w.alloc o) := h.below ((Below.refl _ _).alloc (Nat.le_refl _) o)
theorem Al.put {S1 S2 : Option Addr} {N1 k1 N2 k2 : Nat} {F1 F2 : Nat → Int} {bt bu : Nat} {x y : Int} {w0 w : World} (h : Al S1 S2 N1 k1 N2 k2 F1 F2 bt bu x y w0 w) (x' y' : Int) (ht : w0.heap.size ≤ bt) (hu : w0.heap.size ≤ bu) (hd : bt ≠ bu)
    (d1 : ∀ a, S1 = some a → a.block ≠ bt ∧ a.block ≠ bu) (d2 : ∀ a, S2 = some a → a.block ≠ bt ∧ a.block ≠ bu) :
    Al S1 S2 N1 k1 N2 k2 F1 F2 bt bu x' y' w0 ((((w.setCell ⟨bt, 0, none⟩ (.slice S1 N1 k1)).setCell ⟨bt, 1, none⟩ (.int .i64 x')).setCell ⟨bu, 0, none⟩ (.slice S2 N2 k2)).setCell ⟨bu, 1, none⟩ (.int .i64 y')) := by
  refine ⟨(((h.hb.setCell ht _).setCell ht _).setCell hu _).setCell hu _, ?_, ?_, ?_, ?_⟩
  · exact (((h.ra.set _ _ _ fun a e => (d1 a e).1).set _ _ _ fun a e => (d1 a e).1).set _ _ _ fun a e => (d1 a e).2).set _ _ _ fun a e => (d1 a e).2
  · exact (((h.rb.set _ _ _ fun a e => (d2 a e).1).set _ _ _ fun a e => (d2 a e).1).set _ _ _ fun a e => (d2 a e).2).set _ _ _ fun a e => (d2 a e).2
  · exact ((h.fx.put x').set _ _ hd).set _ _ hd
  · exact ((h.fy.set _ _ (Ne.symm hd)).set _ _ (Ne.symm hd)).put y'
/-- .. and the four tapes that a round makes. -/
structure Am (S1 S2 : Option Addr) (N1 k1 N2 k2 : Nat) (F1 F2 : Nat → Int) (bt bu : Nat) (x y : Int) (b13 b15 b17 b19 : Nat) (V1 V2 Z1 Z2 : Int) (w0 w : World) : Prop where
  al : Al S1 S2 N1 k1 N2 k2 F1 F2 bt bu x y w0 w
  x13 : BX b13 S1 N1 k1 V1 w
  x15 : BX b15 S2 N2 k2 V2 w
  x17 : BX b17 S1 N1 k1 Z1 w
  x19 : BX b19 S2 N2 k2 Z2 w
theorem Am.below {S1 S2 : Option Addr} {N1 k1 N2 k2 : Nat} {F1 F2 : Nat → Int} {bt bu : Nat} {x y : Int} {b13 b15 b17 b19 : Nat} {V1 V2 Z1 Z2 : Int} {w0 w w' : World} (h : Am S1 S2 N1 k1 N2 k2 F1 F2 bt bu x y b13 b15 b17 b19 V1 V2 Z1 Z2 w0 w) (hb : Below w.heap.size w w') : Am S1 S2 N1 k1 N2 k2 F1 F2 bt bu x y b13 b15 b17 b19 V1 V2 Z1 Z2 w0 w' :=
  ⟨h.al.below hb, h.x13.below hb, h.x15.below hb, h.x17.below hb, h.x19.below hb⟩
theorem am_of {S1 S2 : Option Addr} {N1 k1 N2 k2 : Nat} {F1 F2 : Nat → Int} {bt bu : Nat} {x y : Int} {b13 b15 b17 b19 : Nat} {V1 V2 Z1 Z2 : Int} {w w' : World} (h : w'.cell? ⟨bt, 0, none⟩ = some (.slice S1 N1 k1) ∧ w'.cell? ⟨bt, 1, none⟩ = some (.int .i64 x) ∧ w'.cell? ⟨bu, 0, none⟩ = some (.slice S2 N2 k2) ∧ w'.cell? ⟨bu, 1, none⟩ = some (.int .i64 y) ∧ w'.cell? ⟨b13, 1, none⟩ = some (.int .i64 V1) ∧ w'.cell? ⟨b15, 1, none⟩ = some (.int .i64 V2) ∧ Aside0 (Am S1 S2 N1 k1 N2 k2 F1 F2 bt bu x y b13 b15 b17 b19 V1 V2 Z1 Z2 w w')) : Am S1 S2 N1 k1 N2 k2 F1 F2 bt bu x y b13 b15 b17 b19 V1 V2 Z1 Z2 w w' := h.2.2.2.2.2.2.out
theorem Am.cells {S1 S2 : Option Addr} {N1 k1 N2 k2 : Nat} {F1 F2 : Nat → Int} {bt bu : Nat} {x y : Int} {b13 b15 b17 b19 : Nat} {V1 V2 Z1 Z2 : Int} {w w' : World} (h : Am S1 S2 N1 k1 N2 k2 F1 F2 bt bu x y b13 b15 b17 b19 V1 V2 Z1 Z2 w w') : w'.cell? ⟨bt, 0, none⟩ = some (.slice S1 N1 k1) ∧ w'.cell? ⟨bt, 1, none⟩ = some (.int .i64 x) ∧ w'.cell? ⟨bu, 0, none⟩ = some (.slice S2 N2 k2) ∧ w'.cell? ⟨bu, 1, none⟩ = some (.int .i64 y) ∧ w'.cell? ⟨b13, 1, none⟩ = some (.int .i64 V1) ∧ w'.cell? ⟨b15, 1, none⟩ = some (.int .i64 V2) ∧ Aside0 (Am S1 S2 N1 k1 N2 k2 F1 F2 bt bu x y b13 b15 b17 b19 V1 V2 Z1 Z2 w w') :=
  ⟨h.al.fx.1.2.1, h.al.fx.1.2.2, h.al.fy.1.2.1, h.al.fy.1.2.2, h.x13.2.2, h.x15.2.2, Aside0.mk h⟩
set_option maxHeartbeats 4000000 in
set_option maxRecDepth 100000 in
theorem alike_in (A B L : Option Addr) (n1 n2 n c1 c2 c : Nat) (f1 f2 g : Nat → Int) (m : Int) (w : World) (hA : Aside0 (Reads A n1 f1 w)) (hB : Aside0 (Reads B n2 f2 w)) (hL : Aside0 (Reads L n g w))
    (nA : Hid (A = none → n1 = 0 ∧ c1 = 0)) (nB : Hid (B = none → n2 = 0 ∧ c2 = 0)) (nL : Hid (L = none → n = 0 ∧ c = 0)) (q1 : (n1 : Int) ≤ 60) (q2 : (n2 : Int) ≤ 60) (q3 : (n : Int) ≤ 60) (hm : Hid (m ≤ 9223372036854775807)) :
    Calls Try.prog 9 #[.slice A n1 c1, .slice B n2 c2, .slice L n c, .int .i64 m] w fun e w' => e = .returned (.bool true) ∧ Below w.heap.size w w' := by
  go_enter Try.func9, Try.ntmps9
  go_upto_region 3 with (first | (go_at_call 21; (with_reducible refine (shown_any _).mono ?_); rintro e wa ⟨rfl, hb⟩; have HB := Aside0.mk hb; clear hb))
  obtain ⟨v1, w1, S1, k1, w2, hr1, hr2, b1, R1, l1⟩ := two_appends w wa HB.out A L n1 n c1 c f1 g hA.out hL.out nA.out nL.out (by omega) (by omega)
  have HB2 := Aside0.mk (below_step HB.out b1)
  have R1 := Aside0.mk R1
  have l1 := Aside0.mk l1
  have hr1 := Aside0.mk hr1
  have hr2 := Aside0.mk hr2
  clear b1
  go_upto_region 4 with (first | (at_builtin; refine wp_append_by rfl _ _ 27 rfl _ _ _ rfl rfl hr1.out ?_) | (at_builtin; refine wp_append_by rfl _ _ 27 rfl _ _ _ rfl rfl hr2.out ?_))
  have HB3 := Aside0.mk (below_alloc HB2.out (.cells #[.slice S1 (n1 + n) k1, .int .i64 (n1 : Int)] 29))
  obtain ⟨v3, w3, S2, k2, w4, hr3, hr4, b2, R2, l2⟩ := two_appends w _ HB3.out B L n2 n c2 c f2 g hB.out hL.out nB.out nL.out (by omega) (by omega)
  rw [World.size_alloc] at hr3
  have hr3 := Aside0.mk hr3
  have hr4 := Aside0.mk hr4
  have hz2 := HB2.out.size
  have hz4 : w2.heap.size + 1 ≤ w4.heap.size := by simpa using b2.size
  have hp0 : posOf n 0 = 0 := by unfold posOf; split <;> omega
  have hAl : Aside0 (Al S1 S2 (n1 + n) k1 (n2 + n) k2 (app n1 f1 g) (app n2 f2 g) w2.heap.size w4.heap.size (posOf n 0 + n1) (posOf n 0 + n2) w (w4.alloc (.cells #[.slice S2 (n2 + n) k2, .int .i64 (n2 : Int)] 29))) := by
    refine Aside0.mk ⟨(below_step HB3.out b2).alloc (by omega) _, ?_, (R2.below ((Below.refl _ _).alloc (Nat.le_refl _) _)), ?_, ?_⟩
    · exact (R1.out.below (below_alloc (Below.refl _ _) _)).below b2 |>.below ((Below.refl _ _).alloc (Nat.le_refl _) _)
    · rw [hp0, Int.zero_add]
      exact ((BF.new w2 29).below b2).alloc _
    · rw [hp0, Int.zero_add]
      exact BF.new w4 29
  have hd : Aside0 (w.heap.size ≤ w2.heap.size ∧ w.heap.size ≤ w4.heap.size ∧ w2.heap.size ≠ w4.heap.size ∧ (∀ a, S1 = some a → a.block ≠ w2.heap.size ∧ a.block ≠ w4.heap.size) ∧ (∀ a, S2 = some a → a.block ≠ w2.heap.size ∧ a.block ≠ w4.heap.size)) := by
    refine Aside0.mk ⟨hz2, by omega, by omega, fun a e => ?_, fun a e => ?_⟩
    · have := (l1.out a e).2
      omega
    · have := l2 a e
      simp only [World.size_alloc] at this
      omega
  clear hp0 hz2 hz4 R1 R2 l1 l2 b2 HB HB2 HB3 hr1 hr2 hA hB
  go_upto_region 6 with (first | (at_builtin; refine wp_append_by rfl _ _ 27 rfl _ _ _ rfl rfl hr3.out ?_) | (at_builtin; refine wp_append_by rfl _ _ 27 rfl _ _ _ rfl rfl hr4.out ?_))
  clear hr3 hr4
  generalize w4.alloc (.cells #[.slice S2 (n2 + n) k2, .int .i64 (n2 : Int)] 29) = W0 at hAl ⊢
  generalize w2.heap.size = bt at hAl hd ⊢
  generalize w4.heap.size = bu at hAl hd ⊢
  have hm' := hm
  go_loopw [11, 12, 13, 14, 15, 16, 17, 18, 19] (fun i _ _ _ _ _ _ _ _ wr => ∃ k : Nat, k ≤ n + 1 ∧ i = .int .i64 k ∧ Aside0 (Al S1 S2 (n1 + n) k1 (n2 + n) k2 (app n1 f1 g) (app n2 f2 g) bt bu (posOf n k + n1) (posOf n k + n2) w wr)) (fun i _ _ _ _ _ _ _ _ _ => n + 1 - (intOf i).toNat)
  case atStart => exact ⟨0, by omega, rfl, hAl⟩
  case round =>
    clear hAl
    obtain ⟨k, hk, rfl, hAl⟩ := hrel
    by_cases hlt : k ≤ n
    · have g1 : (k : Int) ≤ (n : Int) := by omega
      obtain ⟨R, V1, V2, D, Z1, Z2, Lf, x, y, e, hx, hy, hxx, hyy, hR1, hR2, hV1, hV2, hD1, hD2, hZ1, hZ2, hL1, hL2, hw1, hw2, hz1, hz2⟩ := alike_facts n1 n2 n k f1 f2 g m hlt (by omega) (by omega) (by omega)
      have hnn1 : Hid (((n1 + n : Nat) : Int) ≤ 9223372036854775807) := by change _ ≤ _; omega
      have hnn2 : Hid (((n2 + n : Nat) : Int) ≤ 9223372036854775807) := by change _ ≤ _; omega
      rw [hx.out, hy.out] at hAl
      obtain ⟨tok1, tok2, tok3, tok4⟩ : True ∧ True ∧ True ∧ True := ⟨trivial, trivial, trivial, trivial⟩
      obtain ⟨⟨xz, x0, x1⟩, xf, xg⟩ := hAl.out.fx
      obtain ⟨⟨yz, y0, y1⟩, yf, yg⟩ := hAl.out.fy
      go_upto_region 12 with (first | (go_at_call 25; have _t := tok1; (with_reducible refine (below_is S1 (n1 + n) k1 _ x m R V1 _ ?_ hxx hnn1 hm hR1 hV1).mono ?_); (case refine_1 => exact hAl.out.ra); rintro e w5 ⟨rfl, hb⟩; clear tok1 _t; have n0_ := Aside0.mk (hAl.out.below hb); clear hAl; have hAl := n0_; clear n0_; clear hb; obtain ⟨⟨xz, x0, x1⟩, xf, xg⟩ := hAl.out.fx; obtain ⟨⟨yz, y0, y1⟩, yf, yg⟩ := hAl.out.fy; have xn := Nat.ne_of_lt xz; have xm := (Nat.ne_of_lt xz).symm; have yn := Nat.ne_of_lt yz; have ym := (Nat.ne_of_lt yz).symm) | (go_at_call 25; have _t := tok2; (with_reducible refine (below_is S2 (n2 + n) k2 _ y m R V2 _ ?_ hyy hnn2 hm hR2 hV2).mono ?_); (case refine_1 => exact (hAl.out.alloc _).rb); rintro e w6 ⟨rfl, hb⟩; clear tok2 _t; have X13 := Aside0.mk (BX.below (BX.new (A := S1) (n := n1 + n) (c := k1) (x := V1) w5 29) hb); have n0_ := Aside0.mk ((hAl.out.alloc _).below hb); clear hAl; have hAl := n0_; clear n0_; clear hb; obtain ⟨⟨xz, x0, x1⟩, xf, xg⟩ := hAl.out.fx; obtain ⟨⟨yz, y0, y1⟩, yf, yg⟩ := hAl.out.fy; have xn := Nat.ne_of_lt xz; have xm := (Nat.ne_of_lt xz).symm; have yn := Nat.ne_of_lt yz; have ym := (Nat.ne_of_lt yz).symm) | (go_at_call 22; have _t := tok3; (with_reducible refine (next_is S1 (n1 + n) k1 _ x D Z1 _ ?_ hxx hnn1 hD1 hZ1).mono ?_); (case refine_1 => exact (hAl.out.alloc _).ra); rintro e w7 ⟨rfl, hb⟩; clear tok3 _t; have X15 := Aside0.mk (BX.below (BX.new (A := S2) (n := n2 + n) (c := k2) (x := V2) w6 29) hb); have n1_ := Aside0.mk ((X13.out.alloc _).below hb); clear X13; have X13 := n1_; clear n1_; have n0_ := Aside0.mk ((hAl.out.alloc _).below hb); clear hAl; have hAl := n0_; clear n0_; clear hb; obtain ⟨⟨xz, x0, x1⟩, xf, xg⟩ := hAl.out.fx; obtain ⟨⟨yz, y0, y1⟩, yf, yg⟩ := hAl.out.fy; have xn := Nat.ne_of_lt xz; have xm := (Nat.ne_of_lt xz).symm; have yn := Nat.ne_of_lt yz; have ym := (Nat.ne_of_lt yz).symm) | (go_at_call 22; have _t := tok4; (with_reducible refine (next_is S2 (n2 + n) k2 _ y D Z2 _ ?_ hyy hnn2 hD2 hZ2).mono ?_); (case refine_1 => exact (hAl.out.alloc _).rb); rintro e w8 ⟨rfl, hb⟩; clear tok4 _t; have X17 := Aside0.mk (BX.below (BX.new (A := S1) (n := n1 + n) (c := k1) (x := Z1) w7 29) hb); have n1_ := Aside0.mk ((X13.out.alloc _).below hb); have n2_ := Aside0.mk ((X15.out.alloc _).below hb); clear X13 X15; have X13 := n1_; have X15 := n2_; clear n1_ n2_; have n0_ := Aside0.mk ((hAl.out.alloc _).below hb); clear hAl; have hAl := n0_; clear n0_; clear hb; obtain ⟨⟨xz, x0, x1⟩, xf, xg⟩ := hAl.out.fx; obtain ⟨⟨yz, y0, y1⟩, yf, yg⟩ := hAl.out.fy; have xn := Nat.ne_of_lt xz; have xm := (Nat.ne_of_lt xz).symm; have yn := Nat.ne_of_lt yz; have ym := (Nat.ne_of_lt yz).symm))
      have hmn : Aside0 (Am S1 S2 (n1 + n) k1 (n2 + n) k2 (app n1 f1 g) (app n2 f2 g) bt bu x y w5.heap.size w6.heap.size w7.heap.size w8.heap.size V1 V2 Z1 Z2 w (w8.alloc (.cells #[.slice S2 (n2 + n) k2, .int .i64 Z2] 29))) :=
        Aside0.mk ⟨hAl.out.alloc _, X13.out.alloc _, X15.out.alloc _, X17.out.alloc _, BX.new _ _⟩
      have m1 : ¬ bt = w8.heap.size := Nat.ne_of_lt hAl.out.fx.1.1
      have m2 : ¬ w8.heap.size = bt := Ne.symm m1
      have m3 : ¬ bu = w8.heap.size := Nat.ne_of_lt hAl.out.fy.1.1
      have m4 : ¬ w8.heap.size = bu := Ne.symm m3
      have m5 : ¬ bt = bu := hd.out.2.2.1
      have m6 : ¬ bu = bt := Ne.symm m5
      clear hAl X13 X15 X17 xz x0 x1 xf xg yz y0 y1 yf yg xn xm yn ym
      generalize w8.alloc (.cells #[.slice S2 (n2 + n) k2, .int .i64 Z2] 29) = W4 at hmn ⊢
      generalize w5.heap.size = b13 at hmn ⊢
      generalize w6.heap.size = b15 at hmn ⊢
      generalize w7.heap.size = b17 at hmn ⊢
      generalize w8.heap.size = b19 at hmn m1 m2 m3 m4 ⊢
      have hmd := Aside0.mk (hmn.out.below (below_drew1 (Below.refl W4.heap.size W4)))
      clear hmn
      have hw1 := hw1.out
      have hw2 := hw2.out
      go_region_held3 (fun w' => w'.cell? ⟨bt, 0, none⟩ = some (.slice S1 (n1 + n) k1) ∧ w'.cell? ⟨bt, 1, none⟩ = some (.int .i64 x) ∧ w'.cell? ⟨bu, 0, none⟩ = some (.slice S2 (n2 + n) k2) ∧ w'.cell? ⟨bu, 1, none⟩ = some (.int .i64 y) ∧ w'.cell? ⟨b13, 1, none⟩ = some (.int .i64 V1) ∧ w'.cell? ⟨b15, 1, none⟩ = some (.int .i64 V2) ∧ Aside0 (Am S1 S2 (n1 + n) k1 (n2 + n) k2 (app n1 f1 g) (app n2 f2 g) bt bu x y b13 b15 b17 b19 V1 V2 Z1 Z2 w w')) (first | exact hmd.out.cells | exact hmn.out.cells) (first | (go_at_call 28; (with_reducible refine (left_h S1 (n1 + n) k1 x Lf _ hxx hnn1 hL1).mono ?_); rintro e w9 ⟨rfl, hb⟩; have hmn := Aside0.mk ((am_of (by assumption)).below hb); clear hb) | (go_at_call 28; (with_reducible refine (left_h S2 (n2 + n) k2 y Lf _ hyy hnn2 hL2).mono ?_); rintro e wx ⟨rfl, hb⟩; have hmn := Aside0.mk ((am_of (by assumption)).below hb); clear hb))
      obtain ⟨⟨az, a0, a1⟩, af, ag⟩ := hmn.out.al.fx
      obtain ⟨⟨cz, b0, b1⟩, bf, bg⟩ := hmn.out.al.fy
      obtain ⟨_, d0, d1⟩ := hmn.out.x17
      obtain ⟨_, e0, e1⟩ := hmn.out.x19
      clear hw1 hw2
      go_wp2
      go_roundw
      case rel => exact ⟨k + 1, by omega, by go_num, Aside0.mk (by have h := hmn.out.al.put Z1 Z2 hd.out.1 hd.out.2.1 m5 hd.out.2.2.2.1 hd.out.2.2.2.2; rw [hz1.out, hz2.out] at h ⊢; exact h)⟩
      case measure => simp [intOf]; omega
    · have g1 : ¬ (k : Int) ≤ (n : Int) := by omega
      go_wp2
      go_ret
      exact ⟨rfl, hAl.out.hb⟩
theorem alike_law (A B L : Option Addr) (n1 n2 n c1 c2 c : Nat) (f1 f2 g : Nat → Int) (m : Int) (w : World) (hA : Reads A n1 f1 w) (hB : Reads B n2 f2 w) (hL : Reads L n g w)
    (nA : A = none → n1 = 0 ∧ c1 = 0) (nB : B = none → n2 = 0 ∧ c2 = 0) (nL : L = none → n = 0 ∧ c = 0) (hm : m ≤ 9223372036854775807) :
    Calls Try.prog 9 #[.slice A n1 c1, .slice B n2 c2, .slice L n c, .int .i64 m] w fun e w' => e = .returned (.bool true) ∧ Below w.heap.size w w' := by
  by_cases h : 60 < (n1 : Int) ∨ 60 < (n2 : Int) ∨ 60 < (n : Int)
  · exact alike_out A B L n1 n2 n c1 c2 c m w h
  · exact alike_in A B L n1 n2 n c1 c2 c f1 f2 g m w (Aside0.mk hA) (Aside0.mk hB) (Aside0.mk hL) nA nB nL (by omega) (by omega) (by omega) hm
end Go.Proofs.Yteiocdbkilfnkaa.Tape
