/- Part 2 of the proof of TopTake: TopT, TopU, TopV, TopI, TopJ, TopX, TopY, TopH, TopB, TopW. -/
import Derived.Test.YtgbkjnikcnjbkaaGreatZt1
import Derived.Conc.LoneSelect
import Derived.Great.BuildSlice
import Derived.MapKept
import Derived.ScopeJumps
namespace Go.Proofs.YtgbkjnikcnjbkaaGreat.Top
open Go Go.Proofs.YtgbkjnikcnjbkaaGreatW.PrintLast Go.Proofs.YtgbkjnikcnjbkaaGreatW.PrintMore Go.Proofs.YtgbkjnikcnjbkaaGreatW.PrintWords Go.RowKit
set_option linter.unusedSimpArgs false
set_option linter.unusedVariables false
section
/-- Nothing, or a block, its capacity, its cells. -/
abbrev Gr := Option (Nat × Nat × Array Value)
def Gr.box (e : TypeId) : Gr → Bxs
  | none => []
  | some (g, _, cur) => [(g, Ce e cur)]
def Gr.val (R : Gr) (n : Nat) : Value := match R with
  | none => .slice none 0 0
  | some (g, c, _) => .slice (some ⟨g, 0, none⟩) n c
def Gr.hd (R : Gr) : Hd := match R with
  | none => hd0
  | some (g, c, _) => ⟨some ⟨g, 0, none⟩, c⟩
def Gr.Ok (sz : Nat) (R : Gr) (n : Nat) (cs : List Value) : Prop := cs.length = n * sz ∧ match R with
  | none => n = 0
  | some (_, c, cur) => n ≤ c ∧ cur.size = c * sz ∧ cur.toList.take (n * sz) = cs
theorem Gr.val_hd {sz n : Nat} {cs : List Value} {R : Gr} (h : R.Ok sz n cs) : R.val n = .slice R.hd.A n R.hd.c := by
  cases R with
  | none => have := h.2; simp only at this; subst this; rfl
  | some r => rfl
theorem Gr.nil (sz : Nat) : Gr.Ok sz none 0 [] := ⟨by simp, rfl⟩
variable {w0 W W' : World} {L : Nat → Prop} {l l' : Bxs} {F : Fct}
theorem Bs.perm : ∀ {l l' : Bxs}, l.Perm l' → Bs l W → Bs l' W := by
  intro l l' h
  induction h with
  | nil => exact id
  | cons x h ih => exact fun b => ⟨b.1, fun y hy => b.2.1 y (h.mem_iff.2 hy), ih b.2.2⟩
  | swap x y l =>
    intro b
    obtain ⟨b1, b2, b3, b4, b5⟩ := b
    refine ⟨b3, fun z hz => ?_, b1, fun z hz => b2 z (List.mem_cons_of_mem _ hz), b5⟩
    rcases List.mem_cons.1 hz with rfl | h
    · exact Ne.symm (b2 x (List.mem_cons_self ..))
    · exact b4 z h
  | trans _ _ ih1 ih2 => exact fun b => ih2 (ih1 b)
theorem Kb.perm (hp : l.Perm l') (h : Kb w0 L l F W) : Kb w0 L l' F W :=
  ⟨h.bs.perm hp, fun x hx => h.own x (hp.mem_iff.2 hx), h.below, fun O W2 g => h.kn O W2 ⟨g.size, fun k hk => (g.own k hk).imp (fun h1 => (hp.map Prod.fst).mem_iff.2 h1) id, fun k hk hl => g.block k (fun h1 => hk ((hp.map Prod.fst).mem_iff.2 h1)) hl⟩, h.cx0⟩
theorem Kb.allocEnd (h : Kb w0 L l F W) (o : Obj) : Kb w0 L (l ++ [(W.heap.size, o)]) F (W.alloc o) := (h.alloc o).perm (by simpa using (List.perm_append_comm (l₁ := [(W.heap.size, o)]) (l₂ := l)))
def apB (P : Program) (t e sz : Nat) : Bool := match P.underlying t, P.info? e with
  | some (.slice e'), some i => e' == e && i.size == sz && Nat.blt 0 sz && Nat.ble i.bytes 1000 && match i.zero with | some z => z.cells.size == sz | none => false
  | _, _ => false
theorem take_app {xs ys zs : List Value} {k : Nat} (h : (xs ++ ys).length = k) : ((xs ++ ys) ++ zs).take k = xs ++ ys := by rw [← h]; exact List.take_left
theorem run_app {t e sz ty : TypeId} (hA : apB Tryz.prog t e sz = true) {R : Gr} {n : Nat} {cs : List Value} (hok : R.Ok sz n cs) (hR : ∀ g c cur, R = some (g, c, cur) → W.heap[g]? = some (.cells cur e (0, 0)))
    (a : Addr) (m c : Nat) (news : List Value) (hl : news.length = m * sz) (hnews : ∀ j u, news[j]? = some u → W.cell? (a.add j) = some u) (h1 : ∀ u ∈ news, u.oneCell' = true) (hm : 0 < m) (hb : n + m ≤ 1000000) :
    ∃ (R' : Gr) (W' : World), (Builtin.append_ #[t, t] ty #[R.val n, .slice (some a) m c]).run Tryz.prog W = .ok (R'.val (n + m)) W' ∧ R'.Ok sz (n + m) (cs ++ news) ∧
      ∀ (w0 : World) (L : Nat → Prop) (l0 : Bxs) (F : Fct), Kb w0 L (l0 ++ R.box e) F W → Kb w0 L (l0 ++ R'.box e) F W' := by
  unfold apB at hA
  cases ht : Tryz.prog.underlying t with
  | none => simp [ht] at hA
  | some ds =>
    cases hi : Tryz.prog.info? e with
    | none => cases ds <;> simp [ht, hi] at hA
    | some i =>
      obtain ⟨e', rfl⟩ : ∃ e', ds = .slice e' := by
        cases ds with
        | slice e' => exact ⟨e', rfl⟩
        | _ => simp [ht, hi] at hA
      simp only [ht, hi] at hA
      cases hz : i.zero with
      | none => simp [hz] at hA
      | some z =>
        simp only [hz, Bool.and_eq_true, beq_iff_eq] at hA
        obtain ⟨⟨⟨⟨rfl, rfl⟩, hsz⟩, hby⟩, hzs⟩ := hA
        have hsz := Nat.le_of_ble_eq_true hsz
        have hby := Nat.le_of_ble_eq_true hby
        have hbytes : (n + m) * i.bytes ≤ 140737488355328 := Nat.le_trans (Nat.mul_le_mul hb hby) (by omega)
        have hlen : (cs ++ news).length = (n + m) * i.size := by rw [List.length_append, hok.1, hl, Nat.add_mul]
        have hml : n + m ≤ maxLen := Nat.le_trans hb (by simp [maxLen])
        have hsize : ∀ old, (cs.toArray ++ news.toArray ++ Builtin.zeroCells z.cells (grownCap W (n + m) old e' - (n + m))).size = grownCap W (n + m) old e' * i.size := fun old => by
          have hge := grownCap_ge W (n + m) old e'
          generalize grownCap W (n + m) old e' = gc at hge ⊢
          simp only [Array.size_append, List.size_toArray, size_zeroCells, hzs, hok.1, hl, ← Nat.add_mul]
          rw [show n + m + (gc - (n + m)) = gc by omega]
        have htake : ∀ old, (cs.toArray ++ news.toArray ++ Builtin.zeroCells z.cells (grownCap W (n + m) old e' - (n + m))).toList.take ((n + m) * i.size) = cs ++ news := fun old => by
          simp only [Array.toList_append]
          exact take_app hlen
        match R, hok, hR with
        | none, hok, hR =>
          have hn0 : n = 0 := hok.2
          subst hn0
          have hc0 : cs = [] := List.eq_nil_of_length_eq_zero (by simpa using hok.1)
          subst hc0
          have hr := run_append_nil (P := Tryz.prog) W t ty e' i z ht hi hz a m c news hl hnews hm (by omega) (by rw [Nat.zero_add] at hbytes; omega)
          refine ⟨some (W.heap.size, grownCap W m 0 e', news.toArray ++ Builtin.zeroCells z.cells (grownCap W m 0 e' - m)), _, by simpa [Gr.val] using hr, ⟨hlen, ?_⟩, fun w0 L l0 F k => ?_⟩
          · have h2 := hsize 0
            have h3 := htake 0
            simp only [Nat.zero_add, List.nil_append, Array.empty_append] at h2 h3 ⊢
            exact ⟨grownCap_ge W m 0 e', h2, h3⟩
          · have k' : Kb w0 L l0 F W := by simpa [Gr.box] using k
            exact k'.drew.allocEnd _
        | some (g, cap, cur), hok, hR =>
          have hg := hR g cap cur rfl
          obtain ⟨h0, hnc, hcs, htk⟩ := hok
          by_cases hroom : n + m ≤ cap
          · have hfit : n * i.size + news.length ≤ cur.size := by rw [hl, hcs, ← Nat.add_mul]; exact Nat.mul_le_mul_right _ hroom
            have hr := run_append_room (P := Tryz.prog) W t ty e' i ht hi g n cap cur hg a m c news hl hnews h1 hroom hfit
            refine ⟨some (g, cap, (cur.toList.take (n * i.size) ++ news ++ cur.toList.drop (n * i.size + news.length)).toArray), _, hr, ⟨hlen, hroom, ?_, ?_⟩, fun w0 L l0 F k => ?_⟩
            · simp only [List.size_toArray, List.length_append, List.length_take, List.length_drop, Array.length_toList]
              omega
            · simp only
              rw [htk]
              exact take_app hlen
            · have hk : (l0 ++ [(g, Ce e' cur)])[l0.length]? = some (g, Ce e' cur) := by simp
              generalize (cur.toList.take (n * i.size) ++ news ++ cur.toList.drop (n * i.size + news.length)).toArray = cur2
              have := k.swap l0.length hk (g, Ce e' cur2) (setRow_heap W g cur cur2 e' _ hg) (.inl rfl) (fun j _ hj => setRow_other W g j _ hj) (by simp) ⟨rfl, rfl, rfl⟩
              simpa [Gr.box] using this
          · have holds : ∀ j u, cs[j]? = some u → W.cell? ((⟨g, 0, none⟩ : Addr).add j) = some u := fun j u hj => by
              rw [← htk, List.getElem?_take] at hj
              split at hj
              · rw [Addr.add_lit, Nat.zero_add, cell_of_row W g j cur e' (0, 0) hg]
                simpa using hj
              · simp at hj
            have hr := run_append_grow (P := Tryz.prog) W t ty e' i z ht hi hz ⟨g, 0, none⟩ n cap cs h0 holds a m c news hl hnews (by omega) (by omega) (growslice_fits (by omega) hbytes)
            refine ⟨some (W.heap.size, grownCap W (n + m) cap e', cs.toArray ++ news.toArray ++ Builtin.zeroCells z.cells (grownCap W (n + m) cap e' - (n + m))), _, hr, ⟨hlen, grownCap_ge W (n + m) cap e', hsize cap, htake cap⟩, fun w0 L l0 F k => ?_⟩
            have k1 : Kb w0 L l0 F W := by
              have := k.leave l0.length
              simpa [Gr.box, List.eraseIdx_append_of_length_le] using this
            exact k1.drew.allocEnd _
section
variable {n : Nat} {M : List Deferred} {E : Env} {Q : Exit → Act → World → Prop} {K : Act → World → Prop} {o : Oper} {d : Nat}
theorem Kb.ow {e : TypeId} {R : Gr} (k : Kb w0 L (l ++ R.box e) F W) : ∀ g c cur, R = some (g, c, cur) → W.heap[g]? = some (.cells cur e (0, 0)) := fun g c cur h => by
  subst h
  exact k.bs.get l.length (x := (g, Ce e cur)) (by simp [Gr.box])
/-- An element, or several, behind a row of one's own. -/
theorem cC {t e sz : TypeId} {R : Gr} {nn : Nat} {cs : List Value} (l0 : Bxs) (m : Nat) {c : Nat} {a : Addr} (news : List Value) {x y : Operand} (hA : apB Tryz.prog t e sz = true) (hl0 : l = l0 ++ R.box e) (hok : R.Ok sz nn cs)
    (ho : o.op = .call { callee := .builtin .append, args := #[x, y], argTypes := #[t, t] }) (hx : ev E x = some (.slice R.hd.A nn R.hd.c)) (hy : ev E y = some (.slice (some a) m c)) (hd : o.dst = some d) (hn : Nat.blt d n = true)
    (hlen : news.length = m * sz) (hnews : ∀ W, Kb w0 L l F W → ∀ j u, news[j]? = some u → W.cell? (a.add j) = some u) (h1 : ∀ u ∈ news, u.oneCell' = true) (hm : 0 < m) (hb : nn + m ≤ 1000000)
    (h : ∀ R' : Gr, R'.Ok sz (nn + m) (cs ++ news) → St n M ((d, .slice R'.hd.A (nn + m) R'.hd.c) :: E) w0 L (l0 ++ R'.box e) F K) : Fx n M E w0 L l F Q o K := by
  refine ⟨fun c => by rw [ho]; simp, fun a' W ha hkb => ?_⟩
  have hX := ha.eval hx
  rw [← Gr.val_hd hok] at hX
  have hY := ha.eval hy
  have hnw := hnews W hkb
  subst hl0
  obtain ⟨R', W', hr, hok', hk⟩ := run_app (ty := o.type) hA hok hkb.ow a m c news hlen hnw h1 hm hb
  unfold Oper.wp
  simp only [execOp, ho, resolve, invoke, builtin, Sem.run_bind, Sem.run_pure, Result.andThen_ok, List.map_toArray, List.map_cons, List.map_nil, hX, hY, hr, Oper.upon_value, hd]
  have h2 := h R' hok'
  rw [← Gr.val_hd hok'] at h2
  exact h2 _ _ (ha.put hn _) (hk _ _ _ _ hkb)
theorem Kb.news (k : Kb w0 L l F W) (i : Nat) {g ty : Nat} {cs : Array Value} (hk : l[i]? = some (g, Ce ty cs)) : ∀ (j : Nat) (u : Value), cs.toList[j]? = some u → W.cell? ((⟨g, 0, none⟩ : Addr).add j) = some u := fun j u hj => by
  rw [Addr.add_lit, Nat.zero_add, cell_of_row W g j cs ty (0, 0) (k.bs.get i hk)]
  simpa using hj
theorem all_one {l : List Value} (h : l.all (·.oneCell') = true) : ∀ u ∈ l, u.oneCell' = true := List.all_eq_true.1 h
/-- A slice that is written out. -/
def bsP (P : Program) (t e sz len : Nat) (us : List (Nat × Value)) (cs : Array Value) : Prop := (match P.underlying t with | some (.slice e') => some e' | _ => none) = some e ∧ ((P.info? e).bind fun i => i.zero.bind fun z => if i.size == sz && Nat.blt 0 (len * sz) && Nat.ble (len * sz) 1000 then Instr.fill (fun k => some (k * i.size, i.size)) ((Array.range (len * i.size)).map (z.cells[· % z.cells.size]!)) us else none) = some cs
theorem bO {t e sz : Nat} {ps : List (Nat × Operand)} {us : List (Nat × Value)} (len : Nat) (cs : Array Value) (hb : bsP Tryz.prog t e sz len us cs) (ho : o.op = .buildSlice t len ps.toArray) (hx : evps E ps = some us) (hd : o.dst = some d) (hn : Nat.blt d n = true)
    (h : ∀ g, St n M ((d, .slice (some ⟨g, 0, none⟩) len len) :: E) w0 L ((g, Ce e cs) :: l) F K) : Fx n M E w0 L l F Q o K := by
  refine ⟨fun c => by rw [ho]; simp, fun a W ha hkb => ?_⟩
  revert ha hkb
  intro ha hkb
  have hX := evps_eval ha hx
  obtain ⟨hu, hb⟩ := hb
  have hu' : Tryz.prog.underlying t = some (.slice e) := by
    cases hq : Tryz.prog.underlying t with
    | none => simp [hq] at hu
    | some D =>
      cases D with
      | slice e' => simp [hq] at hu; subst hu; rfl
      | _ => simp [hq] at hu
  cases hi : Tryz.prog.info? e with
  | none => simp [hi] at hb
  | some i =>
    cases hz : i.zero with
    | none => simp [hi, hz] at hb
    | some z =>
      simp only [hi, hz, Option.bind_some] at hb
      split at hb
      · rename_i hc
        simp only [Bool.and_eq_true, beq_iff_eq] at hc
        obtain ⟨⟨hs, h1⟩, h2⟩ := hc
        have h1 := Nat.le_of_ble_eq_true h1
        have h2 := Nat.le_of_ble_eq_true h2
        have hr := run_buildSlice (P := Tryz.prog) W t e len us.toArray cs i z hu' hi hz (by rw [hs]; omega) (by rw [hs]; omega) (by simpa using hb)
        unfold Oper.wp
        have hr2 : (execOp a.eval o).run Tryz.prog W = .ok (.value (.slice (some ⟨W.heap.size, 0, none⟩) len len)) (W.alloc (.cells cs e)) := by simp [execOp, ho, hX, hr]
        simp only [hr2, Oper.upon_value, hd]
        exact h W.heap.size _ _ (ha.put hn _) (hkb.alloc (.cells cs e))
      · simp at hb
theorem run_app0 {t e sz ty : TypeId} (hA : apB Tryz.prog t e sz = true) (R : Gr) {n : Nat} {cs : List Value} (hok : R.Ok sz n cs) (A : Option Addr) (c : Nat) :
    (Builtin.append_ #[t, t] ty #[R.val n, .slice A 0 c]).run Tryz.prog W = .ok (R.val n) W := by
  unfold apB at hA
  cases ht : Tryz.prog.underlying t with
  | none => simp [ht] at hA
  | some ds =>
    cases hi : Tryz.prog.info? e with
    | none => cases ds <;> simp [ht, hi] at hA
    | some i =>
      obtain ⟨e', rfl⟩ : ∃ e', ds = .slice e' := by
        cases ds with
        | slice e' => exact ⟨e', rfl⟩
        | _ => simp [ht, hi] at hA
      simp only [ht, hi] at hA
      cases hz : i.zero with
      | none => simp [hz] at hA
      | some z =>
        simp only [hz, Bool.and_eq_true, beq_iff_eq] at hA
        obtain ⟨⟨⟨⟨rfl, rfl⟩, hsz⟩, hby⟩, hzs⟩ := hA
        cases R with
        | none =>
          have : n = 0 := hok.2
          subst this
          cases A <;> simp [Gr.val, Builtin.append_, run_underlying ht, sizeOf, typeInfo, hi, Builtin.lenOf, Builtin.firstCells, loadCells, loadCellsFrom]
        | some r =>
          obtain ⟨g, cap, cur⟩ := r
          have := hok.2.1
          cases A <;> simp [Gr.val, Builtin.append_, run_underlying ht, sizeOf, typeInfo, hi, Builtin.lenOf, Builtin.firstCells, loadCells, loadCellsFrom, storeCells, this]
/-- A row that can be read, behind a row of one's own. -/
theorem bY {t e sz : TypeId} {R : Gr} {nn : Nat} {cs : List Value} (l0 : Bxs) {hd : Hd} {m : Nat} {news : List Value} {x y : Operand} (hA : apB Tryz.prog t e sz = true) (hl0 : l = l0 ++ R.box e) (hok : R.Ok sz nn cs)
    (ho : o.op = .call { callee := .builtin .append, args := #[x, y], argTypes := #[t, t] }) (hx : ev E x = some (.slice R.hd.A nn R.hd.c)) (hy : ev E y = some (.slice hd.A m hd.c)) (hdd : o.dst = some d) (hn : Nat.blt d n = true)
    (hlen : news.length = m * sz) (hnews : ∀ W, Kb w0 L l F W → RS (Av L (l.map Prod.fst)) hd m news W) (h1 : ∀ u ∈ news, u.oneCell' = true) (hb : nn + m ≤ 1000000)
    (h : ∀ R' : Gr, R'.Ok sz (nn + m) (cs ++ news) → St n M ((d, .slice R'.hd.A (nn + m) R'.hd.c) :: E) w0 L (l0 ++ R'.box e) F K) : Fx n M E w0 L l F Q o K := by
  refine ⟨fun c => by rw [ho]; simp, fun a' W ha hkb => ?_⟩
  have hX := ha.eval hx
  rw [← Gr.val_hd hok] at hX
  have hY := ha.eval hy
  have hnw := hnews W hkb
  subst hl0
  by_cases hm : m = 0
  · subst hm
    have hn0 : news = [] := List.eq_nil_of_length_eq_zero (by simpa using hlen)
    subst hn0
    have hr := run_app0 (W := W) (ty := o.type) hA R hok hd.A hd.c
    unfold Oper.wp
    simp only [execOp, ho, resolve, invoke, builtin, Sem.run_bind, Sem.run_pure, Result.andThen_ok, List.map_toArray, List.map_cons, List.map_nil, hX, hY, hr, Oper.upon_value, hdd]
    have h2 := h R (by simpa using hok)
    rw [Nat.add_zero, ← Gr.val_hd hok] at h2
    exact h2 _ _ (ha.put hn _) hkb
  · have hsz : 0 < sz := by
      unfold apB at hA
      split at hA
      · simp only [Bool.and_eq_true] at hA
        exact Nat.le_of_ble_eq_true hA.1.1.2
      · simp at hA
    obtain ⟨b, oo, hAd, _, _, hc⟩ := hnw.r (by rw [hlen]; exact Nat.mul_pos (Nat.pos_of_ne_zero hm) hsz)
    obtain ⟨R', W', hr, hok', hk⟩ := run_app (ty := o.type) hA hok hkb.ow ⟨b, oo, none⟩ m hd.c news hlen (fun j u hj => by rw [Addr.add_lit]; exact hc j u hj) h1 (Nat.pos_of_ne_zero hm) hb
    rw [hAd] at hY
    unfold Oper.wp
    simp only [execOp, ho, resolve, invoke, builtin, Sem.run_bind, Sem.run_pure, Result.andThen_ok, List.map_toArray, List.map_cons, List.map_nil, hX, hY, hr, Oper.upon_value, hdd]
    have h2 := h R' hok'
    rw [← Gr.val_hd hok'] at h2
    exact h2 _ _ (ha.put hn _) (hk _ _ _ _ hkb)
theorem kH {t : TypeId} {x : Operand} {A : Option Addr} {m c : Nat} (hs : slB Tryz.prog t = true) (ho : o.op = .call { callee := .builtin .cap, args := [x].toArray, argTypes := [t].toArray }) (hx : ev E x = some (.slice A m c)) : Pu n M E o (I c) := fun a W ha => by
  have h := ha.eval hx
  obtain ⟨e, he⟩ := sl_of hs
  have hr : (Builtin.cap_ [t].toArray o.type #[.slice A m c]).run Tryz.prog W = .ok (I c) W := by simp [Builtin.cap_, goInt, run_underlying he]
  simp only [execOp, ho, resolve, invoke, builtin, Sem.run_bind, Sem.run_pure, Result.andThen_ok, List.map_toArray, List.map_cons, List.map_nil, h, hr]
/-- A slice's beginning. -/
theorem fZ {t sz : TypeId} {x y : Operand} {A : Option Addr} {m c : Nat} {i : Int} (hs : elB Tryz.prog t sz = true) (ho : o.op = .slice t x none (some y) none) (hx : ev E x = some (.slice A m c)) (hy : ev E y = some (I i)) (h0 : 0 ≤ i) (h1 : i ≤ c) (z : Nat) (hz : i.toNat = z) : Pu n M E o (.slice A z c) := fun a W ha => by
  subst hz
  have h := ha.eval hx
  have h' := ha.eval hy
  unfold elB at hs
  cases hu : Tryz.prog.underlying t with
  | none => simp [hu] at hs
  | some D =>
    cases D with
    | slice e =>
      simp only [hu, beq_iff_eq] at hs
      cases hi : Tryz.prog.info? e with
      | none => simp [hi] at hs
      | some ie =>
        have hA : (A.map fun x => x.add 0) = A := by
          cases A with
          | none => rfl
          | some q => cases q; rfl
        simp [execOp, ho, h, h', Instr.sliceAt, Instr.slice, run_underlying hu, Instr.sliceBounds, run_sliceBound, h0, h1, sizeOf, typeInfo, hi, hA]
    | _ => simp [hu] at hs
/-- A loop's next round, in its place. -/
def IW (ro : Option Nat) (c : Code) (Q : Exit → Act → World → Prop) : Act → World → Prop := fun a W => ∀ (b : Frame) (k : List Item) (cs : List Frame), b.roundOf = (FR ro).round → (FR ro).fn b.fn → (FR ro).room (cs.length + 1 + 1) →
    ∃ e a' w', Q e a' w' ∧ ArrivesIn (Machine.fenced Tryz.prog (FR ro)) Tryz.prog (lone (b.atR a (.inLoop c :: k)) cs W) b k cs e a' w'
theorem bZ {ro : Option Nat} {c : Code} (h : St n M E w0 L l F (CW ro c (Exit.then (IW ro c Q) Q))) : St n M E w0 L l F (CW ro (Code.loop c) Q) := fun a W ha hkb => by
  intro b k cs hro hb hr
  obtain ⟨e, a1, w1, hq, harr⟩ := h a W ha hkb b (.inLoop c :: k) cs hro hb hr
  cases e with
  | normal =>
    obtain ⟨e2, a2, w2, hq2, harr2⟩ := hq b k cs hro hb hr
    exact ⟨e2, a2, w2, hq2, .of_steps (StepsIn.trans (.one (fenced_calm hb hr rfl) stepR_loop) harr) harr2⟩
  | exit id => exact ⟨_, a1, w1, hq, .of_steps (.one (fenced_calm hb hr rfl) stepR_loop) (.pass (x := .inLoop c) rfl (fun _ _ => .inl (by simp)) harr)⟩
  | goto l => exact ⟨_, a1, w1, hq, .of_steps (.one (fenced_calm hb hr rfl) stepR_loop) (.pass (x := .inLoop c) rfl (fun _ _ => .inl (by simp)) harr)⟩
  | ret => exact ⟨_, a1, w1, hq, .of_steps (.one (fenced_calm hb hr rfl) stepR_loop) (.pass (x := .inLoop c) rfl (fun _ _ => .inl (by simp)) harr)⟩
  | panic ch => exact ⟨_, a1, w1, hq, .of_steps (.one (fenced_calm hb hr rfl) stepR_loop) (.pass (x := .inLoop c) rfl (fun _ _ => .inl (by simp)) harr)⟩
  | outgrown => exact ⟨_, a1, w1, hq, .of_steps (.one (fenced_calm hb hr rfl) stepR_loop) (.pass (x := .inLoop c) rfl (fun _ _ => .inl (by simp)) harr)⟩
theorem bT {ro : Option Nat} {c : Code} (h : St n M E w0 L l F (CW ro c (Exit.then (IW ro c Q) Q))) : St n M E w0 L l F (IW ro c Q) := fun a W ha hkb => by
  intro b k cs hro hb hr
  obtain ⟨e, a1, w1, hq, harr⟩ := h a W ha hkb b (.inLoop c :: k) cs hro hb hr
  cases e with
  | normal =>
    obtain ⟨e2, a2, w2, hq2, harr2⟩ := hq b k cs hro hb hr
    exact ⟨e2, a2, w2, hq2, .of_steps (StepsIn.trans (.one (fenced_calm hb hr rfl) stepR_inLoop) harr) harr2⟩
  | exit id => exact ⟨_, a1, w1, hq, .of_steps (.one (fenced_calm hb hr rfl) stepR_inLoop) (.pass (x := .inLoop c) rfl (fun _ _ => .inl (by simp)) harr)⟩
  | goto l => exact ⟨_, a1, w1, hq, .of_steps (.one (fenced_calm hb hr rfl) stepR_inLoop) (.pass (x := .inLoop c) rfl (fun _ _ => .inl (by simp)) harr)⟩
  | ret => exact ⟨_, a1, w1, hq, .of_steps (.one (fenced_calm hb hr rfl) stepR_inLoop) (.pass (x := .inLoop c) rfl (fun _ _ => .inl (by simp)) harr)⟩
  | panic ch => exact ⟨_, a1, w1, hq, .of_steps (.one (fenced_calm hb hr rfl) stepR_inLoop) (.pass (x := .inLoop c) rfl (fun _ _ => .inl (by simp)) harr)⟩
  | outgrown => exact ⟨_, a1, w1, hq, .of_steps (.one (fenced_calm hb hr rfl) stepR_inLoop) (.pass (x := .inLoop c) rfl (fun _ _ => .inl (by simp)) harr)⟩
def Rr {σ : Type} (n : Nat) (M : List Deferred) (w0 : World) (L : Nat → Prop) (F : Fct) (N : Nat) (E' : Nat → σ → Env) (l' : Nat → σ → Bxs) (P : Nat → σ → Prop) (k : Nat) : Act → World → Prop := fun a W => ∃ s', P (k + 1) s' ∧ k + 1 ≤ N ∧ Sf n M (E' (k + 1) s') a ∧ Kb w0 L (l' (k + 1) s') F W
/-- A loop with something that is not named. -/
theorem cY {ro : Option Nat} {σ : Type} {c : Code} (E' : Nat → σ → Env) (l' : Nat → σ → Bxs) (P : Nat → σ → Prop) (N : Nat) (s0 : σ) (hP : P 0 s0) (hE : subE E (E' 0 s0)) (hl : l = l' 0 s0)
    (round : ∀ k s, k ≤ N → P k s → St n M (E' k s) w0 L (l' k s) F (CW ro c (Exit.then (Rr n M w0 L F N E' l' P k) Q))) : St n M E w0 L l F (CW ro (Code.loop c) Q) :=
  iE (σ := {i : Nat × σ // i.1 ≤ N ∧ P i.1 i.2}) (fun i => E' i.1.1 i.1.2) (fun i => l' i.1.1 i.1.2) (fun _ => F) (fun i => N - i.1.1) ⟨(0, s0), Nat.zero_le _, hP⟩ hE (fun _ h => hl ▸ h) fun i => by
    have := round i.1.1 i.1.2 i.2.1 i.2.2
    intro a W ha hk b k cs hro hb hr
    obtain ⟨e, a1, w1, hq, harr⟩ := this a W ha hk b k cs hro hb hr
    refine ⟨e, a1, w1, ?_, harr⟩
    cases e with
    | normal =>
      obtain ⟨s', h1, h2, h3, h4⟩ := hq
      exact ⟨⟨(i.1.1 + 1, s'), h2, h1⟩, h3, h4, by show N - (i.1.1 + 1) < N - i.1.1; omega⟩
    | exit id => exact hq
    | goto l => exact hq
    | ret => exact hq
    | panic ch => exact hq
    | outgrown => exact hq
theorem cI {σ : Type} {N k : Nat} {E' : Nat → σ → Env} {l' : Nat → σ → Bxs} {P : Nat → σ → Prop} (s' : σ) (hP : P (k + 1) s') (hE : subE E (E' (k + 1) s')) (hl : l = l' (k + 1) s') (hk : k + 1 ≤ N) : St n M E w0 L l F (Rr n M w0 L F N E' l' P k) := fun a W ha hkb =>
  ⟨s', hP, hk, ⟨ha.size, ha.defers, fun i v hi => ha.get i v (subE_get hE i v hi)⟩, hl ▸ hkb⟩
/-- A region that draws: what is to hold in it is less than what is known. -/
theorem bU {id : Nat} {r : List Oper} (l' : Bxs) (k : Nat) (ds : List Nat) (lst : Array Bool) (hl' : ∀ W, Kb w0 L l F W → Kb w0 L l' F W) (hn : Nat.beq r.length k = true) (hl : Array.replicate k false = lst) (h : St n M E w0 L l F (wpAnyLast Tryz.prog .any r.toArray Q (Kb w0 L l' F) ds k lst)) : St n M E w0 L l F (CW none (Code.region id r.toArray true) Q) := fun a W ha hk =>
  wpIn_wide.2 <| start_ lst (by kernel_rfl) (by simpa using Nat.eq_of_beq_eq_true hn) hl (hl' _ hk.drew) (fun _ => h a W.drew ha hk.drew)
theorem Kb.tail {e : TypeId} {R : Gr} (k : Kb w0 L (l ++ R.box e) F W) : Kb w0 L l F W := by
  cases R with
  | none => simpa [Gr.box] using k
  | some r =>
    have := Kb.leave k l.length
    simpa [Gr.box, List.eraseIdx_append_of_length_le] using this
/-- A row that is one's own no more. -/
theorem Kb.pubg {e sz : TypeId} {R : Gr} {m : Nat} {cs : List Value} (k : Kb w0 L (l ++ R.box e) F W) (hok : R.Ok sz m cs) : Kb w0 L l (fun O W => RS (Av L O) R.hd m cs W ∧ F O W) W := by
  cases R with
  | none =>
    have h0 : m = 0 := hok.2
    subst h0
    have h1 : cs = [] := List.eq_nil_of_length_eq_zero (by simpa using hok.1)
    subst h1
    exact k.tail.and (RS.kn (RS.nil _ _))
  | some r =>
    obtain ⟨g, c, cur⟩ := r
    obtain ⟨h0, h1, h2, h3⟩ := hok
    have := Kb.pub k l.length (g := g) (ty := e) (cur := cur) (by simp [Gr.box]) m c cs h1 (take_pre h3)
    simpa [Gr.box, Gr.hd, List.eraseIdx_append_of_length_le] using this
theorem eq156 (op : BinOp) (a b c d : Int) (x y : Operand) (W : World) : ((do eqGuard .eql 156 x y (.agg #[I a, I b]) (.agg #[I c, I d]); binOp .eql 156 (.agg #[I a, I b]) (.agg #[I c, I d]) : Sem Value)).run Tryz.prog W = .ok (.bool (decide (a = c ∧ b = d))) W := by
  simp [go_sem]
  by_cases h : a = c <;> by_cases h' : b = d <;> simp [h, h']
theorem kI {t' : TypeId} {x y : Operand} {a b c d : Int} (ho : o.op = .binOp .eql 156 x y t') (hx : ev E x = some (.agg #[I a, I b])) (hy : ev E y = some (.agg #[I c, I d])) : Pu n M E o (.bool (decide (a = c ∧ b = d))) := cS ho hx hy (eq156 .eql a b c d x y)
theorem fnil142 (fn : Fn) (u v : Array Value) (x y : Operand) (W : World) : ((do eqGuard .eql 142 x y (.func fn u v) .nilFunc; binOp .eql 142 (.func fn u v) .nilFunc : Sem Value)).run Tryz.prog W = .ok (.bool false) W := by
  simp [go_sem]
  kernel_rfl
theorem nilnil142 (x y : Operand) (W : World) : ((do eqGuard .eql 142 x y .nilFunc .nilFunc; binOp .eql 142 .nilFunc .nilFunc : Sem Value)).run Tryz.prog W = .ok (.bool true) W := by
  simp [go_sem]
  kernel_rfl
theorem gA {t' : TypeId} {x y : Operand} {fn : Fn} {u v : Array Value} (ho : o.op = .binOp .eql 142 x y t') (hx : ev E x = some (.func fn u v)) (hy : ev E y = some .nilFunc) : Pu n M E o (.bool false) := cS ho hx hy (fnil142 fn u v x y)
theorem lX {t' : TypeId} {x y : Operand} (ho : o.op = .binOp .eql 142 x y t') (hx : ev E x = some .nilFunc) (hy : ev E y = some .nilFunc) : Pu n M E o (.bool true) := cS ho hx hy (nilnil142 x y)
theorem aR {x : Operand} {ad : Addr} (ho : o.op = .nilCheck x) (hx : ev E x = some (.pointer (some ad))) : Pu n M E o (.pointer (some ad)) := fun a W ha => by
  have h := ha.eval hx
  simp [execOp, ho, h]
/-- A scope with one label, to which the run goes onward. -/
theorem fR {c rest : Code} (l' : Nat) (hf : findLabel c l' = some rest) (h : St n M E w0 L l F (CW none c (Exit.jump l' (CW none rest (Exit.jump l' (fun _ _ => False) Q)) Q))) : St n M E w0 L l F (CW none (Code.scope c) Q) := fun a W ha hk =>
  wpIn_wide.2 <| wp_scope_jumps l' (CW none rest (Exit.jump l' (fun _ _ => False) Q)) (fun _ _ => 0) hf (wpIn_wide.1 (h a W ha hk)) fun a w hJ => Code.wp_mono (fun e a' w' hq => by
    cases e with
    | goto i => exact absurd hq.2 id
    | _ => exact hq) (wpIn_wide.1 hJ)
theorem nP {i : Nat} (h : St n M E w0 L l F (Q (.goto i))) : St n M E w0 L l F (CW none (Code.goto i) Q) := fun a W ha hk => wpIn_goto (h a W ha hk)
theorem rC {K : Act → World → Prop} {i : Nat} (h : St n M E w0 L l F (Q (.goto i))) : St n M E w0 L l F (Exit.then K Q (.goto i)) := h
theorem rD {J : Act → World → Prop} {i : Nat} (h : St n M E w0 L l F J) : St n M E w0 L l F (Exit.jump i J Q (.goto i)) := fun a W ha hk => ⟨rfl, h a W ha hk⟩
theorem cD {J : Act → World → Prop} {i : Nat} (h : St n M E w0 L l F (Q .ret)) : St n M E w0 L l F (Exit.jump i J Q .ret) := h
/-- A value, otherwise written. -/
theorem eU {X : Act → World → Prop} {i : Nat} {v : Value} (v' : Value) (h0 : E.lookup i = some v) (hv : v = v') (h : St n M ((i, v') :: E) w0 L l F X) : St n M E w0 L l F X := fun a W ha hk => h a W ⟨ha.size, ha.defers, fun j u hj => by
  rw [List.lookup_cons] at hj
  cases hb : (j == i) with
  | true =>
    rw [hb] at hj
    have e : j = i := by simpa using hb
    subst e
    injection hj with hj
    subst hj
    exact ha.get j _ (hv ▸ h0)
  | false => rw [hb] at hj; exact ha.get j u hj⟩ hk
/-- A row that is one's own no more, with its list. -/
theorem dV {X : Act → World → Prop} {e sz m : Nat} {R : Gr} {cs : List Value} (l0 : Bxs) (m' : Nat) (cs' : List Value) (hok : R.Ok sz m cs) (hm : m = m') (hc : cs = cs') (hl : l = l0 ++ R.box e) (h : St n M E w0 L l0 (fun O W => RS (Av L O) R.hd m' cs' W ∧ F O W) X) : St n M E w0 L l F X := fun a W ha hk => by
  subst hm
  subst hc
  subst hl
  exact h a W ha (hk.pubg hok)
theorem Gr.of_owns {e sz n base : Nat} {v : Value} {cs : List Value} {w : World} (h : w.ownsRow base e sz v n cs) : ∃ R : Gr, v = .slice R.hd.A n R.hd.c ∧ R.Ok sz n cs ∧ ∀ x ∈ R.box e, base ≤ x.1 ∧ Bk x w := by
  rcases h with ⟨h0, ⟨rfl, rfl⟩ | ⟨g, cap, cur, rfl, h1, h2, h3, h4, h5, h6⟩⟩
  · exact ⟨none, rfl, ⟨h0, rfl⟩, fun x hx => absurd hx (by simp [Gr.box])⟩
  · exact ⟨some (g, cap, cur), rfl, ⟨h0, h3, h5, h6⟩, fun x hx => by
      have : x = (g, Ce e cur) := by simpa [Gr.box] using hx
      subst this
      exact ⟨h1, h2⟩⟩
theorem cg37 {L : Nat → Prop} {hd : Hd} {xs : List Int} {w : World} (h : RS L hd xs.length (xs.map I) w) (hm : xs.length ≤ 100000) : Calls Tryz.prog 37 [.slice hd.A xs.length hd.c].toArray w fun e w' => ∃ R : Gr, e = .returned (.slice R.hd.A xs.length R.hd.c) ∧ R.Ok 1 xs.length (xs.map I) ∧ (∀ x ∈ R.box 3, w.heap.size ≤ x.1 ∧ Bk x w') ∧ Below w.heap.size w w' :=
  (clone_ints _ _ xs.length _ w h.rl (by simp) (ints_one xs) (by omega)).mono fun e w' ⟨v', he, ho, hb⟩ => by
    obtain ⟨R, rfl, h1, h2⟩ := Gr.of_owns ho
    exact ⟨R, he, h1, h2, hb⟩
theorem RS.upto {bh : Hd} {b : List En} (h : RS L bh b.length (ecs b) W) (k : Nat) : RS L bh (b.take k).length (ecs (b.take k)) W := by
  refine ⟨Nat.le_trans (by simp; omega) h.c, fun h0 => ?_⟩
  have e : ecs b = ecs (b.take k) ++ ecs (b.drop k) := by rw [ecs, ecs, ecs, ← List.flatMap_append, List.take_append_drop]
  obtain ⟨g, o, hA, h1, h2, h3⟩ := h.r (by rw [e]; simp; omega)
  exact ⟨g, o, hA, h1, h2, fun i v hi => h3 i v (by rw [e, List.getElem?_append_left (List.getElem?_eq_some_iff.1 hi).1]; exact hi)⟩
theorem run_appz {t u e sz ty : TypeId} (hA : apB Tryz.prog t e sz = true) (hu : Tryz.prog.underlying u = some (.int .i64)) {n : Int} (h0 : 0 < n) (h1 : n ≤ 1000000) :
    ∃ c cur, (Builtin.append_ #[t, u] ty #[.slice none 0 0, I n]).run Tryz.prog W = .ok (.slice (some ⟨W.heap.size, 0, none⟩) n.toNat c) (W.drew.alloc (.cells cur e)) ∧ n.toNat ≤ c ∧ cur.size = c * sz := by
  unfold apB at hA
  cases ht : Tryz.prog.underlying t with
  | none => simp [ht] at hA
  | some ds =>
    cases hi : Tryz.prog.info? e with
    | none => cases ds <;> simp [ht, hi] at hA
    | some i =>
      obtain ⟨e', rfl⟩ : ∃ e', ds = .slice e' := by
        cases ds with
        | slice e' => exact ⟨e', rfl⟩
        | _ => simp [ht, hi] at hA
      simp only [ht, hi] at hA
      cases hz : i.zero with
      | none => simp [hz] at hA
      | some z =>
        simp only [hz, Bool.and_eq_true, beq_iff_eq] at hA
        obtain ⟨⟨⟨⟨rfl, rfl⟩, hsz⟩, hby⟩, hzs⟩ := hA
        have hsz := Nat.le_of_ble_eq_true hsz
        have hby := Nat.le_of_ble_eq_true hby
        have hb1 : n.toNat * i.bytes ≤ 1000000000 := Nat.le_trans (Nat.mul_le_mul (show n.toNat ≤ 1000000 by omega) hby) (by omega)
        have hb2 : n * (i.bytes : Int) = ((n.toNat * i.bytes : Nat) : Int) := by rw [Int.natCast_mul, Int.toNat_of_nonneg (by omega)]
        have hw : IntKind.i64.wrap n = n := by rw [Go.IntKind.wrap_i64]; omega
        have hn1 : ¬ n < 0 := by omega
        have hn2 : ¬ (281474976710656 < n * (i.bytes : Int)) := by rw [hb2]; omega
        have hn3 : n.toNat ≠ 0 := by omega
        have hs0 : i.size ≠ 0 := by omega
        have hn4 : ¬ (281474976710656 < Builtin.nextslicecap n.toNat 0 * i.bytes) := by rw [nextslicecap_zero (by omega)]; omega
        have hn5 : ¬ (9223372036854775807 < n.toNat) := by omega
        have hn6 : ¬ n ≤ 0 := by omega
        have hn7 : ¬ (9223372036854775807 < max n 0) := by omega
        have hn8 : n.toNat * i.size ≠ 0 := Nat.mul_ne_zero hn3 hs0
        have hge := grownCap_ge W n.toNat 0 e'
        refine ⟨grownCap W n.toNat 0 e', Builtin.zeroCells z.cells n.toNat ++ Builtin.zeroCells z.cells (grownCap W n.toNat 0 e' - n.toNat), ?_, hge, ?_⟩
        · simp [Builtin.append_, run_underlying ht, run_underlying hu, sizeOf, typeInfo, zeroValue, hi, hz, hw, hn1, hn2, hn3, hn4, hn5, hn6, hn7, hn8, hs0, asInt, asIntOf, Question.forced, Builtin.firstCells, run_firstCells_none, newRow, grownCap]
        · simp only [Array.size_append, size_zeroCells, hzs, ← Nat.add_mul]
          rw [show n.toNat + (grownCap W n.toNat 0 e' - n.toNat) = grownCap W n.toNat 0 e' by omega]
/-- Room for a row. -/
theorem kJ {t u e sz : TypeId} {x y : Operand} {i : Int} (hA : apB Tryz.prog t e sz = true) (hu : Tryz.prog.underlying u = some (.int .i64)) (ho : o.op = .call { callee := .builtin .append, args := #[x, y], argTypes := #[t, u] })
    (hx : ev E x = some (.slice none 0 0)) (hy : ev E y = some (I i)) (hd : o.dst = some d) (hn : Nat.blt d n = true) (h0 : 0 < i) (h1 : i ≤ 1000000)
    (h : ∀ R' : Gr, R'.Ok sz 0 [] → (i ≤ R'.hd.c) → St n M ((d, .slice R'.hd.A i.toNat R'.hd.c) :: E) w0 L (l ++ R'.box e) F K) : Fx n M E w0 L l F Q o K := by
  refine ⟨fun c => by rw [ho]; simp, fun a' W ha hkb => ?_⟩
  have hX := ha.eval hx
  have hY := ha.eval hy
  obtain ⟨c, cur, hr, h2, h3⟩ := run_appz (W := W) (ty := o.type) hA hu h0 h1
  unfold Oper.wp
  simp only [execOp, ho, resolve, invoke, builtin, Sem.run_bind, Sem.run_pure, Result.andThen_ok, List.map_toArray, List.map_cons, List.map_nil, hX, hY, hr, Oper.upon_value, hd]
  exact h (some (W.heap.size, c, cur)) ⟨by simp, Nat.zero_le _, h3, by simp⟩ (by show i ≤ (c : Int); omega) _ _ (ha.put hn _) (hkb.drew.allocEnd _)
theorem Kb.boxes {e : TypeId} {R : Gr} (k : Kb w0 L (l ++ R.box e) F W) : ∀ x ∈ R.box e, w0.heap.size ≤ x.1 ∧ Bk x W := fun x hx => by
  have hm : x ∈ l ++ R.box e := List.mem_append_right _ hx
  obtain ⟨i, hi⟩ := List.getElem?_of_mem hm
  exact ⟨k.own x hm, k.bs.get i hi⟩
/-- A row that a call has made becomes one's own. -/
theorem Kb.adoptg {e : TypeId} {R : Gr} (k : Kb w0 L l F W) (hb : Below W.heap.size W W') (hR : ∀ x ∈ R.box e, W.heap.size ≤ x.1 ∧ Bk x W') : Kb w0 L (l ++ R.box e) F W' := by
  cases R with
  | none => simpa [Gr.box] using k.call hb
  | some r =>
    obtain ⟨g, c, cur⟩ := r
    have h := hR (g, Ce e cur) (by simp [Gr.box])
    have := k.adopt hb (g, Ce e cur) h.1 h.2
    exact this.perm (by simpa [Gr.box] using (List.perm_append_comm (l₁ := [(g, Ce e cur)]) (l₂ := l)))
end
end
set_option maxHeartbeats 8000000
set_option maxRecDepth 100000
theorem pG : zeroB Tryz.prog 24 (#[.slice none 0 0]) := by unfold zeroB; kernel_rfl
theorem ap24 : apB Tryz.prog 24 3 1 = true := by kernel_rfl
theorem ap82 : apB Tryz.prog 82 180 2 = true := by kernel_rfl
theorem un3 : Tryz.prog.underlying 3 = some (.int .i64) := by kernel_rfl
theorem ap81 : apB Tryz.prog 81 141 3 = true := by kernel_rfl
theorem lY : slB Tryz.prog 210 = true := by kernel_rfl
theorem kK : elB Tryz.prog 210 1 = true := by kernel_rfl
theorem rE : fnB Tryz.prog 160 = true := by kernel_rfl
theorem rF : fnB Tryz.prog 163 = true := by kernel_rfl
theorem upto_is (L : Nat → Prop) (bh : Hd) (b : List En) (n : Int) (w : World) (cx : Cx L w) (h : RS L bh b.length (ecs b) w) (hlen : b.length ≤ 100000) : Calls Tryz.prog 111 [.slice bh.A b.length bh.c, I n].toArray w (fun e w' => ∃ hd : Hd, e = .returned (.slice hd.A (b.take n.toNat).length hd.c) ∧ RS L hd (b.take n.toNat).length (ecs (b.take n.toNat)) w' ∧ Below w.heap.size w w') := by
  have hcc := h.c
  refine ent 13 Tryz.func111 rfl (Kb.start cx h.kn0) <| sr <| lp (pas rfl) rfl <| nt <| sr <| lp (pmv rfl) rfl <| lp (pmv rfl) rfl <| lp (pmv rfl) rfl <| lp (pln fF rfl) rfl <| lp (fM rfl rfl rfl) rfl <| lp (hO rfl rfl rfl) rfl <| lp (fZ lB rfl rfl rfl (by unfold mxS; split <;> omega) (by unfold mxS mnS; split <;> split <;> omega) ((b.take n.toNat).length) (by rw [List.length_take]; unfold mxS mnS; split <;> split <;> omega)) rfl <| lx rfl <| fca lP rfl (fun W k => cr133 k.cx (RS.upto k.kn.here n.toNat) (by simp; omega)) ?_
  rintro _ _ W1 k ⟨z1, rfl, hr1, hb1⟩
  refine nx ((k.call hb1).and hr1.kn) <| lp (pas rfl) rfl <| nt <| aF <| aG _ (res1 rfl (aD rfl)) (fun W k => ?_)
  exact ⟨z1, rfl, k.kn.here.1.weak, k.below⟩
theorem pri_step {b : List En} {x lo hi : Int} {k : Nat} (hk : k ≤ b.length) (h : (k : Int) < b.length) {R : Gr} (ok : R.Ok 1 (k + 1) ((priorsS (b.take k) x lo hi).map I ++ #[I (pfx b x lo hi k)].toList)) : R.Ok 1 (k + 1) ((priorsS (b.take (k + 1)) x lo hi).map I) := by
  have h' : k < b.length := by omega
  rw [List.take_succ_eq_append_getElem h', priors_append]
  simpa [pfx] using ok
theorem priors_is (L : Nat → Prop) (bh : Hd) (b : List En) (x lo hi : Int) (w : World) (cx : Cx L w) (h : RS L bh b.length (ecs b) w) (hlen : b.length ≤ 100000) : Calls Tryz.prog 112 [.slice bh.A b.length bh.c, I x, I lo, I hi].toArray w (fun e w' => ∃ hd : Hd, e = .returned (.slice hd.A (priorsS b x lo hi).length hd.c) ∧ RS L hd (priorsS b x lo hi).length ((priorsS b x lo hi).map I) w' ∧ Below w.heap.size w w') := by
  refine dO 22 Tryz.func112 rfl rfl rfl (Kb.start cx h.kn0) <| sr <| lx rfl <| fal pG rfl fun g1 => ?_
  refine nt <| aE <| sr <| lp (pmv rfl) rfl <| lp (pmv rfl) rfl <| lp (pmv rfl) rfl <| lp (pmv rfl) rfl <| lx rfl <| fin oL rfl (fun W k => ?_)
  refine ent 10 Tryz.func132 rfl k <| sr <| lx rfl <| bC (#[.slice bh.A b.length bh.c]) rfl rfl rfl rfl rfl fun g2 => ?_
  refine lx rfl <| bC (#[I x]) rfl rfl rfl rfl rfl fun g3 => ?_
  refine lx rfl <| bC (#[I lo]) rfl rfl rfl rfl rfl fun g4 => ?_
  refine lx rfl <| bC (#[I hi]) rfl rfl rfl rfl rfl fun g5 => ?_
  refine lp (pas rfl) rfl <| nt <| sr <| lp (cE rfl rfl rfl) rfl <| lp (pas rfl) rfl <| nt <| aF <| aG _ (res1 rfl (aD rfl)) (fun W k => ?_)
  refine nx k <| nt <| aP <| eR oM rfl [.pointer (some ⟨g2, 0, none⟩), .pointer (some ⟨g3, 0, none⟩), .pointer (some ⟨g4, 0, none⟩), .pointer (some ⟨g5, 0, none⟩)] (fun _ => rfl) (fun fi1 ln1 D1 act1 W1 ha1 k => ?_)
  refine ent 32 Tryz.func149 rfl k <| sr <| lr (rce 5 (.slice bh.A b.length bh.c) cW rfl) rfl <| lp (pln fF rfl) rfl <| lp (pmv rfl) rfl <| nt <| aP <| cY (fun i1 R1 => [(0, .func (.yield ln1) #[] #[]), (2, .pointer (some ⟨g3, 0, none⟩)), (3, .pointer (some ⟨g4, 0, none⟩)), (4, .pointer (some ⟨g5, 0, none⟩)), (10, .slice bh.A b.length bh.c), (11, I b.length), (12, I (i1 : Int))]) (fun i1 R1 => ([(ln1, Lf Tryz.f112 0 .ready none fi1 act1.tmps D1), (D1, Do), (g5, Ce 3 (#[I hi])), (g4, Ce 3 (#[I lo])), (g3, Ce 3 (#[I (pfx b x lo hi i1)])), (g2, Ce 81 (#[.slice bh.A b.length bh.c])), (g1, Ce 24 (#[.slice (Gr.hd R1).A i1 (Gr.hd R1).c]))] ++ Gr.box 3 R1)) (fun i1 R1 => Gr.Ok 1 R1 (i1) ((priorsS (b.take i1) x lo hi).map I)) (b.length) (none : Gr) (Gr.nil 1) ⟨rfl, rfl, rfl, rfl, rfl, rfl, rfl, trivial⟩ rfl (fun i1 R1 hi1 ok1 => ?_)
  refine sr <| lp (pls rfl) rfl <| nt <| aE ?_
  by_cases c1 : (i1 : Int) < b.length
  refine aQ rfl (aA c1) <| aI <| aC <| aE <| aP <| sr <| bP (fun W k => RS.addr k.kn.here (by simp only [List.length_map, ecs_len, kcs_len, mcs_len]; omega)) ?_
  rintro ⟨B1, p1, hA1⟩
  refine lp (pix lB rfl hA1 (by omega) (by omega)) rfl <| lr (dE 3 (#[I ((b.getD ((i1 : Int)).toNat en0).t), I ((b.getD ((i1 : Int)).toNat en0).tag), I ((b.getD ((i1 : Int)).toNat en0).v)]) jP rfl rfl rfl (fun W k => RS.rng k.kn.here hA1 _ (by simp only [ecs_len]; omega) (ecs_at b _ (by omega) (by omega)))) rfl <| lx rfl <| fal iJ rfl fun g6 => ?_
  refine lx rfl <| ffl 0 ([(g6, Ce 141 (#[I ((b.getD ((i1 : Int)).toNat en0).t), I ((b.getD ((i1 : Int)).toNat en0).tag), I ((b.getD ((i1 : Int)).toNat en0).v)])), _, _, _, _, _, _, _] ++ Gr.box 3 R1) lQ rfl rfl <| nt <| sr <| lp (pfa iK 1 rfl) rfl <| lr (rro 0 (#[I ((b.getD ((i1 : Int)).toNat en0).tag), I ((b.getD ((i1 : Int)).toNat en0).v)]) dP rfl) rfl <| lr (rce 5 (I (pfx b x lo hi i1)) aJ rfl) rfl <| lr (rce 4 (I lo) aJ rfl) rfl <| lr (rce 3 (I hi) aJ rfl) rfl <| lx rfl <| fcv lR rfl (fun W k => apply_is _ ((b.getD ((i1 : Int)).toNat en0).tag) ((b.getD ((i1 : Int)).toNat en0).v) (pfx b x lo hi i1) lo hi W k.cx) <| lp (pmv rfl) rfl <| lp (pex rfl) rfl <| lp (pex rfl) rfl <| lp (pas rfl) rfl <| lp (pas rfl) rfl <| nt <| aE <| sr <| lp (pmv rfl) rfl <| lr (rce 5 (I (pfx b x lo hi i1)) aJ rfl) rfl <| lp (pmv rfl) rfl <| iF (k := 1) (ps := [15, 16]) ha1 rfl rfl rfl rfl rfl rfl rfl rfl rfl <| aU <| lp (pas rfl) rfl <| nt <| fN (k := 1) ([_, (ln1, Lf Tryz.f112 0 .busy none fi1 act1.tmps D1), _, _, _, _, _, _] ++ Gr.box 3 R1) rfl rfl <| aP <| aU <| lr (rce 7 (.slice (Gr.hd R1).A i1 (Gr.hd R1).c) bX rfl) rfl <| lp (pmv rfl) rfl <| lx rfl <| bO (t := 24) (e := 3) (sz := 1) 1 (#[I (pfx b x lo hi i1)]) ⟨by kernel_rfl, by kernel_rfl⟩ rfl rfl rfl rfl fun g7 => ?_
  refine lx rfl <| cC (R := R1) (nn := i1) (cs := (priorsS (b.take i1) x lo hi).map I) ([(g7, Ce 3 (#[I (pfx b x lo hi i1)])), (g6, Ce 141 (#[I ((b.getD ((i1 : Int)).toNat en0).t), I ((b.getD ((i1 : Int)).toNat en0).tag), I ((b.getD ((i1 : Int)).toNat en0).v)])), (ln1, Lf Tryz.f112 0 .busy none fi1 act1.tmps D1), (D1, Do), (g5, Ce 3 (#[I hi])), (g4, Ce 3 (#[I lo])), (g3, Ce 3 (#[I (pfx b x lo hi i1)])), (g2, Ce 81 (#[.slice bh.A b.length bh.c])), (g1, Ce 24 (#[.slice (Gr.hd R1).A i1 (Gr.hd R1).c]))]) 1 (#[I (pfx b x lo hi i1)]).toList ap24 rfl ok1 rfl rfl rfl rfl rfl rfl (fun W k => k.news 0 rfl) (all_one rfl) (by decide) (by omega) fun R2 ok2 => ?_
  refine lx rfl <| fst 8 ([_, _, _, _, _, _, _, _, (g1, Ce 24 (#[.slice (Gr.hd R2).A (i1 + 1) (Gr.hd R2).c]))] ++ Gr.box 3 R2) jH rfl rfl <| bQ <| aW <| eD (k := 2) ([_, _, (ln1, Lf Tryz.f112 0 .ready none fi1 act1.tmps D1), _, _, _, _, _, _] ++ Gr.box 3 R2) rfl rfl <| lp (pno rfl) rfl <| nt <| aM rfl (congrArg not rfl) <| aI <| aC <| aU <| lp (pmv rfl) rfl <| lx rfl <| fst 6 ([_, _, _, _, _, _, (g3, Ce 3 (#[I ((applyS ((b.getD ((i1 : Int)).toNat en0).tag) ((b.getD ((i1 : Int)).toNat en0).v) (pfx b x lo hi i1) lo hi).1)])), _, _] ++ Gr.box 3 R2) cG rfl rfl <| bQ <| aW <| aC <| aU <| lp (pad ((i1 + 1 : Nat) : Int) (by unfold wrap64; omega) rfl) rfl <| lp (pmv rfl) rfl <| nt <| bR (fun _ h => h.leave 0) <| bR (fun _ h => h.leave 0) ?_
  exact cI R2 (pri_step hi1 (by omega) ok2) ⟨rfl, rfl, rfl, rfl, rfl, rfl, rfl, trivial⟩ (by rw [pfx_succ b x lo hi i1 (by omega)]; rfl) (by omega)
  refine aM rfl (aB c1) <| aX <| aK <| aK <| aY <| cL _ (res0 rfl) (fun W k => ?_)
  refine ra_none (k := 0) ha1 k rfl (by decide) <| fL ([(ln1, Lf Tryz.f112 0 .exhausted none fi1 act1.tmps D1), (D1, Do), (g5, Ce 3 (#[I hi])), (g4, Ce 3 (#[I lo])), (g3, Ce 3 (#[I (pfx b x lo hi i1)])), (g2, Ce 81 (#[.slice bh.A b.length bh.c])), (g1, Ce 24 (#[.slice (Gr.hd R1).A i1 (Gr.hd R1).c]))] ++ Gr.box 3 R1) _ rfl (fun _ _ h => h) <| aW <| aC <| sr <| lr (rce 6 (.slice (Gr.hd R1).A i1 (Gr.hd R1).c) bX rfl) rfl <| lx rfl <| fst 6 ([_, _, _, _, _, _, (g1, Ce 24 (#[.slice (Gr.hd R1).A i1 (Gr.hd R1).c]))] ++ Gr.box 3 R1) jH rfl rfl <| nt <| aF <| eS (.slice (Gr.hd R1).A i1 (Gr.hd R1).c) ([(ln1, Lf Tryz.f112 0 .exhausted none fi1 act1.tmps D1), (D1, .deferred none), (g5, Ce 3 (#[I hi])), (g4, Ce 3 (#[I lo])), (g3, Ce 3 (#[I (pfx b x lo hi i1)])), (g2, Ce 81 (#[.slice bh.A b.length bh.c])), (g1, Ce 24 (#[.slice (Gr.hd R1).A i1 (Gr.hd R1).c]))] ++ Gr.box 3 R1) (k := 1) rfl rfl (res1 rfl (jF 6 bX rfl rfl rfl)) (fun W k => ?_)
  obtain rfl : i1 = b.length := by omega
  have hp := Kb.pubg (l := [(ln1, Lf Tryz.f112 0 .exhausted none fi1 act1.tmps D1), (D1, .deferred none), (g5, Ce 3 (#[I hi])), (g4, Ce 3 (#[I lo])), (g3, Ce 3 (#[I (pfx b x lo hi b.length)])), (g2, Ce 81 (#[.slice bh.A b.length bh.c])), (g1, Ce 24 (#[.slice (Gr.hd R1).A b.length (Gr.hd R1).c]))]) (e := 3) (R := R1) k ok1
  rw [List.take_length] at hp
  refine ⟨R1.hd, by rw [priors_len], ?_, k.below⟩
  rw [priors_len]
  exact hp.kn.here.1.weak
theorem grow_kids (L : Nat → Prop) (n : Int) (hn : 0 ≤ n ∧ n ≤ 100000) (w : World) (cx : Cx L w) : Calls Tryz.prog 160 [.slice none 0 0, I n].toArray w (fun e w' => ∃ R : Gr, e = .returned (.slice R.hd.A 0 R.hd.c) ∧ R.Ok 2 0 [] ∧ (∀ x ∈ R.box 180, w.heap.size ≤ x.1 ∧ Bk x w') ∧ Below w.heap.size w w') := by
  refine ent 27 Tryz.func160 rfl (Kb.start cx (Kn.top _ _)) <| sr <| lp (pas rfl) rfl <| nt <| aE <| sr <| lp (pmv rfl) rfl <| lp (pls rfl) rfl <| nt <| aM rfl (aB (by omega)) <| aI <| aC <| aE <| sr <| lp (pmv rfl) rfl <| lp (pmv rfl) rfl <| lp (kH fQ rfl rfl) rfl <| lp (pmv rfl) rfl <| lp (pln fQ rfl) rfl <| lp (psb 0 (by unfold wrap64; omega) rfl) rfl <| lp (psb n (by unfold wrap64; omega) rfl) rfl <| lp (pas rfl) rfl <| nt <| sr <| lp (pmv rfl) rfl <| lp (pgt rfl) rfl <| nt ?_
  by_cases c1 : 0 < n
  refine aQ rfl (aA c1) <| aU <| lp (pmv rfl) rfl <| lp (pmv rfl) rfl <| lp (kH fQ rfl rfl) rfl <| lp (fZ lU rfl rfl rfl (by omega) (by omega) 0 rfl) rfl <| lp (pmv rfl) rfl <| lx rfl <| kJ ap82 un3 rfl rfl rfl rfl rfl (by omega) (by omega) fun R1 ok1 hc1 => ?_
  refine lp (pmv rfl) rfl <| lp (pln fQ rfl) rfl <| lp (fZ lU rfl rfl rfl (by omega) (by omega) 0 rfl) rfl <| lp (pas rfl) rfl <| nt <| sr <| lp (pmv rfl) rfl <| lp (pas rfl) rfl <| nt <| aF <| aG _ (res1 rfl (aD rfl)) (fun W k => ?_)
  exact ⟨R1, rfl, ok1, Kb.boxes (l := []) k, k.below⟩
  refine aM rfl (aB c1) <| aI <| aC <| sr <| lp (pmv rfl) rfl <| lp (pas rfl) rfl <| nt <| aF <| aG _ (res1 rfl (aD rfl)) (fun W k => ?_)
  exact ⟨none, rfl, Gr.nil _, (fun x hx => absurd hx (by simp [Gr.box])), k.below⟩
theorem grow_ents (L : Nat → Prop) (n : Int) (hn : 0 ≤ n ∧ n ≤ 100000) (w : World) (cx : Cx L w) : Calls Tryz.prog 163 [.slice none 0 0, I n].toArray w (fun e w' => ∃ R : Gr, e = .returned (.slice R.hd.A 0 R.hd.c) ∧ R.Ok 3 0 [] ∧ (∀ x ∈ R.box 141, w.heap.size ≤ x.1 ∧ Bk x w') ∧ Below w.heap.size w w') := by
  refine ent 27 Tryz.func163 rfl (Kb.start cx (Kn.top _ _)) <| sr <| lp (pas rfl) rfl <| nt <| aE <| sr <| lp (pmv rfl) rfl <| lp (pls rfl) rfl <| nt <| aM rfl (aB (by omega)) <| aI <| aC <| aE <| sr <| lp (pmv rfl) rfl <| lp (pmv rfl) rfl <| lp (kH fF rfl rfl) rfl <| lp (pmv rfl) rfl <| lp (pln fF rfl) rfl <| lp (psb 0 (by unfold wrap64; omega) rfl) rfl <| lp (psb n (by unfold wrap64; omega) rfl) rfl <| lp (pas rfl) rfl <| nt <| sr <| lp (pmv rfl) rfl <| lp (pgt rfl) rfl <| nt ?_
  by_cases c1 : 0 < n
  refine aQ rfl (aA c1) <| aU <| lp (pmv rfl) rfl <| lp (pmv rfl) rfl <| lp (kH fF rfl rfl) rfl <| lp (fZ lB rfl rfl rfl (by omega) (by omega) 0 rfl) rfl <| lp (pmv rfl) rfl <| lx rfl <| kJ ap81 un3 rfl rfl rfl rfl rfl (by omega) (by omega) fun R1 ok1 hc1 => ?_
  refine lp (pmv rfl) rfl <| lp (pln fF rfl) rfl <| lp (fZ lB rfl rfl rfl (by omega) (by omega) 0 rfl) rfl <| lp (pas rfl) rfl <| nt <| sr <| lp (pmv rfl) rfl <| lp (pas rfl) rfl <| nt <| aF <| aG _ (res1 rfl (aD rfl)) (fun W k => ?_)
  exact ⟨R1, rfl, ok1, Kb.boxes (l := []) k, k.below⟩
  refine aM rfl (aB c1) <| aI <| aC <| sr <| lp (pmv rfl) rfl <| lp (pas rfl) rfl <| nt <| aF <| aG _ (res1 rfl (aD rfl)) (fun W k => ?_)
  exact ⟨none, rfl, Gr.nil _, (fun x hx => absurd hx (by simp [Gr.box])), k.below⟩
theorem concat_kids (L : Nat → Prop) (lh ah bh : Hd) (xs ys : List Ki) (w : World) (cx : Cx L w) (hl : RS L lh 2 [.slice ah.A xs.length ah.c, .slice bh.A ys.length bh.c] w) (ha : RS L ah xs.length (kcs xs) w) (hb : RS L bh ys.length (kcs ys) w) (hx : xs.length ≤ 10000) (hy : ys.length ≤ 10000) : Calls Tryz.prog 152 [.slice lh.A 2 lh.c].toArray w (fun e w' => ∃ hd : Hd, e = .returned (.slice hd.A (xs ++ ys).length hd.c) ∧ RS L hd (xs ++ ys).length (kcs (xs ++ ys)) w' ∧ Below w.heap.size w w') := by
  refine ent 36 Tryz.func152 rfl (Kb.start cx (Kn.and hl.kn0 (Kn.and ha.kn0 hb.kn0))) <| sr <| lp (pas rfl) rfl <| nt <| sr <| lp (pas rfl) rfl <| nt <| aE <| sr <| lp (pmv rfl) rfl <| lp (pln lY rfl) rfl <| lp (pmv rfl) rfl <| nt <| aP <| bZ <| sr <| lp (pls rfl) rfl <| nt <| aE <| aQ rfl rfl <| aI <| aC <| aE <| aP <| sr <| bP (fun W k => RS.addr k.kn.here.1 (by simp)) ?_
  rintro ⟨B1, p1, hA1⟩
  refine lp (pix kK rfl hA1 (by omega) (by omega)) rfl <| lr (cA (.slice ah.A xs.length ah.c) dQ rfl rfl (fun W k => RS.one k.kn.here.1 hA1 _ rfl)) rfl <| lp (pas rfl) rfl <| nt <| sr <| lp (pmv rfl) rfl <| lp (pmv rfl) rfl <| lp (pln fQ rfl) rfl <| lp (pad (xs.length : Int) (by unfold wrap64; omega) rfl) rfl <| lp (pas rfl) rfl <| nt <| sr <| lp (pmv rfl) rfl <| lp (pls rfl) rfl <| nt <| aM rfl (aB (by omega)) <| aI <| aW <| aC <| aU <| lp (pad 1 (by unfold wrap64; omega) rfl) rfl <| lp (pmv rfl) rfl <| nt <| bT <| sr <| lp (pls rfl) rfl <| nt <| aE <| aQ rfl rfl <| aI <| aC <| aE <| aP <| sr <| lp (pix kK rfl hA1 (by omega) (by omega)) rfl <| lr (cA (.slice bh.A ys.length bh.c) dQ rfl rfl (fun W k => RS.one k.kn.here.1 hA1 _ rfl)) rfl <| lp (pas rfl) rfl <| nt <| sr <| lp (pmv rfl) rfl <| lp (pmv rfl) rfl <| lp (pln fQ rfl) rfl <| lp (pad ((xs.length : Int) + ys.length) (by unfold wrap64; omega) rfl) rfl <| lp (pas rfl) rfl <| nt <| sr <| lp (pmv rfl) rfl <| lp (pls rfl) rfl <| nt <| aM rfl (aB (by omega)) <| aI <| aW <| aC <| aU <| lp (pad 2 (by unfold wrap64; omega) rfl) rfl <| lp (pmv rfl) rfl <| nt <| bT <| sr <| lp (pls rfl) rfl <| nt <| aE <| aM rfl rfl <| aX <| aK <| aK <| aY <| aC <| sr <| lp (pmv rfl) rfl <| lx rfl <| fca rE rfl (fun W k => grow_kids _ ((xs.length : Int) + ys.length) (by omega) W k.cx) ?_
  rintro _ _ W1 k ⟨R1, rfl, ok1, hx1, hb1⟩
  refine nx (k.adoptg hb1 hx1) <| lp (pas rfl) rfl <| nt <| aE <| sr <| lp (pmv rfl) rfl <| lp (pln lY rfl) rfl <| lp (pmv rfl) rfl <| nt <| aP <| bZ <| sr <| lp (pls rfl) rfl <| nt <| aE <| aQ rfl rfl <| aI <| aC <| aE <| aP <| sr <| lp (pix kK rfl hA1 (by omega) (by omega)) rfl <| lr (cA (.slice ah.A xs.length ah.c) dQ rfl rfl (fun W k => RS.one k.kn.here.1 hA1 _ rfl)) rfl <| lp (pas rfl) rfl <| nt <| aU <| lp (pmv rfl) rfl <| lp (pmv rfl) rfl <| lx rfl <| bY (R := R1) (nn := 0) (cs := []) ([]) (news := kcs (xs)) ap82 rfl ok1 rfl rfl rfl rfl rfl (kcs_len _) (fun W k => k.kn.here.2.1) (kcs_one _) (by omega) fun R2 ok2 => ?_
  refine lp (pas rfl) rfl <| bQ <| aW <| aC <| aU <| lp (pad 1 (by unfold wrap64; omega) rfl) rfl <| lp (pmv rfl) rfl <| nt <| bT <| sr <| lp (pls rfl) rfl <| nt <| aE <| aQ rfl rfl <| aI <| aC <| aE <| aP <| sr <| lp (pix kK rfl hA1 (by omega) (by omega)) rfl <| lr (cA (.slice bh.A ys.length bh.c) dQ rfl rfl (fun W k => RS.one k.kn.here.1 hA1 _ rfl)) rfl <| lp (pas rfl) rfl <| nt <| aU <| lp (pmv rfl) rfl <| lp (pmv rfl) rfl <| lx rfl <| bY (R := R2) (nn := 0 + xs.length) (cs := [] ++ kcs (xs)) ([]) (news := kcs (ys)) ap82 rfl ok2 rfl rfl rfl rfl rfl (kcs_len _) (fun W k => k.kn.here.2.2) (kcs_one _) (by omega) fun R3 ok3 => ?_
  refine lp (pas rfl) rfl <| bQ <| aW <| aC <| aU <| lp (pad 2 (by unfold wrap64; omega) rfl) rfl <| lp (pmv rfl) rfl <| nt <| bT <| sr <| lp (pls rfl) rfl <| nt <| aE <| aM rfl rfl <| aX <| aK <| aK <| aY <| aC <| sr <| lp (pmv rfl) rfl <| lp (pas rfl) rfl <| nt <| aF <| aG _ (res1 rfl (aD rfl)) (fun W k => ?_)
  have hp := Kb.pubg (l := []) (e := 180) (R := R3) k ok3
  rw [show 0 + xs.length + ys.length = (xs ++ ys).length by simp, show [] ++ kcs (xs) ++ kcs (ys) = kcs (xs ++ ys) by simp [kcs]] at hp
  exact ⟨R3.hd, by rw [List.length_append]; simp only [Nat.zero_add], hp.kn.here.1.weak, k.below⟩
theorem concat_ents (L : Nat → Prop) (lh ah bh : Hd) (xs ys : List En) (w : World) (cx : Cx L w) (hl : RS L lh 2 [.slice ah.A xs.length ah.c, .slice bh.A ys.length bh.c] w) (ha : RS L ah xs.length (ecs xs) w) (hb : RS L bh ys.length (ecs ys) w) (hx : xs.length ≤ 10000) (hy : ys.length ≤ 10000) : Calls Tryz.prog 161 [.slice lh.A 2 lh.c].toArray w (fun e w' => ∃ hd : Hd, e = .returned (.slice hd.A (xs ++ ys).length hd.c) ∧ RS L hd (xs ++ ys).length (ecs (xs ++ ys)) w' ∧ Below w.heap.size w w') := by
  refine ent 36 Tryz.func161 rfl (Kb.start cx (Kn.and hl.kn0 (Kn.and ha.kn0 hb.kn0))) <| sr <| lp (pas rfl) rfl <| nt <| sr <| lp (pas rfl) rfl <| nt <| aE <| sr <| lp (pmv rfl) rfl <| lp (pln lO rfl) rfl <| lp (pmv rfl) rfl <| nt <| aP <| bZ <| sr <| lp (pls rfl) rfl <| nt <| aE <| aQ rfl rfl <| aI <| aC <| aE <| aP <| sr <| bP (fun W k => RS.addr k.kn.here.1 (by simp)) ?_
  rintro ⟨B1, p1, hA1⟩
  refine lp (pix lA rfl hA1 (by omega) (by omega)) rfl <| lr (cA (.slice ah.A xs.length ah.c) cW rfl rfl (fun W k => RS.one k.kn.here.1 hA1 _ rfl)) rfl <| lp (pas rfl) rfl <| nt <| sr <| lp (pmv rfl) rfl <| lp (pmv rfl) rfl <| lp (pln fF rfl) rfl <| lp (pad (xs.length : Int) (by unfold wrap64; omega) rfl) rfl <| lp (pas rfl) rfl <| nt <| sr <| lp (pmv rfl) rfl <| lp (pls rfl) rfl <| nt <| aM rfl (aB (by omega)) <| aI <| aW <| aC <| aU <| lp (pad 1 (by unfold wrap64; omega) rfl) rfl <| lp (pmv rfl) rfl <| nt <| bT <| sr <| lp (pls rfl) rfl <| nt <| aE <| aQ rfl rfl <| aI <| aC <| aE <| aP <| sr <| lp (pix lA rfl hA1 (by omega) (by omega)) rfl <| lr (cA (.slice bh.A ys.length bh.c) cW rfl rfl (fun W k => RS.one k.kn.here.1 hA1 _ rfl)) rfl <| lp (pas rfl) rfl <| nt <| sr <| lp (pmv rfl) rfl <| lp (pmv rfl) rfl <| lp (pln fF rfl) rfl <| lp (pad ((xs.length : Int) + ys.length) (by unfold wrap64; omega) rfl) rfl <| lp (pas rfl) rfl <| nt <| sr <| lp (pmv rfl) rfl <| lp (pls rfl) rfl <| nt <| aM rfl (aB (by omega)) <| aI <| aW <| aC <| aU <| lp (pad 2 (by unfold wrap64; omega) rfl) rfl <| lp (pmv rfl) rfl <| nt <| bT <| sr <| lp (pls rfl) rfl <| nt <| aE <| aM rfl rfl <| aX <| aK <| aK <| aY <| aC <| sr <| lp (pmv rfl) rfl <| lx rfl <| fca rF rfl (fun W k => grow_ents _ ((xs.length : Int) + ys.length) (by omega) W k.cx) ?_
  rintro _ _ W1 k ⟨R1, rfl, ok1, hx1, hb1⟩
  refine nx (k.adoptg hb1 hx1) <| lp (pas rfl) rfl <| nt <| aE <| sr <| lp (pmv rfl) rfl <| lp (pln lO rfl) rfl <| lp (pmv rfl) rfl <| nt <| aP <| bZ <| sr <| lp (pls rfl) rfl <| nt <| aE <| aQ rfl rfl <| aI <| aC <| aE <| aP <| sr <| lp (pix lA rfl hA1 (by omega) (by omega)) rfl <| lr (cA (.slice ah.A xs.length ah.c) cW rfl rfl (fun W k => RS.one k.kn.here.1 hA1 _ rfl)) rfl <| lp (pas rfl) rfl <| nt <| aU <| lp (pmv rfl) rfl <| lp (pmv rfl) rfl <| lx rfl <| bY (R := R1) (nn := 0) (cs := []) ([]) (news := ecs (xs)) ap81 rfl ok1 rfl rfl rfl rfl rfl (ecs_len _) (fun W k => k.kn.here.2.1) (ecs_one _) (by omega) fun R2 ok2 => ?_
  refine lp (pas rfl) rfl <| bQ <| aW <| aC <| aU <| lp (pad 1 (by unfold wrap64; omega) rfl) rfl <| lp (pmv rfl) rfl <| nt <| bT <| sr <| lp (pls rfl) rfl <| nt <| aE <| aQ rfl rfl <| aI <| aC <| aE <| aP <| sr <| lp (pix lA rfl hA1 (by omega) (by omega)) rfl <| lr (cA (.slice bh.A ys.length bh.c) cW rfl rfl (fun W k => RS.one k.kn.here.1 hA1 _ rfl)) rfl <| lp (pas rfl) rfl <| nt <| aU <| lp (pmv rfl) rfl <| lp (pmv rfl) rfl <| lx rfl <| bY (R := R2) (nn := 0 + xs.length) (cs := [] ++ ecs (xs)) ([]) (news := ecs (ys)) ap81 rfl ok2 rfl rfl rfl rfl rfl (ecs_len _) (fun W k => k.kn.here.2.2) (ecs_one _) (by omega) fun R3 ok3 => ?_
  refine lp (pas rfl) rfl <| bQ <| aW <| aC <| aU <| lp (pad 2 (by unfold wrap64; omega) rfl) rfl <| lp (pmv rfl) rfl <| nt <| bT <| sr <| lp (pls rfl) rfl <| nt <| aE <| aM rfl rfl <| aX <| aK <| aK <| aY <| aC <| sr <| lp (pmv rfl) rfl <| lp (pas rfl) rfl <| nt <| aF <| aG _ (res1 rfl (aD rfl)) (fun W k => ?_)
  have hp := Kb.pubg (l := []) (e := 141) (R := R3) k ok3
  rw [show 0 + xs.length + ys.length = (xs ++ ys).length by simp, show [] ++ ecs (xs) ++ ecs (ys) = ecs (xs ++ ys) by simp [ecs]] at hp
  exact ⟨R3.hd, by rw [List.length_append]; simp only [Nat.zero_add], hp.kn.here.1.weak, k.below⟩
theorem dS : foB Tryz.prog 84 3 4 = true := by kernel_rfl
theorem rG : fnB Tryz.prog 152 = true := by kernel_rfl
theorem sz82 : szB Tryz.prog 82 1 = true := by kernel_rfl
theorem rH : fnB Tryz.prog 153 = true := by kernel_rfl
theorem rI : fnB Tryz.prog 161 = true := by kernel_rfl
theorem nQ : foB Tryz.prog 180 1 1 = true := by kernel_rfl
theorem eV : foB Tryz.prog 23 9 9 = true := by kernel_rfl
theorem dW : foB Tryz.prog 23 10 10 = true := by kernel_rfl
theorem rJ : fnB Tryz.prog 111 = true := by kernel_rfl
theorem oO : fnB Tryz.prog 110 = true := by kernel_rfl
theorem gM : foB Tryz.prog 124 6 35 = true := by kernel_rfl
theorem dB : cellB Tryz.prog 36 = true := by kernel_rfl
theorem ap36 : apB Tryz.prog 36 70 6 = true := by kernel_rfl
theorem rK : fnB Tryz.prog 112 = true := by kernel_rfl
theorem nR : foB Tryz.prog 141 0 0 = true := by kernel_rfl
theorem eI : foB Tryz.prog 84 1 1 = true := by kernel_rfl
theorem lC : szB Tryz.prog 36 1 = true := by kernel_rfl
theorem kL : zeroB Tryz.prog 156 (#[I 0, I 0]) := by unfold zeroB; kernel_rfl
theorem lZ : fnB Tryz.prog 28 = true := by kernel_rfl
theorem dL : foB Tryz.prog 156 0 0 = true := by kernel_rfl
theorem kM : foB Tryz.prog 156 1 1 = true := by kernel_rfl
theorem iN : rowB Tryz.prog 156 2 = true := by kernel_rfl
theorem mA : szB Tryz.prog 156 2 = true := by kernel_rfl
theorem kN : foB Tryz.prog 84 14 15 = true := by kernel_rfl
theorem eQ : fnB Tryz.prog 95 = true := by kernel_rfl
theorem pH : fnB Tryz.prog 88 = true := by kernel_rfl
theorem dD : foB Tryz.prog 84 11 12 = true := by kernel_rfl
theorem fn90 : fnB Tryz.prog 90 = true := by kernel_rfl
theorem rL : fnB Tryz.prog 87 = true := by kernel_rfl
theorem rM : fnB Tryz.prog 89 = true := by kernel_rfl
theorem take_row (L : Nat → Prop) (s : Sl) (T : Tn) (who : Int) (bh : Hd) (xs : List En) (w : World) (cx : Cx L w) (hr : RT L s T w) (hx : RS L bh xs.length (ecs xs) w) (h1 : T.th.batch.length ≤ 10000) (h2 : T.th.kids.length ≤ 10000) (h3 : xs.length ≤ 10000) : Calls Tryz.prog 143 [.agg (tc T s), I who, .slice bh.A xs.length bh.c].toArray w (RetT L w (takeG T who xs)) := by
  refine ent 30 Tryz.func143 rfl (Kb.start cx (Kn.and hx.kn0 (RTL.kn0 hr))) <| sr <| lx rfl <| fba rfl fun g1 => ?_
  refine lx rfl <| fal bH rfl fun g2 => ?_
  refine nt <| sr <| lp (pfa aN 16 rfl) rfl <| lp (pfa eT 21 rfl) rfl <| lr (rce 1 (.slice s.kids.A T.th.kids.length s.kids.c) dQ rfl) rfl <| lp (pmv rfl) rfl <| lp (pfa aN 16 rfl) rfl <| lp (pfa dS 20 rfl) rfl <| lr (rce 1 (.slice s.batch.A T.th.batch.length s.batch.c) cW rfl) rfl <| lp (pln fF rfl) rfl <| lp (bB (#[I who, I T.th.batch.length]) rfl rfl (by kernel_rfl)) rfl <| lx rfl <| bO (t := 82) (e := 180) (sz := 2) 1 (#[I who, I T.th.batch.length]) ⟨by kernel_rfl, by kernel_rfl⟩ rfl rfl rfl rfl fun g3 => ?_
  refine lx rfl <| bO (t := 210) (e := 82) (sz := 1) 2 (#[.slice s.kids.A T.th.kids.length s.kids.c, .slice (some ⟨g3, 0, none⟩) 1 1]) ⟨by kernel_rfl, by kernel_rfl⟩ rfl rfl rfl rfl fun g4 => ?_
  refine bR (fun _ h => h.pub 1 rfl 1 1 (kcs [⟨who, T.th.batch.length⟩]) (by decide) (fun i v hv => by simpa [kcs] using hv)) <| bR (fun _ h => h.pub 0 rfl 2 2 (#[.slice s.kids.A T.th.kids.length s.kids.c, .slice (some ⟨g3, 0, none⟩) 1 1].toList) (by decide) (fun i v hv => by simpa using hv)) <| lx rfl <| fca rG rfl (fun W k => concat_kids _ (⟨some ⟨g4, 0, none⟩, 2⟩ : Hd) s.kids (⟨some ⟨g3, 0, none⟩, 1⟩ : Hd) T.th.kids ([⟨who, T.th.batch.length⟩]) W k.cx k.kn.here.1 k.kn.here.2.2.2.kids k.kn.here.2.1 (by omega) (by simp)) ?_
  rintro _ _ W1 k ⟨ct1, rfl, hr1, hb1⟩
  refine nx ((k.call hb1).and hr1.kn) <| lp (pfa aN 16 rfl) rfl <| lp (pfa eT 21 rfl) rfl <| lx rfl <| fst 1 [_, (g1, Ce 124 (tc { T with th := { T.th with kids := T.th.kids ++ ([⟨who, T.th.batch.length⟩]) } } { s with kids := ct1 }))] sz82 rfl rfl <| nt <| sr <| lp (pfa aN 16 rfl) rfl <| lp (pfa dS 20 rfl) rfl <| lr (rce 1 (.slice s.batch.A T.th.batch.length s.batch.c) cW rfl) rfl <| lp (pmv rfl) rfl <| lx rfl <| bO (t := 30) (e := 81) (sz := 1) 2 (#[.slice s.batch.A T.th.batch.length s.batch.c, .slice bh.A xs.length bh.c]) ⟨by kernel_rfl, by kernel_rfl⟩ rfl rfl rfl rfl fun g5 => ?_
  refine lx rfl <| fin rH rfl (fun W k => ?_)
  refine ent 5 Tryz.func153 rfl k <| sr <| lp (pas rfl) rfl <| nt <| sr <| lp (pmv rfl) rfl <| bR (fun _ h => h.pub 0 rfl 2 2 (#[.slice s.batch.A T.th.batch.length s.batch.c, .slice bh.A xs.length bh.c].toList) (by decide) (fun i v hv => by simpa using hv)) <| lx rfl <| fca rI rfl (fun W k => concat_ents _ (⟨some ⟨g5, 0, none⟩, 2⟩ : Hd) s.batch bh T.th.batch xs W k.cx k.kn.here.1 k.kn.here.2.2.2.2.2.batch k.kn.here.2.2.2.2.1 (by omega) (by omega)) ?_
  rintro _ _ W2 k ⟨ct2, rfl, hr2, hb2⟩
  refine nx ((k.call hb2).and hr2.kn) <| lp (pas rfl) rfl <| nt <| aF <| aG _ (res1 rfl (aD rfl)) (fun W k => ?_)
  refine nx k <| lp (pfa aN 16 rfl) rfl <| lp (pfa dS 20 rfl) rfl <| lx rfl <| fst 1 [_, (g1, Ce 124 (tc { T with th := { T.th with kids := T.th.kids ++ ([⟨who, T.th.batch.length⟩]), batch := T.th.batch ++ xs } } { s with kids := ct1, batch := ct2 }))] nO rfl rfl <| nt <| sr <| lr (ral 1 aL rfl) rfl <| lx rfl <| ffl 0 [(g2, Ce 124 (tc { T with th := { T.th with kids := T.th.kids ++ ([⟨who, T.th.batch.length⟩]), batch := T.th.batch ++ xs } } { s with kids := ct1, batch := ct2 })), _] aZ rfl rfl <| nt <| aF <| aG _ (res1 rfl (aO 0 37 aL rfl rfl rfl)) (fun W k => ?_)
  exact RetT.of rfl ⟨k.kn.here.2.2.2.2.2.2.words.weak, k.kn.here.2.2.2.2.2.2.boxes.weak, k.kn.here.1.weak, k.kn.here.2.2.1.weak, k.kn.here.2.2.2.2.2.2.held.weak, k.kn.here.2.2.2.2.2.2.tl.weak, k.kn.here.2.2.2.2.2.2.log.weak⟩ k.below
theorem share_is (L : Nat → Prop) (s : Sl) (T : Tn) (hw : TnOk T) (w : World) (cx : Cx L w) (hr : RT L s T w) (hk : 0 ≤ T.th.at_ ∧ T.th.at_ < T.th.kids.length) (ha : T.th.kids.length ≤ 1000) (h0 : 0 ≤ resultS T.c (kidS T).t) (h1 : resultS T.c (kidS T).t < T.m.words.length) : Calls Tryz.prog 85 [.agg (tc T s)].toArray w (RetT L w (shareS T)) := by
  have hc := hw.c
  refine ent 61 Tryz.func85 rfl (Kb.start cx (RTL.kn0 hr)) <| sr <| lx rfl <| fba rfl fun g1 => ?_
  refine lx rfl <| fal bH rfl fun g2 => ?_
  refine nt <| sr <| lr (ral 1 fY rfl) rfl <| lx rfl <| fin lT rfl (fun W k => ?_)
  refine ent 32 Tryz.func109 rfl k <| sr <| lx rfl <| fba rfl fun g3 => ?_
  refine lx rfl <| fal dU rfl fun g4 => ?_
  refine lp (pas rfl) rfl <| nt <| aE <| sr <| lp (pfa bL 0 rfl) rfl <| lp (pfa aN 16 rfl) rfl <| lp (pfa cK 25 rfl) rfl <| lr (rce 1 (I T.th.at_) aJ rfl) rfl <| lp (pls rfl) rfl <| lp (pmv rfl) rfl <| gp (wi rfl (aB (by omega)) rfl) (pfa bL 0 rfl) rfl <| gp (wi rfl (aB (by omega)) rfl) (pfa aN 16 rfl) rfl <| gp (wi rfl (aB (by omega)) rfl) (pfa cK 25 rfl) rfl <| gr (wi rfl (aB (by omega)) rfl) (rce 1 (I T.th.at_) aJ rfl) rfl <| gp (wi rfl (aB (by omega)) rfl) (pfa bL 0 rfl) rfl <| gp (wi rfl (aB (by omega)) rfl) (pfa aN 16 rfl) rfl <| gp (wi rfl (aB (by omega)) rfl) (pfa eT 21 rfl) rfl <| gr (wi rfl (aB (by omega)) rfl) (rce 1 (.slice s.kids.A T.th.kids.length s.kids.c) dQ rfl) rfl <| gp (wi rfl (aB (by omega)) rfl) (pln fQ rfl) rfl <| gp (wi rfl (aB (by omega)) rfl) (pge rfl) rfl <| lp (ppf (aB (by omega)) rfl) rfl <| nt <| aM rfl (aB (by omega)) <| aI <| aC <| sr <| lp (pfa bL 0 rfl) rfl <| lp (pfa aN 16 rfl) rfl <| lp (pfa eT 21 rfl) rfl <| lr (rce 1 (.slice s.kids.A T.th.kids.length s.kids.c) dQ rfl) rfl <| lp (pfa bL 0 rfl) rfl <| lp (pfa aN 16 rfl) rfl <| lp (pfa cK 25 rfl) rfl <| lr (rce 1 (I T.th.at_) aJ rfl) rfl <| bP (fun W k => RS.addr k.kn.here.kids (by simp only [List.length_map, ecs_len, kcs_len, mcs_len]; omega)) ?_
  rintro ⟨B1, p1, hA1⟩
  refine lp (pix lU rfl hA1 (by omega) (by omega)) rfl <| lr (dE 2 (#[I ((T.th.kids.getD (T.th.at_).toNat ki0).t), I ((T.th.kids.getD (T.th.at_).toNat ki0).ah)]) eA rfl rfl rfl (fun W k => RS.rng k.kn.here.kids hA1 _ (by simp only [kcs_len]; omega) (kcs_at T.th.kids _ (by omega) (by omega)))) rfl <| lx rfl <| ffl 0 [(g4, Ce 180 (#[I ((T.th.kids.getD (T.th.at_).toNat ki0).t), I ((T.th.kids.getD (T.th.at_).toNat ki0).ah)])), _, _, _] fG rfl rfl <| lp (pas rfl) rfl <| nt <| aF <| aG _ (res2 rfl (aO 0 2 eA rfl rfl rfl) (aD rfl)) (fun W k => ?_)
  refine nx k <| lp (pmv rfl) rfl <| lp (pex rfl) rfl <| lp (pex rfl) rfl <| lx rfl <| fal dU rfl fun g5 => ?_
  refine lx rfl <| ffl 0 [(g5, Ce 180 (#[I ((T.th.kids.getD (T.th.at_).toNat ki0).t), I ((T.th.kids.getD (T.th.at_).toNat ki0).ah)])), _, _, _, _] fG rfl rfl <| lp (pas rfl) rfl <| nt <| aE <| sr <| lp (pmv rfl) rfl <| lp (pno rfl) rfl <| nt <| aM rfl (congrArg not rfl) <| aI <| aC <| aE <| dst [] <| dp 0 rfl (pfa bL 0 rfl) <| dp 1 rfl (pfa aN 16 rfl) <| dp 2 rfl (pfa dS 20 rfl) <| dp 4 rfl (pfa nQ 1 rfl) <| dp 7 rfl (pfa bL 0 rfl) <| dp 8 rfl (pfa aN 16 rfl) <| dp 9 rfl (pfa dH 30 rfl) <| dp 11 rfl (pfa bL 0 rfl) <| dp 12 rfl (pfa bK 0 rfl) <| dp 13 rfl (pfa eV 9 rfl) <| dp 15 rfl (pfa bL 0 rfl) <| dp 16 rfl (pfa bK 0 rfl) <| dp 17 rfl (pfa dW 10 rfl) <| dr 3 rfl (fun _ h => h) (rce 4 (.slice s.batch.A T.th.batch.length s.batch.c) cW rfl) <| dr 5 rfl (fun _ h => h) (rce 0 (I ((T.th.kids.getD (T.th.at_).toNat ki0).ah)) aJ rfl) <| dr 10 rfl (fun _ h => h) (rce 4 (I T.th.x) aJ rfl) <| dr 14 rfl (fun _ h => h) (rce 4 (I T.c.lo) aJ rfl) <| dr 18 rfl (fun _ h => h) (rce 4 (I T.c.hi) aJ rfl) <| dx 6 rfl <| fca rJ rfl (fun W k => upto_is _ s.batch T.th.batch ((T.th.kids.getD (T.th.at_).toNat ki0).ah) W k.cx k.kn.here.batch (by have := hw.ba; simp; omega)) ?_
  rintro _ _ W1 k ⟨up1, rfl, hr1, hb1⟩
  refine nx ((k.call hb1).and hr1.kn) (aH (fun _ h => h.drop) ?_)
  refine dx 19 rfl <| fcv oO rfl (fun W k => all_is _ up1 (T.th.batch.take ((T.th.kids.getD (T.th.at_).toNat ki0).ah).toNat) T.th.x T.c.lo T.c.hi W k.cx k.kn.here.1 (by have := hw.ba; simp; omega)) (aH (fun _ h => h.drop) ?_)
  refine dp 20 rfl (pas rfl) <| dd <| aC <| aE <| cJ (σ := Hd × Nat) (fun x1 => [(1, .pointer (some ⟨g1, 0, none⟩)), (2, .pointer (some ⟨g2, 0, none⟩)), (6, .pointer (some ⟨x1.2, 0, none⟩)), (7, I 0)]) (fun x1 => [(x1.2, Ce 32 (mc (T.m.set (resultS T.c ((T.th.kids.getD (T.th.at_).toNat ki0).t)) (allS (T.th.batch.take ((T.th.kids.getD (T.th.at_).toNat ki0).ah).toNat) T.th.x T.c.lo T.c.hi)) x1.1 s.boxes)), (g5, Ce 180 (#[I ((T.th.kids.getD (T.th.at_).toNat ki0).t), I ((T.th.kids.getD (T.th.at_).toNat ki0).ah)])), (g4, Ce 180 (#[I ((T.th.kids.getD (T.th.at_).toNat ki0).t), I ((T.th.kids.getD (T.th.at_).toNat ki0).ah)])), (g3, Ce 151 (tc T s)), (g2, Ce 124 (tc tn0 sl0)), (g1, Ce 151 (tc T s))]) (fun x1 F O W => RS (Av L O) x1.1 (T.m.set (resultS T.c ((T.th.kids.getD (T.th.at_).toNat ki0).t)) (allS (T.th.batch.take ((T.th.kids.getD (T.th.at_).toNat ki0).ah).toNat) T.th.x T.c.lo T.c.hi)).words.length ((T.m.set (resultS T.c ((T.th.kids.getD (T.th.at_).toNat ki0).t)) (allS (T.th.batch.take ((T.th.kids.getD (T.th.at_).toNat ki0).ah).toNat) T.th.x T.c.lo T.c.hi)).words.map I) W ∧ F O W) ?_ ?_
  refine dst [15] <| dp 0 rfl (pfa bL 0 rfl) <| dp 1 rfl (pfa bJ 14 rfl) <| dp 3 rfl (pfa bL 0 rfl) <| dp 4 rfl (pfa bK 0 rfl) <| dp 6 rfl (pfa kG 0 rfl) <| dp 9 rfl (pmv rfl) <| dr 2 rfl (fun _ h => h) (rro 4 (mc T.m s.words s.boxes) bI rfl) <| dr 5 rfl (fun _ h => h) (rro 4 T.c.cells bM rfl) <| dr 7 rfl (fun _ h => h) (rce 0 (I ((T.th.kids.getD (T.th.at_).toNat ki0).t)) aJ rfl) <| d2 8 14 rfl ?_ ?_
  refine fcv lV rfl (fun W k => result_is _ T.c hc ((T.th.kids.getD (T.th.at_).toNat ki0).t) W k.cx) (aH (fun _ h => h) ?_)
  refine d2 10 14 rfl ?_ ?_
  refine fca dR rfl (fun W k => mstore_is _ T.m s.words s.boxes (resultS T.c ((T.th.kids.getD (T.th.at_).toNat ki0).t)) (allS (T.th.batch.take ((T.th.kids.getD (T.th.at_).toNat ki0).ah).toNat) T.th.x T.c.lo T.c.hi) W k.cx k.kn.here.2.words k.kn.here.2.boxes h0 h1 hw.hm) ?_
  rintro _ _ W1_10a k ⟨ma1_10a, rfl, hr1_10a, hb1_10a⟩
  refine nx ((k.call hb1_10a).and hr1_10a.kn) (aH (fun _ h => h.drop) ?_)
  refine dp 11 rfl (pmv rfl) <| dp 12 rfl (pex rfl) <| dp 13 rfl (pex rfl) <| dx 14 rfl <| fal bF rfl fun g1_14a => ?_
  refine aH (fun _ h => (h.leave 0).drop) <| dl 15 rfl <| ffl 0 [(g1_14a, Ce 32 (mc (T.m.set (resultS T.c ((T.th.kids.getD (T.th.at_).toNat ki0).t)) (allS (T.th.batch.take ((T.th.kids.getD (T.th.at_).toNat ki0).ah).toNat) T.th.x T.c.lo T.c.hi)) ma1_10a s.boxes)), _, _, _, _, _] bN rfl rfl <| dp 16 rfl (pas rfl) <| dd ?_
  exact bE (σ := Hd × Nat) (ma1_10a, g1_14a) ⟨rfl, rfl, rfl, rfl, trivial⟩ (fun W k => (k.re fun O W h => ⟨h.1, h.2⟩))
  refine fal bF rfl fun g1_14a => ?_
  refine aH (fun _ h => (h.leave 0)) <| dx 10 rfl <| fca dR rfl (fun W k => mstore_is _ T.m s.words s.boxes (resultS T.c ((T.th.kids.getD (T.th.at_).toNat ki0).t)) (allS (T.th.batch.take ((T.th.kids.getD (T.th.at_).toNat ki0).ah).toNat) T.th.x T.c.lo T.c.hi) W k.cx k.kn.here.2.words k.kn.here.2.boxes h0 h1 hw.hm) ?_
  rintro _ _ W1_10a k ⟨ma1_10a, rfl, hr1_10a, hb1_10a⟩
  refine nx ((k.call hb1_10a).and hr1_10a.kn) (aH (fun _ h => (h.leave 0).drop) ?_)
  refine dp 11 rfl (pmv rfl) <| dp 12 rfl (pex rfl) <| dp 13 rfl (pex rfl) <| dl 15 rfl <| ffl 0 [(g1_14a, Ce 32 (mc (T.m.set (resultS T.c ((T.th.kids.getD (T.th.at_).toNat ki0).t)) (allS (T.th.batch.take ((T.th.kids.getD (T.th.at_).toNat ki0).ah).toNat) T.th.x T.c.lo T.c.hi)) ma1_10a s.boxes)), _, _, _, _, _] bN rfl rfl <| dp 16 rfl (pas rfl) <| dd ?_
  exact bE (σ := Hd × Nat) (ma1_10a, g1_14a) ⟨rfl, rfl, rfl, rfl, trivial⟩ (fun W k => (k.re fun O W h => ⟨h.1, h.2⟩))
  refine fal bF rfl fun g1_14a => ?_
  refine aH (fun _ h => (h.leave 0)) <| dx 8 rfl <| fcv lV rfl (fun W k => result_is _ T.c hc ((T.th.kids.getD (T.th.at_).toNat ki0).t) W k.cx) (aH (fun _ h => (h.leave 0)) ?_)
  refine dx 10 rfl <| fca dR rfl (fun W k => mstore_is _ T.m s.words s.boxes (resultS T.c ((T.th.kids.getD (T.th.at_).toNat ki0).t)) (allS (T.th.batch.take ((T.th.kids.getD (T.th.at_).toNat ki0).ah).toNat) T.th.x T.c.lo T.c.hi) W k.cx k.kn.here.2.words k.kn.here.2.boxes h0 h1 hw.hm) ?_
  rintro _ _ W1_10a k ⟨ma1_10a, rfl, hr1_10a, hb1_10a⟩
  refine nx ((k.call hb1_10a).and hr1_10a.kn) (aH (fun _ h => (h.leave 0).drop) ?_)
  refine dp 11 rfl (pmv rfl) <| dp 12 rfl (pex rfl) <| dp 13 rfl (pex rfl) <| dl 15 rfl <| ffl 0 [(g1_14a, Ce 32 (mc (T.m.set (resultS T.c ((T.th.kids.getD (T.th.at_).toNat ki0).t)) (allS (T.th.batch.take ((T.th.kids.getD (T.th.at_).toNat ki0).ah).toNat) T.th.x T.c.lo T.c.hi)) ma1_10a s.boxes)), _, _, _, _, _] bN rfl rfl <| dp 16 rfl (pas rfl) <| dd ?_
  exact bE (σ := Hd × Nat) (ma1_10a, g1_14a) ⟨rfl, rfl, rfl, rfl, trivial⟩ (fun W k => (k.re fun O W h => ⟨h.1, h.2⟩))
  intro x1
  refine aC <| aE <| sr <| lp (pmv rfl) rfl <| lp (peq rfl) rfl <| nt <| aQ rfl rfl <| aU <| lr (ral 0 bI rfl) rfl <| lp (pfa bL 0 rfl) rfl <| lp (pfa bJ 14 rfl) rfl <| lx rfl <| fst 5 [_, _, _, _, _, (g1, Ce 151 (tc { T with m := T.m.set (resultS T.c ((T.th.kids.getD (T.th.at_).toNat ki0).t)) (allS (T.th.batch.take ((T.th.kids.getD (T.th.at_).toNat ki0).ah).toNat) T.th.x T.c.lo T.c.hi) } { s with words := x1.1, boxes := s.boxes }))] bN rfl rfl <| lp (pfa bL 0 rfl) rfl <| lp (pfa aN 16 rfl) rfl <| lp (pfa bG 16 rfl) rfl <| lx rfl <| fst 5 [_, _, _, _, _, (g1, Ce 151 (tc { T with m := T.m.set (resultS T.c ((T.th.kids.getD (T.th.at_).toNat ki0).t)) (allS (T.th.batch.take ((T.th.kids.getD (T.th.at_).toNat ki0).ah).toNat) T.th.x T.c.lo T.c.hi), th := { T.th with ph := 16 } } { s with words := x1.1, boxes := s.boxes }))] cG rfl rfl <| nt <| sr <| lp (pfa bL 0 rfl) rfl <| lr (ral 5 aL rfl) rfl <| lx rfl <| ffl 4 [_, _, _, _, (g2, Ce 124 (tc { T with m := T.m.set (resultS T.c ((T.th.kids.getD (T.th.at_).toNat ki0).t)) (allS (T.th.batch.take ((T.th.kids.getD (T.th.at_).toNat ki0).ah).toNat) T.th.x T.c.lo T.c.hi), th := { T.th with ph := 16 } } { s with words := x1.1, boxes := s.boxes })), _] aZ rfl rfl <| nt <| aF <| aG _ (res1 rfl (aO 4 37 aL rfl rfl rfl)) (fun W k => ?_)
  exact RetT.of rfl ⟨k.kn.here.1.weak, k.kn.here.2.2.boxes.weak, k.kn.here.2.2.batch.weak, k.kn.here.2.2.kids.weak, k.kn.here.2.2.held.weak, k.kn.here.2.2.tl.weak, k.kn.here.2.2.log.weak⟩ k.below
theorem mk_step {bt : List En} {item : Int} {ps : List Int} {lg : List Mk} {k : Nat} (hp : ps.length = bt.length) (h : (k : Int) < ps.length) {R : Gr}
    (ok : R.Ok 6 (lg.length + k + 1) (mcs (lg ++ (marksS item bt ps).take k) ++ #[I (bt.getD ((k : Int)).toNat en0).t, I item, I (bt.getD ((k : Int)).toNat en0).tag, I (bt.getD ((k : Int)).toNat en0).v, I (ps.getD ((k : Int)).toNat 0), I 0].toList)) :
    R.Ok 6 (lg.length + (k + 1)) (mcs (lg ++ (marksS item bt ps).take (k + 1))) := by
  have key : ∀ (bt : List En) (ps : List Int) (k : Nat), ps.length = bt.length → k < ps.length → (marksS item bt ps)[k]? = some ⟨(bt.getD k en0).t, item, (bt.getD k en0).tag, (bt.getD k en0).v, ps.getD k 0, 0⟩ := by
    intro bt
    induction bt with
    | nil => intro ps k h1 h2; simp at h1; subst h1; simp at h2
    | cons e r ih =>
      intro ps k h1 h2
      cases ps with
      | nil => simp at h2
      | cons p ps =>
        cases k with
        | zero => rfl
        | succ k => simpa [marksS] using ih ps k (by simpa using h1) (by simpa using h2)
  have e := key bt ps k hp (by omega)
  have e2 : (marksS item bt ps).take (k + 1) = (marksS item bt ps).take k ++ [⟨(bt.getD k en0).t, item, (bt.getD k en0).tag, (bt.getD k en0).v, ps.getD k 0, 0⟩] := by
    rw [List.take_add_one, e]; rfl
  rw [e2, ← List.append_assoc]
  have e3 : ∀ (x : List Mk) (y : Mk), mcs (x ++ [y]) = mcs x ++ [I y.t, I y.item, I y.tag, I y.v, I y.prior, I y.step] := fun x y => by simp [mcs]
  rw [e3]
  exact ok
theorem marks_len (item : Int) : ∀ (bt : List En) (ps : List Int), ps.length = bt.length → (marksS item bt ps).length = ps.length
  | [], [], _ => rfl
  | e :: bt, p :: ps, h => by simp [marksS, marks_len item bt ps (by simpa using h)]
theorem commit_is (L : Nat → Prop) (s : Sl) (T : Tn) (x : Int) (w : World) (cx : Cx L w) (hr : RT L s T w) (hba : T.th.batch.length ≤ 10000) (hlg : T.log.length ≤ 10000) : Calls Tryz.prog 88 [.agg (tc T s), I x].toArray w (RetT L w (commitS T x)) := by
  have hpl := priors_len T.th.batch x T.c.lo T.c.hi
  refine ent 64 Tryz.func88 rfl (Kb.start cx (RTL.kn0 hr)) <| sr <| lx rfl <| fba rfl fun g1 => ?_
  refine lx rfl <| fal bH rfl fun g2 => ?_
  refine nt <| sr <| lp (pfa aN 16 rfl) rfl <| lp (pas rfl) rfl <| nt <| sr <| lp (pfa gM 35 rfl) rfl <| lr (rce 1 (.slice s.log.A T.log.length s.log.c) dB rfl) rfl <| lx rfl <| bY (R := none) (nn := 0) (cs := []) ([(g2, Ce 124 (tc tn0 sl0)), (g1, Ce 124 (tc T s))]) (news := mcs (T.log)) ap36 rfl (Gr.nil 6) rfl rfl rfl rfl rfl (mcs_len _) (fun W k => k.kn.here.log) (mcs_one _) (by omega) fun R1 ok1 => ?_
  refine lp (pas rfl) rfl <| nt <| aE <| aE <| bU ([(g2, Ce 124 (tc tn0 sl0)), (g1, Ce 124 (tc T s))]) 14 [] (bA 14 0) (fun _ h => (Kb.tail (l := [(g2, Ce 124 (tc tn0 sl0)), (g1, Ce 124 (tc T s))]) (e := 70) (R := R1) h)) rfl (by kernel_rfl) <| dp 0 rfl (pmv rfl) <| dp 1 rfl (aR rfl rfl) <| dp 2 rfl (pfa dS 20 rfl) <| dp 4 rfl (pmv rfl) <| dp 5 rfl (pfa bK 0 rfl) <| dp 6 rfl (pfa eV 9 rfl) <| dp 8 rfl (pfa bK 0 rfl) <| dp 9 rfl (pfa dW 10 rfl) <| dp 13 rfl (pmv rfl) <| dr 3 rfl (fun _ h => (Kb.tail (l := [(g2, Ce 124 (tc tn0 sl0)), (g1, Ce 124 (tc T s))]) (e := 70) (R := R1) h)) (rce 1 (.slice s.batch.A T.th.batch.length s.batch.c) cW rfl) <| dr 7 rfl (fun _ h => (Kb.tail (l := [(g2, Ce 124 (tc tn0 sl0)), (g1, Ce 124 (tc T s))]) (e := 70) (R := R1) h)) (rce 1 (I T.c.lo) aJ rfl) <| dr 10 rfl (fun _ h => (Kb.tail (l := [(g2, Ce 124 (tc tn0 sl0)), (g1, Ce 124 (tc T s))]) (e := 70) (R := R1) h)) (rce 1 (I T.c.hi) aJ rfl) <| dx 11 rfl <| fca rK rfl (fun W k => priors_is _ s.batch T.th.batch x T.c.lo T.c.hi W k.cx k.kn.here.batch (by omega)) ?_
  rintro _ _ W1 k ⟨pr1, rfl, hr1, hb1⟩
  refine nx ((k.call hb1).and hr1.kn) (aH (fun _ h => (Kb.tail (l := [(g2, Ce 124 (tc tn0 sl0)), (g1, Ce 124 (tc T s))]) (e := 70) (R := R1) h).drop) ?_)
  refine dp 12 rfl (pln fP rfl) <| dd <| aC <| aP <| cY (fun i1 R2 => [(1, I x), (2, .pointer (some ⟨g1, 0, none⟩)), (4, .pointer (some ⟨g2, 0, none⟩)), (5, .pointer (some ⟨g1, 16, none⟩)), (27, I (i1 : Int)), (25, .slice pr1.A ((priorsS T.th.batch x T.c.lo T.c.hi).length) pr1.c), (26, I ((priorsS T.th.batch x T.c.lo T.c.hi).length)), (6, .slice (Gr.hd R2).A (T.log.length + i1) (Gr.hd R2).c)]) (fun i1 R2 => ([(g2, Ce 124 (tc tn0 sl0)), (g1, Ce 124 (tc T s))] ++ Gr.box 70 R2)) (fun i1 R2 => Gr.Ok 6 R2 (T.log.length + i1) (mcs (T.log ++ (marksS T.th.item T.th.batch (priorsS T.th.batch x T.c.lo T.c.hi)).take (i1)))) ((priorsS T.th.batch x T.c.lo T.c.hi).length) R1 (by simpa using ok1) ⟨rfl, rfl, rfl, rfl, rfl, rfl, rfl, (congrArg (fun n => some (Value.slice (Gr.hd R1).A n (Gr.hd R1).c)) (by omega)), trivial⟩ rfl (fun i1 R2 hi1 ok2 => ?_)
  refine sr <| lp (pls rfl) rfl <| nt <| aE ?_
  by_cases c1 : (i1 : Int) < (priorsS T.th.batch x T.c.lo T.c.hi).length
  refine aQ rfl (aA c1) <| aI <| aC <| aE <| aP <| sr <| lp (pmv rfl) rfl <| bP (fun W k => RS.addr k.kn.here.1 (by simp only [List.length_map, ecs_len, kcs_len, mcs_len]; omega)) ?_
  rintro ⟨B1, p1, hA1⟩
  refine lp (pix fW rfl hA1 (by omega) (by omega)) rfl <| lr (cA (I ((priorsS T.th.batch x T.c.lo T.c.hi).getD ((i1 : Int)).toNat 0)) aJ rfl rfl (fun W k => RS.one k.kn.here.1 hA1 _ (ints_at (priorsS T.th.batch x T.c.lo T.c.hi) _ (by omega) (by omega)))) rfl <| lp (pas rfl) rfl <| lp (pas rfl) rfl <| nt <| sr <| lp (pmv rfl) rfl <| lp (aR rfl rfl) rfl <| lp (pfa dS 20 rfl) rfl <| lr (rce 1 (.slice s.batch.A T.th.batch.length s.batch.c) cW rfl) rfl <| lp (pmv rfl) rfl <| bP (fun W k => RS.addr k.kn.here.2.batch (by simp only [List.length_map, ecs_len, kcs_len, mcs_len]; omega)) ?_
  rintro ⟨B2, p2, hA2⟩
  refine lp (pix lB rfl hA2 (by omega) (by omega)) rfl <| lr (dE 3 (#[I ((T.th.batch.getD ((i1 : Int)).toNat en0).t), I ((T.th.batch.getD ((i1 : Int)).toNat en0).tag), I ((T.th.batch.getD ((i1 : Int)).toNat en0).v)]) jP rfl rfl rfl (fun W k => RS.rng k.kn.here.2.batch hA2 _ (by simp only [ecs_len]; omega) (ecs_at T.th.batch _ (by omega) (by omega)))) rfl <| lx rfl <| fal iJ rfl fun g3 => ?_
  refine lx rfl <| ffl 0 ([(g3, Ce 141 (#[I ((T.th.batch.getD ((i1 : Int)).toNat en0).t), I ((T.th.batch.getD ((i1 : Int)).toNat en0).tag), I ((T.th.batch.getD ((i1 : Int)).toNat en0).v)])), _, _] ++ Gr.box 70 R2) lQ rfl rfl <| nt <| bU ([(g3, Ce 141 (#[I ((T.th.batch.getD ((i1 : Int)).toNat en0).t), I ((T.th.batch.getD ((i1 : Int)).toNat en0).tag), I ((T.th.batch.getD ((i1 : Int)).toNat en0).v)])), (g2, Ce 124 (tc tn0 sl0)), (g1, Ce 124 (tc T s))]) 14 [] (bA 14 0) (fun _ h => (Kb.tail (l := [(g3, Ce 141 (#[I ((T.th.batch.getD ((i1 : Int)).toNat en0).t), I ((T.th.batch.getD ((i1 : Int)).toNat en0).tag), I ((T.th.batch.getD ((i1 : Int)).toNat en0).v)])), (g2, Ce 124 (tc tn0 sl0)), (g1, Ce 124 (tc T s))]) (e := 70) (R := R2) h)) rfl (by kernel_rfl) <| dp 0 rfl (pmv rfl) <| dp 1 rfl (pfa nR 0 rfl) <| dp 3 rfl (pmv rfl) <| dp 4 rfl (aR rfl rfl) <| dp 5 rfl (pfa eI 17 rfl) <| dp 7 rfl (pfa iK 1 rfl) <| dp 9 rfl (pmv rfl) <| dr 2 rfl (fun _ h => (Kb.tail (l := [(g3, Ce 141 (#[I ((T.th.batch.getD ((i1 : Int)).toNat en0).t), I ((T.th.batch.getD ((i1 : Int)).toNat en0).tag), I ((T.th.batch.getD ((i1 : Int)).toNat en0).v)])), (g2, Ce 124 (tc tn0 sl0)), (g1, Ce 124 (tc T s))]) (e := 70) (R := R2) h)) (rce 0 (I ((T.th.batch.getD ((i1 : Int)).toNat en0).t)) aJ rfl) <| dr 6 rfl (fun _ h => (Kb.tail (l := [(g3, Ce 141 (#[I ((T.th.batch.getD ((i1 : Int)).toNat en0).t), I ((T.th.batch.getD ((i1 : Int)).toNat en0).tag), I ((T.th.batch.getD ((i1 : Int)).toNat en0).v)])), (g2, Ce 124 (tc tn0 sl0)), (g1, Ce 124 (tc T s))]) (e := 70) (R := R2) h)) (rce 2 (I T.th.item) aJ rfl) <| dr 8 rfl (fun _ h => (Kb.tail (l := [(g3, Ce 141 (#[I ((T.th.batch.getD ((i1 : Int)).toNat en0).t), I ((T.th.batch.getD ((i1 : Int)).toNat en0).tag), I ((T.th.batch.getD ((i1 : Int)).toNat en0).v)])), (g2, Ce 124 (tc tn0 sl0)), (g1, Ce 124 (tc T s))]) (e := 70) (R := R2) h)) (rro 0 (#[I ((T.th.batch.getD ((i1 : Int)).toNat en0).tag), I ((T.th.batch.getD ((i1 : Int)).toNat en0).v)]) dP rfl) <| dp 10 rfl (bB (#[I ((T.th.batch.getD ((i1 : Int)).toNat en0).t), I T.th.item, I ((T.th.batch.getD ((i1 : Int)).toNat en0).tag), I ((T.th.batch.getD ((i1 : Int)).toNat en0).v), I ((priorsS T.th.batch x T.c.lo T.c.hi).getD ((i1 : Int)).toNat 0), I 0]) rfl rfl (by kernel_rfl)) <| dx 11 rfl <| bO (t := 36) (e := 70) (sz := 6) 1 (#[I ((T.th.batch.getD ((i1 : Int)).toNat en0).t), I T.th.item, I ((T.th.batch.getD ((i1 : Int)).toNat en0).tag), I ((T.th.batch.getD ((i1 : Int)).toNat en0).v), I ((priorsS T.th.batch x T.c.lo T.c.hi).getD ((i1 : Int)).toNat 0), I 0]) ⟨by kernel_rfl, by kernel_rfl⟩ rfl rfl rfl rfl fun g4 => ?_
  refine aH (fun _ h => (Kb.tail (l := [(g3, Ce 141 (#[I ((T.th.batch.getD ((i1 : Int)).toNat en0).t), I ((T.th.batch.getD ((i1 : Int)).toNat en0).tag), I ((T.th.batch.getD ((i1 : Int)).toNat en0).v)])), (g2, Ce 124 (tc tn0 sl0)), (g1, Ce 124 (tc T s))]) (e := 70) (R := R2) (h.leave 0))) <| dx 12 rfl <| cC (R := R2) (nn := T.log.length + i1) (cs := mcs (T.log ++ (marksS T.th.item T.th.batch (priorsS T.th.batch x T.c.lo T.c.hi)).take (i1))) ([(g4, Ce 70 (#[I ((T.th.batch.getD ((i1 : Int)).toNat en0).t), I T.th.item, I ((T.th.batch.getD ((i1 : Int)).toNat en0).tag), I ((T.th.batch.getD ((i1 : Int)).toNat en0).v), I ((priorsS T.th.batch x T.c.lo T.c.hi).getD ((i1 : Int)).toNat 0), I 0])), (g3, Ce 141 (#[I ((T.th.batch.getD ((i1 : Int)).toNat en0).t), I ((T.th.batch.getD ((i1 : Int)).toNat en0).tag), I ((T.th.batch.getD ((i1 : Int)).toNat en0).v)])), (g2, Ce 124 (tc tn0 sl0)), (g1, Ce 124 (tc T s))]) 1 (#[I ((T.th.batch.getD ((i1 : Int)).toNat en0).t), I T.th.item, I ((T.th.batch.getD ((i1 : Int)).toNat en0).tag), I ((T.th.batch.getD ((i1 : Int)).toNat en0).v), I ((priorsS T.th.batch x T.c.lo T.c.hi).getD ((i1 : Int)).toNat 0), I 0]).toList ap36 rfl ok2 rfl rfl rfl rfl rfl rfl (fun W k => k.news 0 rfl) (all_one rfl) (by decide) (by omega) fun R3 ok3 => ?_
  refine aH (fun _ h => (Kb.tail (l := [(g3, Ce 141 (#[I ((T.th.batch.getD ((i1 : Int)).toNat en0).t), I ((T.th.batch.getD ((i1 : Int)).toNat en0).tag), I ((T.th.batch.getD ((i1 : Int)).toNat en0).v)])), (g2, Ce 124 (tc tn0 sl0)), (g1, Ce 124 (tc T s))]) (e := 70) (R := R3) (h.leave 0))) <| dp 13 rfl (pas rfl) <| dd <| aW <| aC <| aU <| lp (pad ((i1 + 1 : Nat) : Int) (by unfold wrap64; omega) rfl) rfl <| lp (pmv rfl) rfl <| nt <| bR (fun _ h => h.leave 0) <| bR (fun _ h => h.leave 0) ?_
  exact cI R3 (mk_step hpl (by omega) ok3) ⟨rfl, rfl, rfl, rfl, rfl, rfl, rfl, rfl, trivial⟩ rfl (by omega)
  refine aM rfl (aB c1) <| aX <| aK <| aK <| aY <| aC <| aE ?_
  have hK : i1 = (priorsS T.th.batch x T.c.lo T.c.hi).length := by omega
  have hm1 : T.log.length + i1 = (T.log ++ marksS T.th.item T.th.batch (priorsS T.th.batch x T.c.lo T.c.hi)).length := (by rw [List.length_append, marks_len _ _ _ hpl, hK])
  refine dV [(g2, Ce 124 (tc tn0 sl0)), (g1, Ce 124 (tc T s))] ((T.log ++ marksS T.th.item T.th.batch (priorsS T.th.batch x T.c.lo T.c.hi)).length) (mcs (T.log ++ marksS T.th.item T.th.batch (priorsS T.th.batch x T.c.lo T.c.hi))) ok2 hm1 (by rw [hK, List.take_of_length_le (by rw [marks_len _ _ _ hpl]; exact Nat.le_refl _)]) rfl <| eU (i := 6) (.slice (Gr.hd R2).A ((T.log ++ marksS T.th.item T.th.batch (priorsS T.th.batch x T.c.lo T.c.hi)).length) (Gr.hd R2).c) rfl (congrArg (fun n => Value.slice (Gr.hd R2).A n (Gr.hd R2).c) hm1) <| aU <| lp (pmv rfl) rfl <| lp (pmv rfl) rfl <| lp (pmv rfl) rfl <| lp (pmv rfl) rfl <| lp (pfa gM 35 rfl) rfl <| lx rfl <| fst 1 [_, (g1, Ce 124 (tc { T with log := T.log ++ marksS T.th.item T.th.batch (priorsS T.th.batch x T.c.lo T.c.hi) } { s with log := (Gr.hd R2) }))] lC rfl rfl <| lp (aR rfl rfl) rfl <| lp (pfa dH 30 rfl) rfl <| lx rfl <| fst 1 [_, (g1, Ce 124 (tc { T with log := T.log ++ marksS T.th.item T.th.batch (priorsS T.th.batch x T.c.lo T.c.hi), th := { T.th with x := x } } { s with log := (Gr.hd R2) }))] cG rfl rfl <| lp (aR rfl rfl) rfl <| lp (pfa cK 25 rfl) rfl <| lx rfl <| fst 1 [_, (g1, Ce 124 (tc { T with log := T.log ++ marksS T.th.item T.th.batch (priorsS T.th.batch x T.c.lo T.c.hi), th := { T.th with x := x, at_ := 0 } } { s with log := (Gr.hd R2) }))] cG rfl rfl <| nt <| sr <| lr (ral 1 aL rfl) rfl <| lx rfl <| fca lW rfl (fun W k => settle_is _ { s with log := (Gr.hd R2) } { T with log := T.log ++ marksS T.th.item T.th.batch (priorsS T.th.batch x T.c.lo T.c.hi), th := { T.th with x := x, at_ := 0 } } W k.cx ⟨k.kn.here.2.2.words, k.kn.here.2.2.boxes, k.kn.here.2.2.batch, k.kn.here.2.2.kids, k.kn.here.2.2.held, k.kn.here.2.2.tl, k.kn.here.1⟩) ?_
  rintro _ _ W2 k ⟨s1, T1, hT1, rfl, hR1, hb2⟩
  refine nx ((k.call hb2).and hR1.kn) <| lx rfl <| ffl 0 [(g2, Ce 124 (tc T1 s1)), _] aZ rfl rfl <| nt <| aF <| aG _ (res1 rfl (aO 0 37 aL rfl rfl rfl)) (fun W k => ?_)
  exact RetT.of hT1 k.kn.here.1.weak k.below
theorem look_is (L : Nat → Prop) (s : Sl) (T : Tn) (hw : TnOk T) (w : World) (cx : Cx L w) (hr : RT L s T w) : Calls Tryz.prog 87 [.agg (tc T s)].toArray w (fun e w' => e = .returned (.tuple [.agg #[I (T.m.get (cellS T.c T.th.item)), I (allS T.th.batch (T.m.get (cellS T.c T.th.item)) T.c.lo T.c.hi)], I 0].toArray) ∧ Below w.heap.size w w') := by
  have hc := hw.c
  refine ent 32 Tryz.func87 rfl (Kb.start cx (RTL.kn0 hr)) <| sr <| lx rfl <| fba rfl fun g1 => ?_
  refine lx rfl <| fal kL rfl fun g2 => ?_
  refine lp (pas rfl) rfl <| nt <| aE <| dst [13] <| dp 0 rfl (pfa bJ 14 rfl) <| dp 2 rfl (pfa bK 0 rfl) <| dp 4 rfl (pfa aN 16 rfl) <| dp 5 rfl (pfa eI 17 rfl) <| dr 1 rfl (fun _ h => h) (rro 1 (mc T.m s.words s.boxes) bI rfl) <| dr 3 rfl (fun _ h => h) (rro 1 T.c.cells bM rfl) <| dr 6 rfl (fun _ h => h) (rce 1 (I T.th.item) aJ rfl) <| dx 7 rfl <| fcv lZ rfl (fun W k => cell_is _ T.c hc T.th.item W k.cx) (aH (fun _ h => h) ?_)
  refine dx 8 rfl <| fcv jR rfl (fun W k => mload_is _ T.m s.words s.boxes (cellS T.c T.th.item) W k.cx k.kn.here.words k.kn.here.boxes hw.cell.1 hw.cell.2 hw.hm) (aH (fun _ h => h) ?_)
  refine dp 9 rfl (pmv rfl) <| dp 10 rfl (pex rfl) <| dp 11 rfl (pex rfl) <| dp 12 rfl (pfa dL 0 rfl) <| dl 13 rfl <| fst 0 [(g2, Ce 156 (#[I (T.m.get (cellS T.c T.th.item)), I 0])), _] cG rfl rfl <| dp 14 rfl (pas rfl) <| dd <| aC <| sr <| lp (pfa aN 16 rfl) rfl <| lp (pfa dS 20 rfl) rfl <| lr (rce 1 (.slice s.batch.A T.th.batch.length s.batch.c) cW rfl) rfl <| lp (pfa dL 0 rfl) rfl <| lr (rce 0 (I (T.m.get (cellS T.c T.th.item))) aJ rfl) rfl <| lp (pfa bK 0 rfl) rfl <| lp (pfa eV 9 rfl) rfl <| lr (rce 1 (I T.c.lo) aJ rfl) rfl <| lp (pfa bK 0 rfl) rfl <| lp (pfa dW 10 rfl) rfl <| lr (rce 1 (I T.c.hi) aJ rfl) rfl <| lx rfl <| fcv oO rfl (fun W k => all_is _ s.batch T.th.batch (T.m.get (cellS T.c T.th.item)) T.c.lo T.c.hi W k.cx k.kn.here.batch (by have := hw.ba; omega)) <| lp (pfa kM 1 rfl) rfl <| lx rfl <| fst 0 [(g2, Ce 156 (#[I (T.m.get (cellS T.c T.th.item)), I (allS T.th.batch (T.m.get (cellS T.c T.th.item)) T.c.lo T.c.hi)])), _] cG rfl rfl <| nt <| sr <| lr (ral 0 iN rfl) rfl <| lp (pmv rfl) rfl <| lx rfl <| ffl 0 [(g2, Ce 156 (#[I (T.m.get (cellS T.c T.th.item)), I (allS T.th.batch (T.m.get (cellS T.c T.th.item)) T.c.lo T.c.hi)])), _] mA rfl rfl <| lp (pas rfl) rfl <| nt <| aF <| aG _ (res2 rfl (aO 0 2 iN rfl rfl rfl) (aD rfl)) (fun W k => ?_)
  exact ⟨rfl, k.below⟩
theorem compared_is (L : Nat → Prop) (s : Sl) (T : Tn) (hw : TnOk T) (w : World) (cx : Cx L w) (hr : RT L s T w) (hlg : T.log.length ≤ 10000) (hwd : 0 ≤ T.th.width ∧ T.th.width ≤ 1000) : Calls Tryz.prog 90 [.agg (tc T s)].toArray w (RetT L w (casS T)) := by
  have hc := hw.c
  refine ent 63 Tryz.func90 rfl (Kb.start cx (RTL.kn0 hr)) <| sr <| lx rfl <| fba rfl fun g1 => ?_
  refine lx rfl <| fal bH rfl fun g2 => ?_
  refine nt <| aE <| cJ (σ := Hd × Nat) (fun x1 => [(1, .pointer (some ⟨g1, 0, none⟩)), (2, .pointer (some ⟨g2, 0, none⟩)), (3, .pointer (some ⟨x1.2, 0, none⟩)), (4, .bool (decide (T.m.get (cellS T.c T.th.item) = T.th.x))), (5, I 0)]) (fun x1 => [(x1.2, Ce 32 (mc { T.m with words := (casM T.m (cellS T.c T.th.item) T.th.x T.th.y).words } x1.1 s.boxes)), (g2, Ce 124 (tc tn0 sl0)), (g1, Ce 124 (tc T s))]) (fun x1 F O W => RS (Av L O) x1.1 ({ T.m with words := (casM T.m (cellS T.c T.th.item) T.th.x T.th.y).words }).words.length (({ T.m with words := (casM T.m (cellS T.c T.th.item) T.th.x T.th.y).words }).words.map I) W ∧ F O W) ?_ ?_
  refine dst [20] <| dp 0 rfl (pfa bJ 14 rfl) <| dp 2 rfl (pfa bK 0 rfl) <| dp 4 rfl (pfa aN 16 rfl) <| dp 5 rfl (pfa eI 17 rfl) <| dp 8 rfl (pfa aN 16 rfl) <| dp 9 rfl (pfa dH 30 rfl) <| dp 11 rfl (pfa aN 16 rfl) <| dp 12 rfl (pfa kN 31 rfl) <| dr 1 rfl (fun _ h => h) (rro 1 (mc T.m s.words s.boxes) bI rfl) <| dr 3 rfl (fun _ h => h) (rro 1 T.c.cells bM rfl) <| dr 6 rfl (fun _ h => h) (rce 1 (I T.th.item) aJ rfl) <| dr 10 rfl (fun _ h => h) (rce 1 (I T.th.x) aJ rfl) <| dr 13 rfl (fun _ h => h) (rce 1 (I T.th.y) aJ rfl) <| d2 7 19 rfl ?_ ?_
  refine fcv lZ rfl (fun W k => cell_is _ T.c hc T.th.item W k.cx) (aH (fun _ h => h) ?_)
  refine d2 14 19 rfl ?_ ?_
  refine fca eQ rfl (fun W k => mcas_is' _ T.m s.words s.boxes (cellS T.c T.th.item) T.th.x T.th.y W k.cx k.kn.here.words k.kn.here.boxes hw.cell.1 hw.cell.2 hw.hm) ?_
  rintro _ _ W1_14a k ⟨ma1_14a, rfl, hr1_14a, hb1_14a⟩
  refine nx ((k.call hb1_14a).and hr1_14a.kn) (aH (fun _ h => h.drop) ?_)
  refine dp 15 rfl (pmv rfl) <| dp 16 rfl (pex rfl) <| dp 17 rfl (pex rfl) <| dp 18 rfl (pex rfl) <| dx 19 rfl <| fal bF rfl fun g1_19a => ?_
  refine aH (fun _ h => (h.leave 0).drop) <| dl 20 rfl <| ffl 0 [(g1_19a, Ce 32 (mc { T.m with words := (casM T.m (cellS T.c T.th.item) T.th.x T.th.y).words } ma1_14a s.boxes)), _, _] bN rfl rfl <| dp 21 rfl (pas rfl) <| dp 22 rfl (pas rfl) <| dd ?_
  exact bE (σ := Hd × Nat) (ma1_14a, g1_19a) ⟨rfl, rfl, rfl, rfl, rfl, trivial⟩ (fun W k => (k.re fun O W h => ⟨h.1, h.2⟩))
  refine fal bF rfl fun g1_19a => ?_
  refine aH (fun _ h => (h.leave 0)) <| dx 14 rfl <| fca eQ rfl (fun W k => mcas_is' _ T.m s.words s.boxes (cellS T.c T.th.item) T.th.x T.th.y W k.cx k.kn.here.words k.kn.here.boxes hw.cell.1 hw.cell.2 hw.hm) ?_
  rintro _ _ W1_14a k ⟨ma1_14a, rfl, hr1_14a, hb1_14a⟩
  refine nx ((k.call hb1_14a).and hr1_14a.kn) (aH (fun _ h => (h.leave 0).drop) ?_)
  refine dp 15 rfl (pmv rfl) <| dp 16 rfl (pex rfl) <| dp 17 rfl (pex rfl) <| dp 18 rfl (pex rfl) <| dl 20 rfl <| ffl 0 [(g1_19a, Ce 32 (mc { T.m with words := (casM T.m (cellS T.c T.th.item) T.th.x T.th.y).words } ma1_14a s.boxes)), _, _] bN rfl rfl <| dp 21 rfl (pas rfl) <| dp 22 rfl (pas rfl) <| dd ?_
  exact bE (σ := Hd × Nat) (ma1_14a, g1_19a) ⟨rfl, rfl, rfl, rfl, rfl, trivial⟩ (fun W k => (k.re fun O W h => ⟨h.1, h.2⟩))
  refine fal bF rfl fun g1_19a => ?_
  refine aH (fun _ h => (h.leave 0)) <| dx 7 rfl <| fcv lZ rfl (fun W k => cell_is _ T.c hc T.th.item W k.cx) (aH (fun _ h => (h.leave 0)) ?_)
  refine dx 14 rfl <| fca eQ rfl (fun W k => mcas_is' _ T.m s.words s.boxes (cellS T.c T.th.item) T.th.x T.th.y W k.cx k.kn.here.words k.kn.here.boxes hw.cell.1 hw.cell.2 hw.hm) ?_
  rintro _ _ W1_14a k ⟨ma1_14a, rfl, hr1_14a, hb1_14a⟩
  refine nx ((k.call hb1_14a).and hr1_14a.kn) (aH (fun _ h => (h.leave 0).drop) ?_)
  refine dp 15 rfl (pmv rfl) <| dp 16 rfl (pex rfl) <| dp 17 rfl (pex rfl) <| dp 18 rfl (pex rfl) <| dl 20 rfl <| ffl 0 [(g1_19a, Ce 32 (mc { T.m with words := (casM T.m (cellS T.c T.th.item) T.th.x T.th.y).words } ma1_14a s.boxes)), _, _] bN rfl rfl <| dp 21 rfl (pas rfl) <| dp 22 rfl (pas rfl) <| dd ?_
  exact bE (σ := Hd × Nat) (ma1_14a, g1_19a) ⟨rfl, rfl, rfl, rfl, rfl, trivial⟩ (fun W k => (k.re fun O W h => ⟨h.1, h.2⟩))
  intro x1
  refine aC <| aE <| aP <| sr <| lp (pmv rfl) rfl <| lp (pne rfl) rfl <| lp (pas rfl) rfl <| nt <| aM rfl (congrArg not rfl) <| sr <| lp (pmv rfl) rfl <| lp (pas rfl) rfl <| nt ?_
  by_cases c1 : T.m.get (cellS T.c T.th.item) = T.th.x
  refine aQ rfl (aA c1) <| sr <| lr (ral 0 bI rfl) rfl <| lp (pfa bJ 14 rfl) rfl <| lx rfl <| fst 2 [_, _, (g1, Ce 124 (tc { T with m := { T.m with words := (casM T.m (cellS T.c T.th.item) T.th.x T.th.y).words } } { s with words := x1.1, boxes := s.boxes }))] bN rfl rfl <| nt <| sr <| lr (ral 2 aL rfl) rfl <| lp (pfa aN 16 rfl) rfl <| lp (pfa dH 30 rfl) rfl <| lr (rce 2 (I T.th.x) aJ rfl) rfl <| lx rfl <| fca pH rfl (fun W k => commit_is _ { s with words := x1.1, boxes := s.boxes } { T with m := { T.m with words := (casM T.m (cellS T.c T.th.item) T.th.x T.th.y).words } } T.th.x W k.cx ⟨k.kn.here.1, k.kn.here.2.boxes, k.kn.here.2.batch, k.kn.here.2.kids, k.kn.here.2.held, k.kn.here.2.tl, k.kn.here.2.log⟩ (Nat.le_trans hw.ba (by omega)) hlg) ?_
  rintro _ _ W1 k ⟨s1, T1, hT1, rfl, hR1, hb1⟩
  refine nx ((k.call hb1).and hR1.kn) <| lx rfl <| ffl 1 [_, (g2, Ce 124 (tc T1 s1)), _] aZ rfl rfl <| nt <| aF (bD (aS ?_))
  refine aG _ (res1 rfl (aO 1 37 aL rfl rfl rfl)) (fun W k => ?_)
  exact RetT.of (by rw [hT1]; unfold casS casM; rw [if_pos c1, if_pos c1]; rfl) k.kn.here.1.weak k.below
  refine aM rfl (aB c1) <| aI <| aW <| aC <| aE <| sr <| lp (pfa aN 16 rfl) rfl <| lp (pfa dD 28 rfl) rfl <| lr (rce 2 (I T.th.width) aJ rfl) rfl <| lp (pfa bK 0 rfl) rfl <| lp (pfa fV 5 rfl) rfl <| lr (rce 2 (I T.c.wi) aJ rfl) rfl <| lp (pls rfl) rfl <| nt ?_
  by_cases c2 : T.th.width < T.c.wi
  refine aQ rfl (aA c2) <| aU <| lp (pfa aN 16 rfl) rfl <| lp (pfa dD 28 rfl) rfl <| lr (rce 2 (I T.th.width) aJ rfl) rfl <| lp (pml (T.th.width * 2) (by unfold wrap64; omega) rfl) rfl <| lp (pfa aN 16 rfl) rfl <| lp (pfa dD 28 rfl) rfl <| lx rfl <| fst 2 [_, _, (g1, Ce 124 (tc { T with th := { T.th with width := T.th.width * 2 } } s))] cG rfl rfl <| nt <| sr <| lp (pfa aN 16 rfl) rfl <| lp (pfa dD 28 rfl) rfl <| lr (rce 2 (I (T.th.width * 2)) aJ rfl) rfl <| lp (pfa bK 0 rfl) rfl <| lp (pfa fV 5 rfl) rfl <| lr (rce 2 (I T.c.wi) aJ rfl) rfl <| lp (fM rfl rfl rfl) rfl <| lp (pfa aN 16 rfl) rfl <| lp (pfa dD 28 rfl) rfl <| lx rfl <| fst 2 [_, _, (g1, Ce 124 (tc { T with th := { T.th with width := mnS (T.th.width * 2) T.c.wi } } s))] cG rfl rfl <| lp (pfa aN 16 rfl) rfl <| lp (pfa bG 16 rfl) rfl <| lx rfl <| fst 2 [_, _, (g1, Ce 124 (tc { T with th := { T.th with width := mnS (T.th.width * 2) T.c.wi, ph := 2 } } s))] cG rfl rfl <| nt <| sr <| lr (ral 2 aL rfl) rfl <| lx rfl <| ffl 1 [_, (g2, Ce 124 (tc { T with th := { T.th with width := mnS (T.th.width * 2) T.c.wi, ph := 2 } } s)), _] aZ rfl rfl <| nt <| aF <| aG _ (res1 rfl (aO 1 37 aL rfl rfl rfl)) (fun W k => ?_)
  exact RetT.of (by unfold casS; rw [if_neg c1]; simp [c2]) k.kn.here.2.weak k.below
  refine aM rfl (aB c2) <| aI <| aC <| sr <| lp (pfa aN 16 rfl) rfl <| lp (pfa dD 28 rfl) rfl <| lr (rce 2 (I T.th.width) aJ rfl) rfl <| lp (pfa bK 0 rfl) rfl <| lp (pfa fV 5 rfl) rfl <| lr (rce 2 (I T.c.wi) aJ rfl) rfl <| lp (fM rfl rfl rfl) rfl <| lp (pfa aN 16 rfl) rfl <| lp (pfa dD 28 rfl) rfl <| lx rfl <| fst 2 [_, _, (g1, Ce 124 (tc { T with th := { T.th with width := mnS T.th.width T.c.wi } } s))] cG rfl rfl <| lp (pfa aN 16 rfl) rfl <| lp (pfa bG 16 rfl) rfl <| lx rfl <| fst 2 [_, _, (g1, Ce 124 (tc { T with th := { T.th with width := mnS T.th.width T.c.wi, ph := 2 } } s))] cG rfl rfl <| nt <| sr <| lr (ral 2 aL rfl) rfl <| lx rfl <| ffl 1 [_, (g2, Ce 124 (tc { T with th := { T.th with width := mnS T.th.width T.c.wi, ph := 2 } } s)), _] aZ rfl rfl <| nt <| aF <| aG _ (res1 rfl (aO 1 37 aL rfl rfl rfl)) (fun W k => ?_)
  exact RetT.of (by unfold casS; rw [if_neg c1]; simp [c2]) k.kn.here.2.weak k.below
def commitP (T : Tn) : Tn := if T.th.ph = 3 then casS T else if T.th.ph = 2 ∨ T.th.ph = 25 then lookS T else T
theorem cstep_is (L : Nat → Prop) (s : Sl) (T : Tn) (hw : TnOk T) (w : World) (cx : Cx L w) (hr : RT L s T w) (hlg : T.log.length ≤ 10000) (hwd : 0 ≤ T.th.width ∧ T.th.width ≤ 1000) (hla : 0 ≤ T.th.layer ∧ T.th.layer ≤ 100) : Calls Tryz.prog 76 [.agg (tc T s)].toArray w (RetB L w (commitP T) (decide (T.th.ph = 3 ∨ T.th.ph = 2 ∨ T.th.ph = 25))) := by
  have hc := hw.c
  refine ent 59 Tryz.func76 rfl (Kb.start cx (RTL.kn0 hr)) <| sr <| lx rfl <| fba rfl fun g1 => ?_
  refine lx rfl <| fal bH rfl fun g2 => ?_
  refine lp (pas rfl) rfl <| nt <| fR 0 rfl <| sr <| lx rfl <| fal kL rfl fun g3 => ?_
  refine nt <| sr <| lp (pas rfl) rfl <| nt <| aE <| sr <| lp (pfa aN 16 rfl) rfl <| lp (pfa bG 16 rfl) rfl <| lr (rce 2 (I T.th.ph) aJ rfl) rfl <| lp (peq rfl) rfl <| nt ?_
  by_cases c1 : T.th.ph = 3
  refine aQ rfl (aA c1) <| nP (rC ?_)
  refine rD <| aE <| aI <| aC <| sr <| lr (ral 2 aL rfl) rfl <| lx rfl <| fca fn90 rfl (fun W k => compared_is _ s T hw W k.cx ⟨k.kn.here.words, k.kn.here.boxes, k.kn.here.batch, k.kn.here.kids, k.kn.here.held, k.kn.here.tl, k.kn.here.log⟩ hlg hwd) ?_
  rintro _ _ W1 k ⟨s1, T1, hT1, rfl, hR1, hb1⟩
  refine nx ((k.call hb1).and hR1.kn) <| lx rfl <| ffl 1 [_, (g2, Ce 124 (tc T1 s1)), _] aZ rfl rfl <| lp (pas rfl) rfl <| nt <| aF (cD ?_)
  refine aG _ (res2 rfl (aO 1 37 aL rfl rfl rfl) (aD rfl)) (fun W k => ?_)
  rw [show ((decide (T.th.ph = 3 ∨ T.th.ph = 2 ∨ T.th.ph = 25))) = true by simp [c1]]
  exact RetB.of (by simp [commitP, lookS, c1, hT1]) k.kn.here.1.weak k.below
  refine aM rfl (aB c1) <| aI <| aC <| aE <| sr <| lp (pfa aN 16 rfl) rfl <| lp (pfa bG 16 rfl) rfl <| lr (rce 2 (I T.th.ph) aJ rfl) rfl <| lp (pne rfl) rfl <| lp (pmv rfl) rfl ?_
  by_cases c2 : T.th.ph = 2
  refine gof (wi rfl (congrArg not (aA c2)) rfl) rfl <| gof (wi rfl (congrArg not (aA c2)) rfl) rfl <| gof (wi rfl (congrArg not (aA c2)) rfl) rfl <| gof (wi rfl (congrArg not (aA c2)) rfl) rfl <| lp (ppf (congrArg not (aA c2)) rfl) rfl <| nt <| aM rfl rfl <| aI <| aC <| aE <| sr <| lr (ral 2 aL rfl) rfl <| lx rfl <| fcv rL rfl (fun W k => look_is _ s T hw W k.cx ⟨k.kn.here.words, k.kn.here.boxes, k.kn.here.batch, k.kn.here.kids, k.kn.here.held, k.kn.here.tl, k.kn.here.log⟩) <| lp (pmv rfl) rfl <| lp (pex rfl) rfl <| lp (pex rfl) rfl <| lx rfl <| ffl 0 [(g3, Ce 156 (#[I (T.m.get (cellS T.c T.th.item)), I (allS T.th.batch (T.m.get (cellS T.c T.th.item)) T.c.lo T.c.hi)])), _, _] mA rfl rfl <| lp (pas rfl) rfl <| nt <| sr <| lp (pmv rfl) rfl <| lp (pne rfl) rfl <| nt <| aM rfl (congrArg not rfl) <| aI <| aC <| aE <| sr <| lr (ral 0 iN rfl) rfl <| lp (pfa dL 0 rfl) rfl <| lr (rce 0 (I (T.m.get (cellS T.c T.th.item))) aJ rfl) rfl <| lp (pfa dL 0 rfl) rfl <| lr (rce 0 (I (T.m.get (cellS T.c T.th.item))) aJ rfl) rfl <| lp (bB (#[I (T.m.get (cellS T.c T.th.item)), I (T.m.get (cellS T.c T.th.item))]) rfl rfl (by kernel_rfl)) rfl <| lp (kI rfl rfl rfl) rfl <| nt ?_
  by_cases c3 : T.m.get (cellS T.c T.th.item) = T.m.get (cellS T.c T.th.item) ∧ allS T.th.batch (T.m.get (cellS T.c T.th.item)) T.c.lo T.c.hi = T.m.get (cellS T.c T.th.item)
  refine aQ rfl (aA c3) <| sr <| lr (ral 2 aL rfl) rfl <| lp (pfa dL 0 rfl) rfl <| lr (rce 0 (I (T.m.get (cellS T.c T.th.item))) aJ rfl) rfl <| lx rfl <| fca pH rfl (fun W k => commit_is _ s T (T.m.get (cellS T.c T.th.item)) W k.cx ⟨k.kn.here.words, k.kn.here.boxes, k.kn.here.batch, k.kn.here.kids, k.kn.here.held, k.kn.here.tl, k.kn.here.log⟩ (Nat.le_trans hw.ba (by omega)) hlg) ?_
  rintro _ _ W3 k ⟨s2, T2, hT2, rfl, hR2, hb2⟩
  refine nx ((k.call hb2).and hR2.kn) <| lx rfl <| ffl 1 [_, (g2, Ce 124 (tc T2 s2)), _] aZ rfl rfl <| lp (pas rfl) rfl <| nt <| aF (aS (cD ?_))
  refine aG _ (res2 rfl (aO 1 37 aL rfl rfl rfl) (aD rfl)) (fun W k => ?_)
  rw [show ((decide (T.th.ph = 3 ∨ T.th.ph = 2 ∨ T.th.ph = 25))) = true by simp [c1, c2, c3]]
  exact RetB.of (by simp [commitP, lookS, c1, c2, c3.2, hT2]) k.kn.here.1.weak k.below
  refine aM rfl (aB c3) <| aI <| aC <| aE <| sr <| lp (pfa aN 16 rfl) rfl <| lp (pfa bG 16 rfl) rfl <| lr (rce 2 (I T.th.ph) aJ rfl) rfl <| lp (peq rfl) rfl <| nt <| aM rfl (aB (by omega)) <| aI <| aC <| aE <| bU ([(g3, Ce 156 (#[I (T.m.get (cellS T.c T.th.item)), I (allS T.th.batch (T.m.get (cellS T.c T.th.item)) T.c.lo T.c.hi)])), (g2, Ce 124 (tc tn0 sl0))]) 13 [9, 12] (bA 13 0) (fun _ h => (h.leave 2)) rfl (by kernel_rfl) <| dp 0 rfl (pfa dL 0 rfl) <| dp 2 rfl (pfa kM 1 rfl) <| dr 1 rfl (fun _ h => (h.leave 2)) (rce 0 (I (T.m.get (cellS T.c T.th.item))) aJ rfl) <| dp 4 rfl (pfa aN 16 rfl) <| dp 5 rfl (pfa dH 30 rfl) <| dr 3 rfl (fun _ h => (h.leave 2)) (rce 0 (I (allS T.th.batch (T.m.get (cellS T.c T.th.item)) T.c.lo T.c.hi)) aJ rfl) <| dx 6 rfl <| fst 2 [_, _, (g1, Ce 124 (tc { T with th := { T.th with x := T.m.get (cellS T.c T.th.item) } } s))] cG rfl rfl <| aH (fun _ h => (h.leave 2)) <| dp 7 rfl (pfa aN 16 rfl) <| dp 8 rfl (pfa kN 31 rfl) <| dl 9 rfl <| fst 2 [_, _, (g1, Ce 124 (tc { T with th := { T.th with x := T.m.get (cellS T.c T.th.item), y := allS T.th.batch (T.m.get (cellS T.c T.th.item)) T.c.lo T.c.hi } } s))] cG rfl rfl <| dp 10 rfl (pfa aN 16 rfl) <| dp 11 rfl (pfa bG 16 rfl) <| dl 12 rfl <| fst 2 [_, _, (g1, Ce 124 (tc { T with th := { T.th with x := T.m.get (cellS T.c T.th.item), y := allS T.th.batch (T.m.get (cellS T.c T.th.item)) T.c.lo T.c.hi, ph := 3 } } s))] cG rfl rfl <| dd <| aC <| aE <| sr <| lr (ral 2 aL rfl) rfl <| lx rfl <| ffl 1 [_, (g2, Ce 124 (tc { T with th := { T.th with x := T.m.get (cellS T.c T.th.item), y := allS T.th.batch (T.m.get (cellS T.c T.th.item)) T.c.lo T.c.hi, ph := 3 } } s)), _] aZ rfl rfl <| lp (pas rfl) rfl <| nt <| aF (aS (cD ?_))
  refine aG _ (res2 rfl (aO 1 37 aL rfl rfl rfl) (aD rfl)) (fun W k => ?_)
  rw [show ((decide (T.th.ph = 3 ∨ T.th.ph = 2 ∨ T.th.ph = 25))) = true by simp [c1, c2, c3]]
  exact RetB.of (by simp [commitP, lookS, c1, c2, (show ¬ (allS T.th.batch (T.m.get (cellS T.c T.th.item)) T.c.lo T.c.hi = T.m.get (cellS T.c T.th.item)) from fun h => c3 ⟨rfl, h⟩)]) k.kn.here.weak k.below
  refine gp (wi rfl (congrArg not (aB c2)) rfl) (pfa aN 16 rfl) rfl <| gp (wi rfl (congrArg not (aB c2)) rfl) (pfa bG 16 rfl) rfl <| gr (wi rfl (congrArg not (aB c2)) rfl) (rce 2 (I T.th.ph) aJ rfl) rfl <| gp (wi rfl (congrArg not (aB c2)) rfl) (pne rfl) rfl <| lp (ppt (congrArg not (aB c2)) rfl) rfl <| nt ?_
  by_cases c4 : T.th.ph = 25
  refine aM rfl (congrArg not (aA c4)) <| aI <| aC <| aE <| sr <| lr (ral 2 aL rfl) rfl <| lx rfl <| fcv rL rfl (fun W k => look_is _ s T hw W k.cx ⟨k.kn.here.words, k.kn.here.boxes, k.kn.here.batch, k.kn.here.kids, k.kn.here.held, k.kn.here.tl, k.kn.here.log⟩) <| lp (pmv rfl) rfl <| lp (pex rfl) rfl <| lp (pex rfl) rfl <| lx rfl <| ffl 0 [(g3, Ce 156 (#[I (T.m.get (cellS T.c T.th.item)), I (allS T.th.batch (T.m.get (cellS T.c T.th.item)) T.c.lo T.c.hi)])), _, _] mA rfl rfl <| lp (pas rfl) rfl <| nt <| sr <| lp (pmv rfl) rfl <| lp (pne rfl) rfl <| nt <| aM rfl (congrArg not rfl) <| aI <| aC <| aE <| sr <| lr (ral 0 iN rfl) rfl <| lp (pfa dL 0 rfl) rfl <| lr (rce 0 (I (T.m.get (cellS T.c T.th.item))) aJ rfl) rfl <| lp (pfa dL 0 rfl) rfl <| lr (rce 0 (I (T.m.get (cellS T.c T.th.item))) aJ rfl) rfl <| lp (bB (#[I (T.m.get (cellS T.c T.th.item)), I (T.m.get (cellS T.c T.th.item))]) rfl rfl (by kernel_rfl)) rfl <| lp (kI rfl rfl rfl) rfl <| nt ?_
  by_cases c5 : T.m.get (cellS T.c T.th.item) = T.m.get (cellS T.c T.th.item) ∧ allS T.th.batch (T.m.get (cellS T.c T.th.item)) T.c.lo T.c.hi = T.m.get (cellS T.c T.th.item)
  refine aQ rfl (aA c5) <| sr <| lr (ral 2 aL rfl) rfl <| lp (pfa dL 0 rfl) rfl <| lr (rce 0 (I (T.m.get (cellS T.c T.th.item))) aJ rfl) rfl <| lx rfl <| fca pH rfl (fun W k => commit_is _ s T (T.m.get (cellS T.c T.th.item)) W k.cx ⟨k.kn.here.words, k.kn.here.boxes, k.kn.here.batch, k.kn.here.kids, k.kn.here.held, k.kn.here.tl, k.kn.here.log⟩ (Nat.le_trans hw.ba (by omega)) hlg) ?_
  rintro _ _ W5 k ⟨s3, T3, hT3, rfl, hR3, hb3⟩
  refine nx ((k.call hb3).and hR3.kn) <| lx rfl <| ffl 1 [_, (g2, Ce 124 (tc T3 s3)), _] aZ rfl rfl <| lp (pas rfl) rfl <| nt <| aF (aS (cD ?_))
  refine aG _ (res2 rfl (aO 1 37 aL rfl rfl rfl) (aD rfl)) (fun W k => ?_)
  rw [show ((decide (T.th.ph = 3 ∨ T.th.ph = 2 ∨ T.th.ph = 25))) = true by simp [c1, c2, c4, c5]]
  exact RetB.of (by simp [commitP, lookS, c1, c2, c4, c5.2, hT3]) k.kn.here.1.weak k.below
  refine aM rfl (aB c5) <| aI <| aC <| aE <| sr <| lp (pfa aN 16 rfl) rfl <| lp (pfa bG 16 rfl) rfl <| lr (rce 2 (I T.th.ph) aJ rfl) rfl <| lp (peq rfl) rfl <| nt <| aQ rfl (aA c4) <| sr <| lr (ral 2 aL rfl) rfl <| lx rfl <| fca rM rfl (fun W k => onward_is _ s T W k.cx ⟨k.kn.here.words, k.kn.here.boxes, k.kn.here.batch, k.kn.here.kids, k.kn.here.held, k.kn.here.tl, k.kn.here.log⟩ hla) ?_
  rintro _ _ W6 k ⟨s4, T4, hT4, rfl, hR4, hb4⟩
  refine nx ((k.call hb4).and hR4.kn) <| lx rfl <| ffl 1 [_, (g2, Ce 124 (tc T4 s4)), _] aZ rfl rfl <| lp (pas rfl) rfl <| nt <| aF (aS (cD ?_))
  refine aG _ (res2 rfl (aO 1 37 aL rfl rfl rfl) (aD rfl)) (fun W k => ?_)
  rw [show ((decide (T.th.ph = 3 ∨ T.th.ph = 2 ∨ T.th.ph = 25))) = true by simp [c1, c2, c4, c5]]
  exact RetB.of (by simp [commitP, lookS, c1, c2, c4, (show ¬ (allS T.th.batch (T.m.get (cellS T.c T.th.item)) T.c.lo T.c.hi = T.m.get (cellS T.c T.th.item)) from fun h => c5 ⟨rfl, h⟩), hT4]) k.kn.here.1.weak k.below
  refine aQ rfl (congrArg not (aB c4)) <| sr <| lr (ral 2 aL rfl) rfl <| lx rfl <| ffl 1 [_, (g2, Ce 124 (tc T s)), _] aZ rfl rfl <| lp (pas rfl) rfl <| nt <| aF (aS (cD ?_))
  refine aG _ (res2 rfl (aO 1 37 aL rfl rfl rfl) (aD rfl)) (fun W k => ?_)
  rw [show ((decide (T.th.ph = 3 ∨ T.th.ph = 2 ∨ T.th.ph = 25))) = false by simp [c1, c2, c4]]
  exact RetB.of (by simp [commitP, lookS, c1, c2, c4]) k.kn.here.weak k.below
end Go.Proofs.YtgbkjnikcnjbkaaGreat.Top
namespace Go.Proofs.YtgbkjnikcnjbkaaGreat.Top
open Go Go.MapKept Go.Proofs.YtgbkjnikcnjbkaaGreatW.PrintLast Go.Proofs.YtgbkjnikcnjbkaaGreatW.PrintMore Go.Proofs.YtgbkjnikcnjbkaaGreatW.PrintWords Go.RowKit
set_option linter.unusedSimpArgs false
set_option linter.unusedVariables false
section
section
variable {n : Nat} {M : List Deferred} {E : Env} {w0 : World} {L : Nat → Prop} {l : Bxs} {F : Fct} {Q : Exit → Act → World → Prop} {o : Oper} {d : Nat} {v : Value} {K : Act → World → Prop}
theorem run_obj {W : World} {g : Nat} {es : Array MapEntry} {c : Nat} (h : W.heap[g]? = some (.map es c)) : (getObj g).run Tryz.prog W = .ok (.map es c) W := Go.MapKept.run_getObj_map h
structure mpB (P : Program) (t e : TypeId) : Prop where
  m : P.underlying t = some (.map 3 e)
  k : P.underlying 3 = some (.int .i64)
abbrev Mp (es : List MapEntry) (c : Nat) : Obj := .map es.toArray c
theorem mB {t : TypeId} (h3 : (o.op, o.dst, Nat.blt d n) = (.makeMap t none, some d, true)) (h : ∀ g, St n M ((d, .map (some g)) :: E) w0 L ((g, Mp [] 0) :: l) F K) : Fx n M E w0 L l F Q o K := by
  have q := e2 h3; have q2 := e2 q.2
  refine ⟨fun c => by rw [q.1]; simp, fun a W ha hkb => ?_⟩
  revert ha hkb
  intro ha hkb
  unfold Oper.wp
  have hr : (Instr.makeMap t none).run Tryz.prog W = .ok (.map (some W.heap.size)) (W.alloc (.map #[] 0)) := rfl
  simp only [execOp, q.1, Option.map_none, Sem.run_bind, Sem.run_pure, Result.andThen_ok, hr, Oper.upon_value, q2.1]
  exact h W.heap.size _ _ (ha.put q2.2 _) (hkb.alloc (.map #[] 0))
theorem iO {t e : TypeId} {x y z : Operand} {g c : Nat} {p : Int} {es : List MapEntry} (hm : mpB Tryz.prog t e) (k : Nat) (l' : Bxs) (h3 : (o.op, o.dst, ev E x, ev E y, ev E z) = (.insert t x y z, none, some (.map (some g)), some (I p), some v)) (hk : l[k]? = some (g, Mp es c)) (hf : Instr.findNow (.int .i64) (I p) es 0 = some none)
    (hl : l.set k (g, Mp (es ++ [{ key := I p, val := v, born := c }]) (c + 1)) = l') (h : St n M E w0 L l' F K) : Fx n M E w0 L l F Q o K := by
  have q := e2 h3; have q2 := e2 q.2; have q3 := e2 q2.2; have q4 := e2 q3.2
  refine ⟨fun c => by rw [q.1]; simp, fun a W ha hkb => ?_⟩
  subst hl
  have hX := ha.eval q3.1
  have hY := ha.eval q4.1
  have hZ := ha.eval q4.2
  have hg : W.heap[g]? = some (.map es.toArray c) := hkb.bs.get k hk
  have hr : (Instr.mapUpdate t (.map (some g)) (I p) v).run Tryz.prog W = .ok () (W.putObj g (Mp (es ++ [{ key := I p, val := v, born := c }]) (c + 1))) := by
    have h1 := run_checkKey (P := Tryz.prog) (w := W) (kt := 3) (k := I p) hm.k (by simp [IsKey]) false 9999
    have h2 := run_findKey (P := Tryz.prog) (w := W) (kt := 3) (k := I p) (l := es) hm.k hf
    have h4 := run_setObj_map (P := Tryz.prog) (.map (es ++ [({ key := I p, val := v, born := c } : MapEntry)]).toArray (c + 1)) hg
    simp [Instr.mapUpdate, run_underlying hm.m, run_obj hg, h1, h2, h4, World.putObj]
  unfold Oper.wp
  simp only [execOp, q.1, hX, hY, hZ, Sem.run_bind, Sem.run_pure, Result.andThen_ok, hr, Oper.upon_skip, q2.1]
  exact h a _ ha (hkb.turn k hk _)
theorem iP {t e : TypeId} {x y : Operand} {g c : Nat} {p : Int} {es : List MapEntry} (hm : mpB Tryz.prog t e) (k : Nat) (h3 : (o.op, ev E x, ev E y) = (.lookup t x y true, some (.map (some g)), some (I p))) (hk : l[k]? = some (g, Mp es c)) {i : Nat} (hf : Instr.findNow (.int .i64) (I p) es 0 = some (some (i, v))) : Rn n M E w0 L l F o (.tuple [v, .bool true].toArray) := fun a W ha hkb => by
  have q := e2 h3; have q2 := e2 q.2
  have hX := ha.eval q2.1
  have hY := ha.eval q2.2
  have hg : W.heap[g]? = some (.map es.toArray c) := hkb.bs.get k hk
  have h1 := run_checkKey (P := Tryz.prog) (w := W) (kt := 3) (k := I p) hm.k (by simp [IsKey]) es.toArray.isEmpty 9999
  have h2 := run_findKey (P := Tryz.prog) (w := W) (kt := 3) (k := I p) (l := es) hm.k hf
  simp only [List.isEmpty_toArray] at h1
  simp [execOp, q.1, hX, hY, Instr.lookup, run_underlying hm.m, run_obj hg, h1, h2]
theorem nS {t e : TypeId} {x y : Operand} {g c : Nat} {p : Int} {es : List MapEntry} (hm : mpB Tryz.prog t e) (z : Value) (hz : (Tryz.prog.info? e).bind (·.zero) = some z) (k : Nat) (h3 : (o.op, ev E x, ev E y) = (.lookup t x y true, some (.map (some g)), some (I p))) (hk : l[k]? = some (g, Mp es c)) (hf : Instr.findNow (.int .i64) (I p) es 0 = some none) : Rn n M E w0 L l F o (.tuple [z, .bool false].toArray) := fun a W ha hkb => by
  have q := e2 h3; have q2 := e2 q.2
  have hX := ha.eval q2.1
  have hY := ha.eval q2.2
  have hg : W.heap[g]? = some (.map es.toArray c) := hkb.bs.get k hk
  have h1 := run_checkKey (P := Tryz.prog) (w := W) (kt := 3) (k := I p) hm.k (by simp [IsKey]) es.toArray.isEmpty 9999
  have h2 := run_findKey (P := Tryz.prog) (w := W) (kt := 3) (k := I p) (l := es) hm.k hf
  simp only [List.isEmpty_toArray] at h1
  have h5 : (zeroValue e).run Tryz.prog W = .ok z W := by
    cases hi : Tryz.prog.info? e with
    | none => simp [hi] at hz
    | some ie =>
      simp [hi] at hz
      simp only [zeroValue, typeInfo, Sem.run_bind, Sem.run_pure, Result.andThen_ok, run_program, hi, hz]
  simp [execOp, q.1, hX, hY, Instr.lookup, run_underlying hm.m, run_obj hg, h1, h2, h5]
end
end
end Go.Proofs.YtgbkjnikcnjbkaaGreat.Top
namespace Go.Proofs.YtgbkjnikcnjbkaaGreat.Top
open Go Go.Proofs.YtgbkjnikcnjbkaaGreatW.PrintLast Go.Proofs.YtgbkjnikcnjbkaaGreatW.PrintMore Go.Proofs.YtgbkjnikcnjbkaaGreatW.PrintWords Go.RowKit
set_option linter.unusedSimpArgs false
set_option linter.unusedVariables false
set_option maxHeartbeats 8000000
set_option maxRecDepth 100000
theorem nU : zeroB Tryz.prog 151 (tc tn0 sl0) := by unfold zeroB; kernel_rfl
theorem rN : szB Tryz.prog 151 37 = true := by kernel_rfl
theorem mp153 : mpB Tryz.prog 153 152 := ⟨by kernel_rfl, by kernel_rfl⟩
theorem fn83 : fnB Tryz.prog 83 = true := by kernel_rfl
theorem fn84 : fnB Tryz.prog 84 = true := by kernel_rfl
theorem fn85 : fnB Tryz.prog 85 = true := by kernel_rfl
theorem fn86 : fnB Tryz.prog 86 = true := by kernel_rfl
def shareP (T : Tn) : Tn := if T.th.ph = 13 then waitS T else if T.th.ph = 14 then fetchS T else if T.th.ph = 15 then shareS T else if T.th.ph = 16 then tellS T else T
theorem sstep_is (L : Nat → Prop) (s : Sl) (T : Tn) (hw : TnOk T) (w : World) (cx : Cx L w) (hr : RT L s T w) (hk : T.th.ph = 15 ∨ T.th.ph = 16 → (0 ≤ T.th.at_ ∧ T.th.at_ < T.th.kids.length) ∧ 0 ≤ (kidS T).t ∧ (kidS T).t < T.c.th) : Calls Tryz.prog 75 [.agg (tc T s)].toArray w (RetB L w (shareP T) (decide (T.th.ph = 13 ∨ T.th.ph = 14 ∨ T.th.ph = 15 ∨ T.th.ph = 16))) := by
  have hc := hw.c
  refine ent 33 Tryz.func75 rfl (Kb.start cx (RTL.kn0 hr)) <| sr <| lx rfl <| fba rfl fun g1 => ?_
  refine lx rfl <| fal bH rfl fun g2 => ?_
  refine lp (pas rfl) rfl <| nt <| sr <| lr (ral 1 aL rfl) rfl <| lp (bB (tc T s) rfl rfl (by kernel_rfl)) rfl <| lx rfl <| fal nU rfl fun g3 => ?_
  refine lx rfl <| ffl 0 [(g3, Ce 151 (tc T s)), _, _] rN rfl rfl <| nt <| sr <| lx rfl <| mB rfl fun g4 => ?_
  refine lr (ral 1 fY rfl) rfl <| lp (cE rfl rfl rfl) rfl <| lx rfl <| iO mp153 0 [(g4, Mp [{ key := I 13, val := .func (.func 83) #[.agg (tc T s)] #[], born := 0 }] 1), _, _, _] rfl rfl rfl rfl <| lr (ral 1 fY rfl) rfl <| lp (cE rfl rfl rfl) rfl <| lx rfl <| iO mp153 0 [(g4, Mp [{ key := I 13, val := .func (.func 83) #[.agg (tc T s)] #[], born := 0 }, { key := I 14, val := .func (.func 84) #[.agg (tc T s)] #[], born := 1 }] 2), _, _, _] rfl rfl rfl rfl <| lr (ral 1 fY rfl) rfl <| lp (cE rfl rfl rfl) rfl <| lx rfl <| iO mp153 0 [(g4, Mp [{ key := I 13, val := .func (.func 83) #[.agg (tc T s)] #[], born := 0 }, { key := I 14, val := .func (.func 84) #[.agg (tc T s)] #[], born := 1 }, { key := I 15, val := .func (.func 85) #[.agg (tc T s)] #[], born := 2 }] 3), _, _, _] rfl rfl rfl rfl <| lr (ral 1 fY rfl) rfl <| lp (cE rfl rfl rfl) rfl <| lx rfl <| iO mp153 0 [(g4, Mp [{ key := I 13, val := .func (.func 83) #[.agg (tc T s)] #[], born := 0 }, { key := I 14, val := .func (.func 84) #[.agg (tc T s)] #[], born := 1 }, { key := I 15, val := .func (.func 85) #[.agg (tc T s)] #[], born := 2 }, { key := I 16, val := .func (.func 86) #[.agg (tc T s)] #[], born := 3 }] 4), _, _, _] rfl rfl rfl rfl <| lp (pmv rfl) rfl <| lp (pas rfl) rfl <| nt <| sr <| lp (pmv rfl) rfl <| lp (pfa aN 16 rfl) rfl <| lp (pfa bG 16 rfl) rfl <| lr (rce 3 (I T.th.ph) aJ rfl) rfl ?_
  by_cases c1 : T.th.ph = 13
  refine lr (iP (v := .func (.func 83) #[.agg (tc T s)] #[]) (i := 0) mp153 0 rfl rfl (by simp [Instr.findNow, Instr.sameNow, c1])) rfl <| lp (pmv rfl) rfl <| lp (pex rfl) rfl <| lp (pex rfl) rfl <| lp (pas rfl) rfl <| lp (pas rfl) rfl <| nt <| aE <| sr <| lp (pmv rfl) rfl <| lp (pno rfl) rfl <| nt <| aM rfl (congrArg not rfl) <| aI <| aC <| sr <| lp (pmv rfl) rfl <| lx rfl <| bV [] _ fn83 rfl rfl rfl rfl rfl [.agg (tc T s)] rfl (fun W k => wait_is _ s T hw W k.cx ⟨k.kn.here.words, k.kn.here.boxes, k.kn.here.batch, k.kn.here.kids, k.kn.here.held, k.kn.here.tl, k.kn.here.log⟩ (hw.line hw.t).1 (hw.line hw.t).2) ?_
  rintro _ _ W1 k ⟨s1, T1, hT1, rfl, hR1, hb1⟩
  refine nx ((k.call hb1).and hR1.kn) <| lx rfl <| ffl 2 [_, _, (g2, Ce 124 (tc T1 s1)), _] aZ rfl rfl <| lp (pas rfl) rfl <| nt <| aF <| aG _ (res2 rfl (aO 2 37 aL rfl rfl rfl) (aD rfl)) (fun W k => ?_)
  rw [show ((decide (T.th.ph = 13 ∨ T.th.ph = 14 ∨ T.th.ph = 15 ∨ T.th.ph = 16))) = true by simp [c1]]
  exact RetB.of (by rw [hT1]; simp only [shareP, if_pos c1] <;> rfl) k.kn.here.1.weak k.below
  by_cases c2 : T.th.ph = 14
  refine lr (iP (v := .func (.func 84) #[.agg (tc T s)] #[]) (i := 1) mp153 0 rfl rfl (by simp [Instr.findNow, Instr.sameNow, c1, c2])) rfl <| lp (pmv rfl) rfl <| lp (pex rfl) rfl <| lp (pex rfl) rfl <| lp (pas rfl) rfl <| lp (pas rfl) rfl <| nt <| aE <| sr <| lp (pmv rfl) rfl <| lp (pno rfl) rfl <| nt <| aM rfl (congrArg not rfl) <| aI <| aC <| sr <| lp (pmv rfl) rfl <| lx rfl <| bV [] _ fn84 rfl rfl rfl rfl rfl [.agg (tc T s)] rfl (fun W k => fetch_is _ s T hw W k.cx ⟨k.kn.here.words, k.kn.here.boxes, k.kn.here.batch, k.kn.here.kids, k.kn.here.held, k.kn.here.tl, k.kn.here.log⟩ (hw.result hw.t).1 (hw.result hw.t).2) ?_
  rintro _ _ W2 k ⟨s2, T2, hT2, rfl, hR2, hb2⟩
  refine nx ((k.call hb2).and hR2.kn) <| lx rfl <| ffl 2 [_, _, (g2, Ce 124 (tc T2 s2)), _] aZ rfl rfl <| lp (pas rfl) rfl <| nt <| aF <| aG _ (res2 rfl (aO 2 37 aL rfl rfl rfl) (aD rfl)) (fun W k => ?_)
  rw [show ((decide (T.th.ph = 13 ∨ T.th.ph = 14 ∨ T.th.ph = 15 ∨ T.th.ph = 16))) = true by simp [c1, c2]]
  exact RetB.of (by rw [hT2]; simp only [shareP, if_neg c1, if_pos c2] <;> rfl) k.kn.here.1.weak k.below
  by_cases c3 : T.th.ph = 15
  refine lr (iP (v := .func (.func 85) #[.agg (tc T s)] #[]) (i := 2) mp153 0 rfl rfl (by simp [Instr.findNow, Instr.sameNow, c1, c2, c3])) rfl <| lp (pmv rfl) rfl <| lp (pex rfl) rfl <| lp (pex rfl) rfl <| lp (pas rfl) rfl <| lp (pas rfl) rfl <| nt <| aE <| sr <| lp (pmv rfl) rfl <| lp (pno rfl) rfl <| nt <| aM rfl (congrArg not rfl) <| aI <| aC <| sr <| lp (pmv rfl) rfl <| lx rfl <| bV [] _ fn85 rfl rfl rfl rfl rfl [.agg (tc T s)] rfl (fun W k => share_is _ s T hw W k.cx ⟨k.kn.here.words, k.kn.here.boxes, k.kn.here.batch, k.kn.here.kids, k.kn.here.held, k.kn.here.tl, k.kn.here.log⟩ (hk (by omega)).1 hw.ki (hw.result (hk (by omega)).2).1 (hw.result (hk (by omega)).2).2) ?_
  rintro _ _ W3 k ⟨s3, T3, hT3, rfl, hR3, hb3⟩
  refine nx ((k.call hb3).and hR3.kn) <| lx rfl <| ffl 2 [_, _, (g2, Ce 124 (tc T3 s3)), _] aZ rfl rfl <| lp (pas rfl) rfl <| nt <| aF <| aG _ (res2 rfl (aO 2 37 aL rfl rfl rfl) (aD rfl)) (fun W k => ?_)
  rw [show ((decide (T.th.ph = 13 ∨ T.th.ph = 14 ∨ T.th.ph = 15 ∨ T.th.ph = 16))) = true by simp [c1, c2, c3]]
  exact RetB.of (by rw [hT3]; simp only [shareP, if_neg c1, if_neg c2, if_pos c3] <;> rfl) k.kn.here.1.weak k.below
  by_cases c4 : T.th.ph = 16
  refine lr (iP (v := .func (.func 86) #[.agg (tc T s)] #[]) (i := 3) mp153 0 rfl rfl (by simp [Instr.findNow, Instr.sameNow, c1, c2, c3, c4])) rfl <| lp (pmv rfl) rfl <| lp (pex rfl) rfl <| lp (pex rfl) rfl <| lp (pas rfl) rfl <| lp (pas rfl) rfl <| nt <| aE <| sr <| lp (pmv rfl) rfl <| lp (pno rfl) rfl <| nt <| aM rfl (congrArg not rfl) <| aI <| aC <| sr <| lp (pmv rfl) rfl <| lx rfl <| bV [] _ fn86 rfl rfl rfl rfl rfl [.agg (tc T s)] rfl (fun W k => tell_is _ s T hw W k.cx ⟨k.kn.here.words, k.kn.here.boxes, k.kn.here.batch, k.kn.here.kids, k.kn.here.held, k.kn.here.tl, k.kn.here.log⟩ (hk (by omega)).1 hw.ki (hw.line (hk (by omega)).2).1 (hw.line (hk (by omega)).2).2) ?_
  rintro _ _ W4 k ⟨s4, T4, hT4, rfl, hR4, hb4⟩
  refine nx ((k.call hb4).and hR4.kn) <| lx rfl <| ffl 2 [_, _, (g2, Ce 124 (tc T4 s4)), _] aZ rfl rfl <| lp (pas rfl) rfl <| nt <| aF <| aG _ (res2 rfl (aO 2 37 aL rfl rfl rfl) (aD rfl)) (fun W k => ?_)
  rw [show ((decide (T.th.ph = 13 ∨ T.th.ph = 14 ∨ T.th.ph = 15 ∨ T.th.ph = 16))) = true by simp [c1, c2, c3, c4]]
  exact RetB.of (by rw [hT4]; simp only [shareP, if_neg c1, if_neg c2, if_neg c3, if_pos c4] <;> rfl) k.kn.here.1.weak k.below
  refine lr (nS mp153 (.nilFunc) (by kernel_rfl) 0 rfl rfl (by simp [Instr.findNow, Instr.sameNow, beq_false_of_ne c1, beq_false_of_ne c2, beq_false_of_ne c3, beq_false_of_ne c4])) rfl <| lp (pmv rfl) rfl <| lp (pex rfl) rfl <| lp (pex rfl) rfl <| lp (pas rfl) rfl <| lp (pas rfl) rfl <| nt <| aE <| sr <| lp (pmv rfl) rfl <| lp (pno rfl) rfl <| nt <| aQ rfl (congrArg not rfl) <| sr <| lr (ral 3 aL rfl) rfl <| lx rfl <| ffl 2 [_, _, (g2, Ce 124 (tc T s)), _] aZ rfl rfl <| lp (pas rfl) rfl <| nt <| aF (aS ?_)
  refine aG _ (res2 rfl (aO 2 37 aL rfl rfl rfl) (aD rfl)) (fun W k => ?_)
  rw [show ((decide (T.th.ph = 13 ∨ T.th.ph = 14 ∨ T.th.ph = 15 ∨ T.th.ph = 16))) = false by simp [c1, c2, c3, c4]]
  exact RetB.of (by simp only [shareP, if_neg c1, if_neg c2, if_neg c3, if_neg c4] <;> rfl) k.kn.here.weak k.below
theorem oP : fnB Tryz.prog 120 = true := by kernel_rfl
theorem mC : fnB Tryz.prog 118 = true := by kernel_rfl
theorem gB : foB Tryz.prog 84 7 8 = true := by kernel_rfl
theorem rO : fnB Tryz.prog 117 = true := by kernel_rfl
theorem nV : fnB Tryz.prog 91 = true := by kernel_rfl
theorem kO : zeroB Tryz.prog 3 (#[I 0]) := by unfold zeroB; kernel_rfl
theorem mD : fnB Tryz.prog 92 = true := by kernel_rfl
theorem nW : zeroB Tryz.prog 142 (#[.nilFunc]) := by unfold zeroB; kernel_rfl
theorem oQ : szB Tryz.prog 142 1 = true := by kernel_rfl
theorem fn96 : fnB Tryz.prog 96 = true := by kernel_rfl
theorem fn97 : fnB Tryz.prog 97 = true := by kernel_rfl
theorem rP : fnB Tryz.prog 94 = true := by kernel_rfl
theorem kP : cellB Tryz.prog 142 = true := by kernel_rfl
theorem fn98 : fnB Tryz.prog 98 = true := by kernel_rfl
theorem fn93 : fnB Tryz.prog 93 = true := by kernel_rfl
def clookS (T : Tn) (w : Int) : Tn :=
  if kindS w = 1 then { T with th := { T.th with x := w, ph := 6 } }
  else if kindS w = 0 then { T with th := { T.th with ph := 5 } }
  else if lateP T then overS T else T
theorem clook_is (L : Nat → Prop) (s : Sl) (T : Tn) (v : Int) (hv : 0 ≤ v ∧ v ≤ 1000) (w : World) (cx : Cx L w) (hr : RT L s T w) : Calls Tryz.prog 96 [.agg (tc T s), I v].toArray w (RetT L w (clookS T v)) := by
  refine ent 23 Tryz.func96 rfl (Kb.start cx (RTL.kn0 hr)) <| sr <| lx rfl <| fba rfl fun g1 => ?_
  refine lx rfl <| fal bH rfl fun g2 => ?_
  refine nt <| aE <| sr <| lp (pmv rfl) rfl <| lx rfl <| fcv oP rfl (fun W k => kind_is _ v hv W k.cx) <| nt <| aP <| sr <| lp (peq rfl) rfl <| lp (pas rfl) rfl <| nt ?_
  by_cases c1 : kindS v = 1
  refine aQ rfl (aA c1) <| aU <| lp (pmv rfl) rfl <| lp (pfa aN 16 rfl) rfl <| lp (pfa dH 30 rfl) rfl <| lx rfl <| fst 1 [_, (g1, Ce 124 (tc { T with th := { T.th with x := v } } s))] cG rfl rfl <| lp (pfa aN 16 rfl) rfl <| lp (pfa bG 16 rfl) rfl <| lx rfl <| fst 1 [_, (g1, Ce 124 (tc { T with th := { T.th with x := v, ph := 6 } } s))] cG rfl rfl <| bQ <| aW <| aC <| sr <| lr (ral 1 aL rfl) rfl <| lx rfl <| ffl 0 [(g2, Ce 124 (tc { T with th := { T.th with x := v, ph := 6 } } s)), _] aZ rfl rfl <| nt <| aF <| aG _ (res1 rfl (aO 0 37 aL rfl rfl rfl)) (fun W k => ?_)
  exact RetT.of (by simp [clookS, c1]) k.kn.here.weak k.below
  refine aM rfl (aB c1) <| sr <| lp (peq rfl) rfl <| lp (pas rfl) rfl <| nt ?_
  by_cases c2 : kindS v = 0
  refine aQ rfl (aA c2) <| aU <| lp (pfa aN 16 rfl) rfl <| lp (pfa bG 16 rfl) rfl <| lx rfl <| fst 1 [_, (g1, Ce 124 (tc { T with th := { T.th with ph := 5 } } s))] cG rfl rfl <| bQ <| aW <| aC <| sr <| lr (ral 1 aL rfl) rfl <| lx rfl <| ffl 0 [(g2, Ce 124 (tc { T with th := { T.th with ph := 5 } } s)), _] aZ rfl rfl <| nt <| aF <| aG _ (res1 rfl (aO 0 37 aL rfl rfl rfl)) (fun W k => ?_)
  exact RetT.of (by simp [clookS, c1, c2]) k.kn.here.weak k.below
  refine aM rfl (aB c2) <| sr <| lr (ral 1 aL rfl) rfl <| lx rfl <| fcv lS rfl (fun W k => late_is _ s T W k.cx) <| nt ?_
  rcases Bool.eq_false_or_eq_true (lateP T) with c3 | c3
  refine aQ rfl c3 <| sr <| lr (ral 1 aL rfl) rfl <| lx rfl <| fca mC rfl (fun W k => over_is _ s T W k.cx ⟨k.kn.here.words, k.kn.here.boxes, k.kn.here.batch, k.kn.here.kids, k.kn.here.held, k.kn.here.tl, k.kn.here.log⟩) ?_
  rintro _ _ W3 k ⟨s1, T1, hT1, rfl, hR1, hb1⟩
  refine nx ((k.call hb1).and hR1.kn) <| lx rfl <| ffl 0 [(g2, Ce 124 (tc T1 s1)), _] aZ rfl rfl <| nt <| aF (bD (aS ?_))
  refine aG _ (res1 rfl (aO 0 37 aL rfl rfl rfl)) (fun W k => ?_)
  exact RetT.of (by simp [clookS, c1, c2, c3, hT1]) k.kn.here.1.weak k.below
  refine aM rfl c3 <| aI <| aW <| aC <| sr <| lr (ral 1 aL rfl) rfl <| lx rfl <| ffl 0 [(g2, Ce 124 (tc T s)), _] aZ rfl rfl <| nt <| aF <| aG _ (res1 rfl (aO 0 37 aL rfl rfl rfl)) (fun W k => ?_)
  exact RetT.of (by simp [clookS, c1, c2, c3]) k.kn.here.weak k.below
theorem taken_is (L : Nat → Prop) (s : Sl) (T : Tn) (w : World) (cx : Cx L w) (hr : RT L s T w) (hh : T.th.held.length ≤ 1000) : Calls Tryz.prog 93 [.agg (tc T s)].toArray w (RetT L w (takenS T)) := by
  refine ent 27 Tryz.func93 rfl (Kb.start cx (RTL.kn0 hr)) <| sr <| lx rfl <| fba rfl fun g1 => ?_
  refine lx rfl <| fal bH rfl fun g2 => ?_
  refine nt <| aE <| cJ (σ := Nat × Gr) (fun x1 => [(1, .pointer (some ⟨g1, 0, none⟩)), (2, .pointer (some ⟨g2, 0, none⟩))]) (fun x1 => [(x1.1, Ce 3 (#[I T.th.node])), (g2, Ce 124 (tc tn0 sl0)), (g1, Ce 124 (tc { T with th := { T.th with held := T.th.held ++ [T.th.node] } } { s with held := (Gr.hd x1.2) }))]) (fun x1 F O W => RS (Av L O) (Gr.hd x1.2) ((T.th.held ++ [T.th.node]).length) ((T.th.held ++ [T.th.node]).map I) W ∧ F O W) ?_ ?_
  refine dst [11] <| dp 0 rfl (pfa aN 16 rfl) <| dp 1 rfl (pfa fJ 22 rfl) <| dp 4 rfl (pfa aN 16 rfl) <| dp 5 rfl (pfa gB 24 rfl) <| dr 2 rfl (fun _ h => h) (rce 1 (.slice s.held.A T.th.held.length s.held.c) bX rfl) <| dr 6 rfl (fun _ h => h) (rce 1 (I T.th.node) aJ rfl) <| d2 3 7 rfl ?_ ?_
  refine fca kZ rfl (fun W k => cg37 k.kn.here.held (by omega)) ?_
  rintro _ _ W1_3a k ⟨R1_3a, rfl, ok1_3a, hx1_3a, hb1_3a⟩
  refine nx (k.adoptg hb1_3a hx1_3a) (aH (fun _ h => (Kb.tail (l := [(g2, Ce 124 (tc tn0 sl0)), (g1, Ce 124 (tc T s))]) (e := 3) (R := R1_3a) h)) ?_)
  refine dx 7 rfl <| bO (t := 24) (e := 3) (sz := 1) 1 (#[I T.th.node]) ⟨by kernel_rfl, by kernel_rfl⟩ rfl rfl rfl rfl fun g1_7a => ?_
  refine aH (fun _ h => (Kb.tail (l := [(g2, Ce 124 (tc tn0 sl0)), (g1, Ce 124 (tc T s))]) (e := 3) (R := R1_3a) (h.leave 0))) <| dx 8 rfl <| cC (R := R1_3a) (nn := T.th.held.length) (cs := (T.th.held).map I) ([(g1_7a, Ce 3 (#[I T.th.node])), (g2, Ce 124 (tc tn0 sl0)), (g1, Ce 124 (tc T s))]) 1 (#[I T.th.node]).toList ap24 rfl ok1_3a rfl rfl rfl rfl rfl rfl (fun W k => k.news 0 rfl) (all_one rfl) (by decide) (by omega) fun R1_8a ok1_8a => ?_
  refine aH (fun _ h => (Kb.tail (l := [(g2, Ce 124 (tc tn0 sl0)), (g1, Ce 124 (tc T s))]) (e := 3) (R := R1_8a) (h.leave 0))) <| dp 9 rfl (pfa aN 16 rfl) <| dp 10 rfl (pfa fJ 22 rfl) ?_
  have hm1_11a : T.th.held.length + 1 = (T.th.held ++ [T.th.node]).length := (by simp)
  refine dV [(g1_7a, Ce 3 (#[I T.th.node])), (g2, Ce 124 (tc tn0 sl0)), (g1, Ce 124 (tc T s))] ((T.th.held ++ [T.th.node]).length) ((T.th.held ++ [T.th.node]).map I) ok1_8a hm1_11a (by simp) rfl <| eU (i := 11) (.slice (Gr.hd R1_8a).A ((T.th.held ++ [T.th.node]).length) (Gr.hd R1_8a).c) rfl (congrArg (fun n => Value.slice (Gr.hd R1_8a).A n (Gr.hd R1_8a).c) hm1_11a) <| dl 11 rfl <| fst 2 [_, _, (g1, Ce 124 (tc { T with th := { T.th with held := T.th.held ++ [T.th.node] } } { s with held := (Gr.hd R1_8a) }))] jH rfl rfl <| dd ?_
  exact bE (σ := Nat × Gr) (g1_7a, R1_8a) ⟨rfl, rfl, trivial⟩ (fun W k => (k.re fun O W h => ⟨h.1, h.2⟩))
  refine bO (t := 24) (e := 3) (sz := 1) 1 (#[I T.th.node]) ⟨by kernel_rfl, by kernel_rfl⟩ rfl rfl rfl rfl fun g1_7a => ?_
  refine aH (fun _ h => (h.leave 0)) <| dx 3 rfl <| fca kZ rfl (fun W k => cg37 k.kn.here.held (by omega)) ?_
  rintro _ _ W1_3a k ⟨R1_3a, rfl, ok1_3a, hx1_3a, hb1_3a⟩
  refine nx (k.adoptg hb1_3a hx1_3a) (aH (fun _ h => (Kb.tail (l := [(g2, Ce 124 (tc tn0 sl0)), (g1, Ce 124 (tc T s))]) (e := 3) (R := R1_3a) (h.leave 0))) ?_)
  refine dx 8 rfl <| cC (R := R1_3a) (nn := T.th.held.length) (cs := (T.th.held).map I) ([(g1_7a, Ce 3 (#[I T.th.node])), (g2, Ce 124 (tc tn0 sl0)), (g1, Ce 124 (tc T s))]) 1 (#[I T.th.node]).toList ap24 rfl ok1_3a rfl rfl rfl rfl rfl rfl (fun W k => k.news 0 rfl) (all_one rfl) (by decide) (by omega) fun R1_8a ok1_8a => ?_
  refine aH (fun _ h => (Kb.tail (l := [(g2, Ce 124 (tc tn0 sl0)), (g1, Ce 124 (tc T s))]) (e := 3) (R := R1_8a) (h.leave 0))) <| dp 9 rfl (pfa aN 16 rfl) <| dp 10 rfl (pfa fJ 22 rfl) ?_
  have hm1_11a : T.th.held.length + 1 = (T.th.held ++ [T.th.node]).length := (by simp)
  refine dV [(g1_7a, Ce 3 (#[I T.th.node])), (g2, Ce 124 (tc tn0 sl0)), (g1, Ce 124 (tc T s))] ((T.th.held ++ [T.th.node]).length) ((T.th.held ++ [T.th.node]).map I) ok1_8a hm1_11a (by simp) rfl <| eU (i := 11) (.slice (Gr.hd R1_8a).A ((T.th.held ++ [T.th.node]).length) (Gr.hd R1_8a).c) rfl (congrArg (fun n => Value.slice (Gr.hd R1_8a).A n (Gr.hd R1_8a).c) hm1_11a) <| dl 11 rfl <| fst 2 [_, _, (g1, Ce 124 (tc { T with th := { T.th with held := T.th.held ++ [T.th.node] } } { s with held := (Gr.hd R1_8a) }))] jH rfl rfl <| dd ?_
  exact bE (σ := Nat × Gr) (g1_7a, R1_8a) ⟨rfl, rfl, trivial⟩ (fun W k => (k.re fun O W h => ⟨h.1, h.2⟩))
  intro x1
  refine aC <| sr <| lp (pfa aN 16 rfl) rfl <| lp (pfa gB 24 rfl) rfl <| lr (rce 2 (I T.th.node) aJ rfl) rfl <| lx rfl <| fcv rO rfl (fun W k => parent_is _ T.th.node W k.cx) <| lp (pfa aN 16 rfl) rfl <| lp (pfa gB 24 rfl) rfl <| lx rfl <| fst 2 [_, _, (g1, Ce 124 (tc { T with th := { T.th with held := T.th.held ++ [T.th.node], node := parentS T.th.node } } { s with held := (Gr.hd x1.2) }))] cG rfl rfl <| nt <| aE <| sr <| lp (pfa aN 16 rfl) rfl <| lp (pfa gB 24 rfl) rfl <| lr (rce 2 (I (parentS T.th.node)) aJ rfl) rfl <| lp (pgt rfl) rfl <| nt ?_
  by_cases c1 : 0 < parentS T.th.node
  refine aQ rfl (aA c1) <| sr <| lr (ral 2 aL rfl) rfl <| lx rfl <| ffl 1 [_, (g2, Ce 124 (tc { T with th := { T.th with held := T.th.held ++ [T.th.node], node := parentS T.th.node } } { s with held := (Gr.hd x1.2) })), _] aZ rfl rfl <| nt <| aF (aS ?_)
  refine aG _ (res1 rfl (aO 1 37 aL rfl rfl rfl)) (fun W k => ?_)
  exact RetT.of (by simp [takenS, c1]) ⟨k.kn.here.2.words.weak, k.kn.here.2.boxes.weak, k.kn.here.2.batch.weak, k.kn.here.2.kids.weak, k.kn.here.1.weak, k.kn.here.2.tl.weak, k.kn.here.2.log.weak⟩ k.below
  refine aM rfl (aB c1) <| aI <| aC <| sr <| lr (ral 2 aL rfl) rfl <| lx rfl <| fca mC rfl (fun W k => over_is _ { s with held := (Gr.hd x1.2) } { T with th := { T.th with held := T.th.held ++ [T.th.node], node := parentS T.th.node } } W k.cx ⟨k.kn.here.2.words, k.kn.here.2.boxes, k.kn.here.2.batch, k.kn.here.2.kids, k.kn.here.1, k.kn.here.2.tl, k.kn.here.2.log⟩) ?_
  rintro _ _ W2 k ⟨s1, T1, hT1, rfl, hR1, hb1⟩
  refine nx ((k.call hb1).and hR1.kn) <| lx rfl <| ffl 1 [_, (g2, Ce 124 (tc T1 s1)), _] aZ rfl rfl <| nt <| aF <| aG _ (res1 rfl (aO 1 37 aL rfl rfl rfl)) (fun W k => ?_)
  exact RetT.of (by simp [takenS, c1, hT1]) k.kn.here.1.weak k.below
theorem joined_is2 (L : Nat → Prop) (s : Sl) (T : Tn) (w : World) (cx : Cx L w) (hr : RT L s T w) : Calls Tryz.prog 98 [.agg (tc T s)].toArray w (RetT L w (overS { T with th := { T.th with stop := T.th.node } })) := by
  refine ent 10 Tryz.func98 rfl (Kb.start cx (RTL.kn0 hr)) <| sr <| lx rfl <| fba rfl fun g1 => ?_
  refine lx rfl <| fal bH rfl fun g2 => ?_
  refine nt <| sr <| lp (pfa aN 16 rfl) rfl <| lp (pfa gB 24 rfl) rfl <| lr (rce 1 (I T.th.node) aJ rfl) rfl <| lp (pfa aN 16 rfl) rfl <| lp (pfa jQ 23 rfl) rfl <| lx rfl <| fst 1 [_, (g1, Ce 124 (tc { T with th := { T.th with stop := T.th.node } } s))] cG rfl rfl <| nt <| sr <| lr (ral 1 aL rfl) rfl <| lx rfl <| fca mC rfl (fun W k => over_is _ s { T with th := { T.th with stop := T.th.node } } W k.cx ⟨k.kn.here.words, k.kn.here.boxes, k.kn.here.batch, k.kn.here.kids, k.kn.here.held, k.kn.here.tl, k.kn.here.log⟩) ?_
  rintro _ _ W1 k ⟨s1, T1, hT1, rfl, hR1, hb1⟩
  refine nx ((k.call hb1).and hR1.kn) <| lx rfl <| ffl 0 [(g2, Ce 124 (tc T1 s1)), _] aZ rfl rfl <| nt <| aF <| aG _ (res1 rfl (aO 0 37 aL rfl rfl rfl)) (fun W k => ?_)
  exact RetT.of hT1 k.kn.here.1.weak k.below
def climbP (T : Tn) : Tn := if T.th.ph = 4 then climbS T else if T.th.ph = 6 then joinS T else if T.th.ph = 5 then takeS T else T
theorem climb_is (L : Nat → Prop) (s : Sl) (T : Tn) (hw : TnOk T) (w : World) (cx : Cx L w) (hr : RT L s T w) (hn : (T.th.ph = 4 ∨ T.th.ph = 6 ∨ T.th.ph = 5) → 1 ≤ T.th.node ∧ T.th.node < p2 T.c.de) (hwd : T.th.ph = 4 → 0 ≤ T.m.get (nodeS T.c T.th.item T.th.node) ∧ T.m.get (nodeS T.c T.th.item T.th.node) ≤ 1000) : Calls Tryz.prog 77 [.agg (tc T s)].toArray w (RetB L w (climbP T) (decide (T.th.ph = 4 ∨ T.th.ph = 6 ∨ T.th.ph = 5))) := by
  have hc := hw.c
  refine ent 55 Tryz.func77 rfl (Kb.start cx (RTL.kn0 hr)) <| sr <| lx rfl <| fba rfl fun g1 => ?_
  refine lx rfl <| fal bH rfl fun g2 => ?_
  refine lp (pas rfl) rfl <| nt <| sr <| lp (pfa bK 0 rfl) rfl <| lr (rro 1 T.c.cells bM rfl) rfl <| lp (pfa aN 16 rfl) rfl <| lp (pfa eI 17 rfl) rfl <| lr (rce 1 (I T.th.item) aJ rfl) rfl <| lp (pfa aN 16 rfl) rfl <| lp (pfa gB 24 rfl) rfl <| lr (rce 1 (I T.th.node) aJ rfl) rfl <| lx rfl <| fcv nV rfl (fun W k => node_is _ T.c hc T.th.item T.th.node W k.cx) <| lx rfl <| fal kO rfl fun g3 => ?_
  refine lx rfl <| fst 0 [(g3, Ce 3 (#[I (nodeS T.c T.th.item T.th.node)])), _, _] cG rfl rfl <| nt <| sr <| lp (pfa cO 12 rfl) rfl <| lr (rce 2 (I T.t) aJ rfl) rfl <| lx rfl <| fcv mD rfl (fun W k => first_is T.t (by have := hw.t; have := hc.th; omega) W) <| lx rfl <| fal kO rfl fun g4 => ?_
  refine lx rfl <| fal kO rfl fun g5 => ?_
  refine lx rfl <| fal nW rfl fun g6 => ?_
  refine lx rfl <| fst 2 [_, _, (g4, Ce 3 (#[I 0])), _, _, _] cG rfl rfl <| lx rfl <| fst 1 [_, (g5, Ce 3 (#[I (firstS T.t)])), _, _, _, _] cG rfl rfl <| lx rfl <| fst 0 [(g6, Ce 142 (#[.func (.func 93) #[] #[]])), _, _, _, _, _] oQ rfl rfl <| nt <| sr <| lp (cE rfl rfl rfl) rfl <| lp (pas rfl) rfl <| nt <| aE <| sr <| lp (pfa aN 16 rfl) rfl <| lp (pfa bG 16 rfl) rfl <| lr (rce 5 (I T.th.ph) aJ rfl) rfl <| nt <| aP <| aE <| aP <| aE <| aP <| aE <| aP <| aE <| aE <| sr <| lp (peq rfl) rfl <| lp (pas rfl) rfl <| nt ?_
  by_cases c1 : T.th.ph = 4
  refine aQ rfl (aA c1) <| aX <| aK <| aK <| aY <| aC <| aE <| sr <| lp (pfa bJ 14 rfl) rfl <| lr (rro 5 (mc T.m s.words s.boxes) bI rfl) rfl <| lr (rce 3 (I (nodeS T.c T.th.item T.th.node)) aJ rfl) rfl <| lx rfl <| fcv jR rfl (fun W k => mload_is _ T.m s.words s.boxes (nodeS T.c T.th.item T.th.node) W k.cx k.kn.here.words k.kn.here.boxes (hw.node (hn (by omega))).1 (hw.node (hn (by omega))).2 hw.hm) <| lp (pmv rfl) rfl <| lp (pex rfl) rfl <| lp (pex rfl) rfl <| lp (pas rfl) rfl <| lp (pas rfl) rfl <| nt <| aE <| sr <| lp (pmv rfl) rfl <| lp (pne rfl) rfl <| nt <| aM rfl (congrArg not rfl) <| aI <| aC <| sr <| lr (ral 5 aL rfl) rfl <| lp (pmv rfl) rfl <| lx rfl <| fca fn96 rfl (fun W k => clook_is _ s T (T.m.get (nodeS T.c T.th.item T.th.node)) (hwd (by omega)) W k.cx ⟨k.kn.here.words, k.kn.here.boxes, k.kn.here.batch, k.kn.here.kids, k.kn.here.held, k.kn.here.tl, k.kn.here.log⟩ ) ?_
  rintro _ _ W4 k ⟨s1, T1, hT1, rfl, hR1, hb1⟩
  refine nx ((k.call hb1).and hR1.kn) <| lx rfl <| ffl 4 [_, _, _, _, (g2, Ce 124 (tc T1 s1)), _] aZ rfl rfl <| lp (pas rfl) rfl <| nt <| aF (aS (bD (aS (bD (aS (bD (aS ?_)))))))
  refine aG _ (res2 rfl (aO 4 37 aL rfl rfl rfl) (aD rfl)) (fun W k => ?_)
  rw [show ((decide (T.th.ph = 4 ∨ T.th.ph = 6 ∨ T.th.ph = 5))) = true by simp [c1]]
  exact RetB.of (by rw [hT1]; simp only [climbP, if_pos c1] <;> first | rfl | (simp [climbS, joinS, takeS, clookS, casM, c1]; done) | (simp [climbS, joinS, takeS, clookS, casM, c1]; rfl)) k.kn.here.1.weak k.below
  refine aM rfl (aB c1) <| aI <| aC <| aE <| sr <| lp (peq rfl) rfl <| lp (pas rfl) rfl <| nt ?_
  by_cases c2 : T.th.ph = 6
  refine aQ rfl (aA c2) <| aX <| aK <| aK <| aV rfl <| aK <| aY <| aC <| dst [6, 7, 8] <| dp 0 rfl (pfa aN 16 rfl) <| dp 1 rfl (pfa dH 30 rfl) <| dp 3 rfl (pfa cO 12 rfl) <| dr 2 rfl (fun _ h => h) (rce 5 (I T.th.x) aJ rfl) <| dr 4 rfl (fun _ h => h) (rce 5 (I T.t) aJ rfl) <| dx 5 rfl <| fcv fn97 rfl (fun W k => joined_is T.t (by have := hw.t; have := hc.th; omega) W) (aH (fun _ h => h) ?_)
  refine dl 6 rfl <| fst 2 [_, _, (g4, Ce 3 (#[I T.th.x])), _, _, _] cG rfl rfl <| dl 7 rfl <| fst 1 [_, (g5, Ce 3 (#[I (joinedS T.t)])), _, _, _, _] cG rfl rfl <| dl 8 rfl <| fst 0 [(g6, Ce 142 (#[.func (.func 98) #[] #[]])), _, _, _, _, _] oQ rfl rfl <| dd <| aW <| aC <| aE <| sr <| lp (pmv rfl) rfl <| lx rfl <| cB [] rP rfl rfl rfl rfl rfl [.pointer (some ⟨g1, 0, none⟩), .pointer (some ⟨g3, 0, none⟩), .pointer (some ⟨g4, 0, none⟩), .pointer (some ⟨g5, 0, none⟩), .pointer (some ⟨g6, 0, none⟩)] rfl (fun W k => ?_)
  refine ent 31 Tryz.func94 rfl k <| sr <| lx rfl <| fal bH rfl fun g7 => ?_
  refine nt <| sr <| lp (pfa bJ 14 rfl) rfl <| lr (rro 6 (mc T.m s.words s.boxes) bI rfl) rfl <| lr (rce 4 (I (nodeS T.c T.th.item T.th.node)) aJ rfl) rfl <| lr (rce 3 (I T.th.x) aJ rfl) rfl <| lr (rce 2 (I (joinedS T.t)) aJ rfl) rfl <| lx rfl <| fca eQ rfl (fun W k => mcas_is' _ T.m s.words s.boxes (nodeS T.c T.th.item T.th.node) T.th.x (joinedS T.t) W k.cx k.kn.here.words k.kn.here.boxes (hw.node (hn (by omega))).1 (hw.node (hn (by omega))).2 hw.hm) ?_
  rintro _ _ W6 k ⟨ma1, rfl, hr1, hb2⟩
  refine nx ((k.call hb2).and hr1.kn) <| lp (pmv rfl) rfl <| lp (pex rfl) rfl <| lp (pex rfl) rfl <| lp (pex rfl) rfl <| lx rfl <| fal bF rfl fun g8 => ?_
  refine lx rfl <| ffl 0 [(g8, Ce 32 (mc { T.m with words := (casM T.m (nodeS T.c T.th.item T.th.node) T.th.x (joinedS T.t)).words } ma1 s.boxes)), _, _, _, _, _, _, _] bN rfl rfl <| lp (pas rfl) rfl <| lp (pas rfl) rfl <| nt <| aE <| sr <| lp (pmv rfl) rfl <| lp (pne rfl) rfl <| nt <| aM rfl (congrArg not rfl) <| aI <| aC <| sr <| lr (ral 0 bI rfl) rfl <| lp (pfa bJ 14 rfl) rfl <| lx rfl <| fst 7 [_, _, _, _, _, _, _, (g1, Ce 124 (tc { T with m := { T.m with words := (casM T.m (nodeS T.c T.th.item T.th.node) T.th.x (joinedS T.t)).words } } { s with words := ma1, boxes := s.boxes }))] bN rfl rfl <| lp (pfa aN 16 rfl) rfl <| lp (pfa bG 16 rfl) rfl <| lx rfl <| fst 7 [_, _, _, _, _, _, _, (g1, Ce 124 (tc { T with m := { T.m with words := (casM T.m (nodeS T.c T.th.item T.th.node) T.th.x (joinedS T.t)).words }, th := { T.th with ph := 4 } } { s with words := ma1, boxes := s.boxes }))] cG rfl rfl <| nt <| aE <| sr <| lp (pmv rfl) rfl <| nt ?_
  by_cases c3 : T.m.get (nodeS T.c T.th.item T.th.node) = T.th.x
  refine aQ rfl (aA c3) <| sr <| lr (rce 2 (.func (.func 98) #[] #[]) kP rfl) rfl <| lr (ral 7 aL rfl) rfl <| lx rfl <| bV [.agg (tc { T with m := { T.m with words := (casM T.m (nodeS T.c T.th.item T.th.node) T.th.x (joinedS T.t)).words }, th := { T.th with ph := 4 } } { s with words := ma1, boxes := s.boxes })] _ fn98 rfl rfl rfl rfl rfl [.agg (tc { T with m := { T.m with words := (casM T.m (nodeS T.c T.th.item T.th.node) T.th.x (joinedS T.t)).words }, th := { T.th with ph := 4 } } { s with words := ma1, boxes := s.boxes })] rfl (fun W k => joined_is2 _ { s with words := ma1, boxes := s.boxes } { T with m := { T.m with words := (casM T.m (nodeS T.c T.th.item T.th.node) T.th.x (joinedS T.t)).words }, th := { T.th with ph := 4 } } W k.cx ⟨k.kn.here.1, k.kn.here.2.boxes, k.kn.here.2.batch, k.kn.here.2.kids, k.kn.here.2.held, k.kn.here.2.tl, k.kn.here.2.log⟩) ?_
  rintro _ _ W7 k ⟨s2, T2, hT2, rfl, hR2, hb3⟩
  refine nx ((k.call hb3).and hR2.kn) <| lx rfl <| ffl 1 [_, (g7, Ce 124 (tc T2 s2)), _, _, _, _, _, _] aZ rfl rfl <| nt <| aF (aS ?_)
  refine aG _ (res1 rfl (aO 1 37 aL rfl rfl rfl)) (fun W k => ?_)
  refine nx k <| lx rfl <| ffl 6 [_, _, _, _, _, _, (g2, Ce 124 (tc T2 s2)), _] aZ rfl rfl <| lp (pas rfl) rfl <| nt <| aF (aS (bD (aS ?_)))
  refine aG _ (res2 rfl (aO 6 37 aL rfl rfl rfl) (aD rfl)) (fun W k => ?_)
  rw [show ((decide (T.th.ph = 4 ∨ T.th.ph = 6 ∨ T.th.ph = 5))) = true by simp [c1, c2, c3]]
  exact RetB.of (by rw [hT2]; simp only [climbP, if_neg c1, if_pos c2] <;> first | rfl | (simp [climbS, joinS, takeS, clookS, casM, c1, c2, c3]; done) | (simp [climbS, joinS, takeS, clookS, casM, c1, c2, c3]; rfl)) k.kn.here.1.weak k.below
  refine aM rfl (aB c3) <| aI <| aC <| sr <| lr (ral 7 aL rfl) rfl <| lx rfl <| ffl 1 [_, (g7, Ce 124 (tc { T with m := { T.m with words := (casM T.m (nodeS T.c T.th.item T.th.node) T.th.x (joinedS T.t)).words }, th := { T.th with ph := 4 } } { s with words := ma1, boxes := s.boxes })), _, _, _, _, _, _] aZ rfl rfl <| nt <| aF <| aG _ (res1 rfl (aO 1 37 aL rfl rfl rfl)) (fun W k => ?_)
  refine nx k <| lx rfl <| ffl 6 [_, _, _, _, _, _, (g2, Ce 124 (tc { T with m := { T.m with words := (casM T.m (nodeS T.c T.th.item T.th.node) T.th.x (joinedS T.t)).words }, th := { T.th with ph := 4 } } { s with words := ma1, boxes := s.boxes })), _] aZ rfl rfl <| lp (pas rfl) rfl <| nt <| aF (aS (bD (aS ?_)))
  refine aG _ (res2 rfl (aO 6 37 aL rfl rfl rfl) (aD rfl)) (fun W k => ?_)
  rw [show ((decide (T.th.ph = 4 ∨ T.th.ph = 6 ∨ T.th.ph = 5))) = true by simp [c1, c2, c3]]
  exact RetB.of (by simp only [climbP, if_neg c1, if_pos c2] <;> first | rfl | (simp [climbS, joinS, takeS, clookS, casM, c1, c2, c3]; done) | (simp [climbS, joinS, takeS, clookS, casM, c1, c2, c3]; rfl)) ⟨k.kn.here.1.weak, k.kn.here.2.boxes.weak, k.kn.here.2.batch.weak, k.kn.here.2.kids.weak, k.kn.here.2.held.weak, k.kn.here.2.tl.weak, k.kn.here.2.log.weak⟩ k.below
  refine aM rfl (aB c2) <| aI <| aC <| sr <| lp (peq rfl) rfl <| lp (pas rfl) rfl <| nt ?_
  by_cases c4 : T.th.ph = 5
  refine aQ rfl (aA c4) <| aX <| aK <| aV rfl <| aK <| aV rfl <| aK <| aY <| aC <| aE <| sr <| lp (pmv rfl) rfl <| lx rfl <| cB [] rP rfl rfl rfl rfl rfl [.pointer (some ⟨g1, 0, none⟩), .pointer (some ⟨g3, 0, none⟩), .pointer (some ⟨g4, 0, none⟩), .pointer (some ⟨g5, 0, none⟩), .pointer (some ⟨g6, 0, none⟩)] rfl (fun W k => ?_)
  refine ent 31 Tryz.func94 rfl k <| sr <| lx rfl <| fal bH rfl fun g9 => ?_
  refine nt <| sr <| lp (pfa bJ 14 rfl) rfl <| lr (rro 6 (mc T.m s.words s.boxes) bI rfl) rfl <| lr (rce 4 (I (nodeS T.c T.th.item T.th.node)) aJ rfl) rfl <| lr (rce 3 (I 0) aJ rfl) rfl <| lr (rce 2 (I (firstS T.t)) aJ rfl) rfl <| lx rfl <| fca eQ rfl (fun W k => mcas_is' _ T.m s.words s.boxes (nodeS T.c T.th.item T.th.node) 0 (firstS T.t) W k.cx k.kn.here.words k.kn.here.boxes (hw.node (hn (by omega))).1 (hw.node (hn (by omega))).2 hw.hm) ?_
  rintro _ _ W8 k ⟨ma2, rfl, hr2, hb4⟩
  refine nx ((k.call hb4).and hr2.kn) <| lp (pmv rfl) rfl <| lp (pex rfl) rfl <| lp (pex rfl) rfl <| lp (pex rfl) rfl <| lx rfl <| fal bF rfl fun g10 => ?_
  refine lx rfl <| ffl 0 [(g10, Ce 32 (mc { T.m with words := (casM T.m (nodeS T.c T.th.item T.th.node) 0 (firstS T.t)).words } ma2 s.boxes)), _, _, _, _, _, _, _] bN rfl rfl <| lp (pas rfl) rfl <| lp (pas rfl) rfl <| nt <| aE <| sr <| lp (pmv rfl) rfl <| lp (pne rfl) rfl <| nt <| aM rfl (congrArg not rfl) <| aI <| aC <| sr <| lr (ral 0 bI rfl) rfl <| lp (pfa bJ 14 rfl) rfl <| lx rfl <| fst 7 [_, _, _, _, _, _, _, (g1, Ce 124 (tc { T with m := { T.m with words := (casM T.m (nodeS T.c T.th.item T.th.node) 0 (firstS T.t)).words } } { s with words := ma2, boxes := s.boxes }))] bN rfl rfl <| lp (pfa aN 16 rfl) rfl <| lp (pfa bG 16 rfl) rfl <| lx rfl <| fst 7 [_, _, _, _, _, _, _, (g1, Ce 124 (tc { T with m := { T.m with words := (casM T.m (nodeS T.c T.th.item T.th.node) 0 (firstS T.t)).words }, th := { T.th with ph := 4 } } { s with words := ma2, boxes := s.boxes }))] cG rfl rfl <| nt <| aE <| sr <| lp (pmv rfl) rfl <| nt ?_
  by_cases c5 : T.m.get (nodeS T.c T.th.item T.th.node) = 0
  refine aQ rfl (aA c5) <| sr <| lr (rce 2 (.func (.func 93) #[] #[]) kP rfl) rfl <| lr (ral 7 aL rfl) rfl <| lx rfl <| bV [.agg (tc { T with m := { T.m with words := (casM T.m (nodeS T.c T.th.item T.th.node) 0 (firstS T.t)).words }, th := { T.th with ph := 4 } } { s with words := ma2, boxes := s.boxes })] _ fn93 rfl rfl rfl rfl rfl [.agg (tc { T with m := { T.m with words := (casM T.m (nodeS T.c T.th.item T.th.node) 0 (firstS T.t)).words }, th := { T.th with ph := 4 } } { s with words := ma2, boxes := s.boxes })] rfl (fun W k => taken_is _ { s with words := ma2, boxes := s.boxes } { T with m := { T.m with words := (casM T.m (nodeS T.c T.th.item T.th.node) 0 (firstS T.t)).words }, th := { T.th with ph := 4 } } W k.cx ⟨k.kn.here.1, k.kn.here.2.boxes, k.kn.here.2.batch, k.kn.here.2.kids, k.kn.here.2.held, k.kn.here.2.tl, k.kn.here.2.log⟩ (Nat.le_trans hw.he (by omega))) ?_
  rintro _ _ W9 k ⟨s3, T3, hT3, rfl, hR3, hb5⟩
  refine nx ((k.call hb5).and hR3.kn) <| lx rfl <| ffl 1 [_, (g9, Ce 124 (tc T3 s3)), _, _, _, _, _, _] aZ rfl rfl <| nt <| aF (aS ?_)
  refine aG _ (res1 rfl (aO 1 37 aL rfl rfl rfl)) (fun W k => ?_)
  refine nx k <| lx rfl <| ffl 6 [_, _, _, _, _, _, (g2, Ce 124 (tc T3 s3)), _] aZ rfl rfl <| lp (pas rfl) rfl <| nt <| aF (aS (bD (aS ?_)))
  refine aG _ (res2 rfl (aO 6 37 aL rfl rfl rfl) (aD rfl)) (fun W k => ?_)
  rw [show ((decide (T.th.ph = 4 ∨ T.th.ph = 6 ∨ T.th.ph = 5))) = true by simp [c1, c2, c4, c5]]
  exact RetB.of (by rw [hT3]; simp only [climbP, if_neg c1, if_neg c2, if_pos c4] <;> first | rfl | (simp [climbS, joinS, takeS, clookS, casM, c1, c2, c4, c5]; done) | (simp [climbS, joinS, takeS, clookS, casM, c1, c2, c4, c5]; rfl)) k.kn.here.1.weak k.below
  refine aM rfl (aB c5) <| aI <| aC <| sr <| lr (ral 7 aL rfl) rfl <| lx rfl <| ffl 1 [_, (g9, Ce 124 (tc { T with m := { T.m with words := (casM T.m (nodeS T.c T.th.item T.th.node) 0 (firstS T.t)).words }, th := { T.th with ph := 4 } } { s with words := ma2, boxes := s.boxes })), _, _, _, _, _, _] aZ rfl rfl <| nt <| aF <| aG _ (res1 rfl (aO 1 37 aL rfl rfl rfl)) (fun W k => ?_)
  refine nx k <| lx rfl <| ffl 6 [_, _, _, _, _, _, (g2, Ce 124 (tc { T with m := { T.m with words := (casM T.m (nodeS T.c T.th.item T.th.node) 0 (firstS T.t)).words }, th := { T.th with ph := 4 } } { s with words := ma2, boxes := s.boxes })), _] aZ rfl rfl <| lp (pas rfl) rfl <| nt <| aF (aS (bD (aS ?_)))
  refine aG _ (res2 rfl (aO 6 37 aL rfl rfl rfl) (aD rfl)) (fun W k => ?_)
  rw [show ((decide (T.th.ph = 4 ∨ T.th.ph = 6 ∨ T.th.ph = 5))) = true by simp [c1, c2, c4, c5]]
  exact RetB.of (by simp only [climbP, if_neg c1, if_neg c2, if_pos c4] <;> first | rfl | (simp [climbS, joinS, takeS, clookS, casM, c1, c2, c4, c5]; done) | (simp [climbS, joinS, takeS, clookS, casM, c1, c2, c4, c5]; rfl)) ⟨k.kn.here.1.weak, k.kn.here.2.boxes.weak, k.kn.here.2.batch.weak, k.kn.here.2.kids.weak, k.kn.here.2.held.weak, k.kn.here.2.tl.weak, k.kn.here.2.log.weak⟩ k.below
  refine aM rfl (aB c4) <| aI <| aC <| aX <| aV rfl <| aK <| aV rfl <| aK <| aV rfl <| aK <| aY <| aC <| sr <| lr (ral 5 aL rfl) rfl <| lx rfl <| ffl 4 [_, _, _, _, (g2, Ce 124 (tc T s)), _] aZ rfl rfl <| lp (pas rfl) rfl <| nt <| aF <| aG _ (res2 rfl (aO 4 37 aL rfl rfl rfl) (aD rfl)) (fun W k => ?_)
  rw [show ((decide (T.th.ph = 4 ∨ T.th.ph = 6 ∨ T.th.ph = 5))) = false by simp [c1, c2, c4]]
  exact RetB.of (by simp only [climbP, if_neg c1, if_neg c2, if_neg c4] <;> first | rfl | (simp [climbS, joinS, takeS, clookS, casM, c1, c2, c4]; done) | (simp [climbS, joinS, takeS, clookS, casM, c1, c2, c4]; rfl)) k.kn.here.weak k.below
theorem jI : fnB Tryz.prog 136 = true := by kernel_rfl
theorem rQ : fnB Tryz.prog 137 = true := by kernel_rfl
theorem eJ : foB Tryz.prog 84 12 13 = true := by kernel_rfl
theorem iA : fnB Tryz.prog 138 = true := by kernel_rfl
theorem oR : fnB Tryz.prog 140 = true := by kernel_rfl
theorem kQ : fnB Tryz.prog 139 = true := by kernel_rfl
theorem kR : fnB Tryz.prog 150 = true := by kernel_rfl
theorem mE : fnB Tryz.prog 145 = true := by kernel_rfl
theorem mF : fnB Tryz.prog 144 = true := by kernel_rfl
theorem oS : fnB Tryz.prog 141 = true := by kernel_rfl
theorem pI : zeroB Tryz.prog 81 (#[.slice none 0 0]) := by unfold zeroB; kernel_rfl
theorem rR : fnB Tryz.prog 142 = true := by kernel_rfl
theorem oT : fnB Tryz.prog 143 = true := by kernel_rfl
theorem fn99 : fnB Tryz.prog 99 = true := by kernel_rfl
theorem rS : fnB Tryz.prog 121 = true := by kernel_rfl
theorem rT : fnB Tryz.prog 122 = true := by kernel_rfl
theorem rU : fnB Tryz.prog 123 = true := by kernel_rfl
theorem rV : fnB Tryz.prog 124 = true := by kernel_rfl
theorem rW : fnB Tryz.prog 125 = true := by kernel_rfl
theorem rX : fnB Tryz.prog 126 = true := by kernel_rfl
theorem held_is (L : Nat → Prop) (s : Sl) (T : Tn) (hw : TnOk T) (ha : 0 ≤ T.th.at_ ∧ T.th.at_ < T.th.held.length) (w : World) (cx : Cx L w) (hr : RT L s T w) : Calls Tryz.prog 136 [.agg (tc T s)].toArray w (fun e w' => e = .returned (I (heldS T)) ∧ Below w.heap.size w w') := by
  have hc := hw.c
  refine ent 31 Tryz.func136 rfl (Kb.start cx (RTL.kn0 hr)) <| sr <| lx rfl <| fba rfl fun g1 => ?_
  refine lp (pas rfl) rfl <| nt <| aE <| sr <| lp (pfa aN 16 rfl) rfl <| lp (pfa cK 25 rfl) rfl <| lr (rce 0 (I T.th.at_) aJ rfl) rfl <| lp (pls rfl) rfl <| lp (pmv rfl) rfl <| gp (wi rfl (aB (by omega)) rfl) (pfa aN 16 rfl) rfl <| gp (wi rfl (aB (by omega)) rfl) (pfa cK 25 rfl) rfl <| gr (wi rfl (aB (by omega)) rfl) (rce 0 (I T.th.at_) aJ rfl) rfl <| gp (wi rfl (aB (by omega)) rfl) (pfa aN 16 rfl) rfl <| gp (wi rfl (aB (by omega)) rfl) (pfa fJ 22 rfl) rfl <| gr (wi rfl (aB (by omega)) rfl) (rce 0 (.slice s.held.A T.th.held.length s.held.c) bX rfl) rfl <| gp (wi rfl (aB (by omega)) rfl) (pln fP rfl) rfl <| gp (wi rfl (aB (by omega)) rfl) (pge rfl) rfl <| lp (ppf (aB (by omega)) rfl) rfl <| nt <| aM rfl (aB (by omega)) <| aI <| aC <| aE <| dst [] <| dp 0 rfl (pfa bK 0 rfl) <| dp 2 rfl (pfa aN 16 rfl) <| dp 3 rfl (pfa eI 17 rfl) <| dp 5 rfl (pfa aN 16 rfl) <| dp 6 rfl (pfa fJ 22 rfl) <| dp 8 rfl (pfa aN 16 rfl) <| dp 9 rfl (pfa cK 25 rfl) <| dr 1 rfl (fun _ h => h) (rro 0 T.c.cells bM rfl) <| dr 4 rfl (fun _ h => h) (rce 0 (I T.th.item) aJ rfl) <| dr 7 rfl (fun _ h => h) (rce 0 (.slice s.held.A T.th.held.length s.held.c) bX rfl) <| dr 10 rfl (fun _ h => h) (rce 0 (I T.th.at_) aJ rfl) <| bP (fun W k => RS.addr k.kn.here.held (by simp only [List.length_map, ecs_len, kcs_len, mcs_len]; omega)) ?_
  rintro ⟨B1, p1, hA1⟩
  refine dp 11 rfl (pix fW rfl hA1 (by omega) (by omega)) <| dr 12 rfl (fun _ h => h) (cA (I (T.th.held.getD (T.th.at_).toNat 0)) aJ rfl rfl (fun W k => RS.one k.kn.here.held hA1 _ (ints_at T.th.held _ (by omega) (by omega)))) <| dx 13 rfl <| fcv nV rfl (fun W k => node_is _ T.c hc T.th.item (T.th.held.getD (T.th.at_).toNat 0) W k.cx) (aH (fun _ h => h) ?_)
  refine dp 14 rfl (pas rfl) <| dd <| aC <| aF <| aG _ (res1 rfl (aD rfl)) (fun W k => ?_)
  exact ⟨rfl, k.below⟩
theorem next_is (L : Nat → Prop) (s : Sl) (T : Tn) (w : World) (cx : Cx L w) (hr : RT L s T w) (hx : 0 ≤ T.th.at_ ∧ T.th.at_ ≤ 100000) : Calls Tryz.prog 140 [.agg (tc T s)].toArray w (RetT L w (nextG T)) := by
  refine ent 11 Tryz.func140 rfl (Kb.start cx (RTL.kn0 hr)) <| sr <| lx rfl <| fba rfl fun g1 => ?_
  refine lx rfl <| fal bH rfl fun g2 => ?_
  refine nt <| sr <| lp (pfa aN 16 rfl) rfl <| lp (pfa cK 25 rfl) rfl <| lr (rce 1 (I T.th.at_) aJ rfl) rfl <| lp (pad (T.th.at_ + 1) (by unfold wrap64; omega) rfl) rfl <| lp (pfa aN 16 rfl) rfl <| lp (pfa cK 25 rfl) rfl <| lx rfl <| fst 1 [_, (g1, Ce 124 (tc { T with th := { T.th with at_ := T.th.at_ + 1 } } s))] cG rfl rfl <| nt <| sr <| lr (ral 1 aL rfl) rfl <| lx rfl <| fca oN rfl (fun W k => down_is _ s { T with th := { T.th with at_ := T.th.at_ + 1 } } W k.cx ⟨k.kn.here.words, k.kn.here.boxes, k.kn.here.batch, k.kn.here.kids, k.kn.here.held, k.kn.here.tl, k.kn.here.log⟩) ?_
  rintro _ _ W1 k ⟨s1, T1, hT1, rfl, hR1, hb1⟩
  refine nx ((k.call hb1).and hR1.kn) <| lx rfl <| ffl 0 [(g2, Ce 124 (tc T1 s1)), _] aZ rfl rfl <| nt <| aF <| aG _ (res1 rfl (aO 0 37 aL rfl rfl rfl)) (fun W k => ?_)
  exact RetT.of hT1 k.kn.here.1.weak k.below
theorem glook_is (L : Nat → Prop) (s : Sl) (T : Tn) (hw : TnOk T) (w : World) (cx : Cx L w) (hr : RT L s T w) (ha : 0 ≤ T.th.at_ ∧ T.th.at_ < T.th.held.length) (h0 : 0 ≤ heldS T) (h1 : heldS T < T.m.words.length) (hv : 0 ≤ T.m.get (heldS T) ∧ T.m.get (heldS T) ≤ 1000) : Calls Tryz.prog 121 [.agg (tc T s)].toArray w (RetT L w (gatherS T)) := by
  have hc := hw.c
  refine ent 35 Tryz.func121 rfl (Kb.start cx (RTL.kn0 hr)) <| sr <| lx rfl <| fba rfl fun g1 => ?_
  refine lx rfl <| fal bH rfl fun g2 => ?_
  refine nt <| aE <| dst [] <| dp 0 rfl (pfa bJ 14 rfl) <| dr 1 rfl (fun _ h => h) (rro 1 (mc T.m s.words s.boxes) bI rfl) <| dr 2 rfl (fun _ h => h) (ral 1 aL rfl) <| dx 3 rfl <| fcv jI rfl (fun W k => held_is _ s T hw ha W k.cx ⟨k.kn.here.words, k.kn.here.boxes, k.kn.here.batch, k.kn.here.kids, k.kn.here.held, k.kn.here.tl, k.kn.here.log⟩) (aH (fun _ h => h) ?_)
  refine dx 4 rfl <| fcv jR rfl (fun W k => mload_is _ T.m s.words s.boxes (heldS T) W k.cx k.kn.here.words k.kn.here.boxes h0 h1 hw.hm) (aH (fun _ h => h) ?_)
  refine dp 5 rfl (pmv rfl) <| dp 6 rfl (pex rfl) <| dp 7 rfl (pex rfl) <| dp 8 rfl (pas rfl) <| dp 9 rfl (pas rfl) <| dd <| aC <| aE <| aP <| sr <| lp (pmv rfl) rfl <| lp (pne rfl) rfl <| lp (pas rfl) rfl <| nt <| aM rfl (congrArg not rfl) <| sr <| lp (pmv rfl) rfl <| lp (pfa cO 12 rfl) rfl <| lr (rce 1 (I T.t) aJ rfl) rfl <| lx rfl <| fcv mD rfl (fun W k => first_is T.t (by have := hw.t; have := hc.th; omega) W) <| lp (peq rfl) rfl <| lp (pas rfl) rfl <| nt ?_
  by_cases c1 : T.m.get (heldS T) = firstS T.t
  refine aQ rfl (aA c1) <| aU <| lp (pfa aN 16 rfl) rfl <| lp (pfa bG 16 rfl) rfl <| lx rfl <| fst 1 [_, (g1, Ce 124 (tc { T with th := { T.th with ph := 8 } } s))] cG rfl rfl <| bQ <| aW <| aC <| sr <| lr (ral 1 aL rfl) rfl <| lx rfl <| ffl 0 [(g2, Ce 124 (tc { T with th := { T.th with ph := 8 } } s)), _] aZ rfl rfl <| nt <| aF <| aG _ (res1 rfl (aO 0 37 aL rfl rfl rfl)) (fun W k => ?_)
  exact RetT.of (by first | rfl | (simp [gatherS, casM, Mem.set, c1]; done) | (simp [gatherS, casM, Mem.set, c1]; rfl)) k.kn.here.weak k.below
  refine aM rfl (aB c1) <| sr <| lp (pmv rfl) rfl <| lx rfl <| fcv oP rfl (fun W k => kind_is _ (T.m.get (heldS T)) hv W k.cx) <| lp (peq rfl) rfl <| lp (pas rfl) rfl <| nt ?_
  by_cases c2 : kindS (T.m.get (heldS T)) = 3
  refine aQ rfl (aA c2) <| aU <| lp (pmv rfl) rfl <| lx rfl <| fcv rQ rfl (fun W k => who_is _ (T.m.get (heldS T)) hv W k.cx) <| lp (pfa aN 16 rfl) rfl <| lp (pfa eJ 29 rfl) rfl <| lx rfl <| fst 1 [_, (g1, Ce 124 (tc { T with th := { T.th with who := whoS (T.m.get (heldS T)) } } s))] cG rfl rfl <| lp (pfa aN 16 rfl) rfl <| lp (pfa bG 16 rfl) rfl <| lx rfl <| fst 1 [_, (g1, Ce 124 (tc { T with th := { T.th with who := whoS (T.m.get (heldS T)), ph := 9 } } s))] cG rfl rfl <| bQ <| aW <| aC <| sr <| lr (ral 1 aL rfl) rfl <| lx rfl <| ffl 0 [(g2, Ce 124 (tc { T with th := { T.th with who := whoS (T.m.get (heldS T)), ph := 9 } } s)), _] aZ rfl rfl <| nt <| aF <| aG _ (res1 rfl (aO 0 37 aL rfl rfl rfl)) (fun W k => ?_)
  exact RetT.of (by first | rfl | (simp [gatherS, casM, Mem.set, c1, c2]; done) | (simp [gatherS, casM, Mem.set, c1, c2]; rfl)) k.kn.here.weak k.below
  refine aM rfl (aB c2) <| aI <| aW <| aC <| sr <| lr (ral 1 aL rfl) rfl <| lx rfl <| ffl 0 [(g2, Ce 124 (tc T s)), _] aZ rfl rfl <| nt <| aF <| aG _ (res1 rfl (aO 0 37 aL rfl rfl rfl)) (fun W k => ?_)
  exact RetT.of (by first | rfl | (simp [gatherS, casM, Mem.set, c1, c2]; done) | (simp [gatherS, casM, Mem.set, c1, c2]; rfl)) k.kn.here.weak k.below
theorem shut_is (L : Nat → Prop) (s : Sl) (T : Tn) (hw : TnOk T) (w : World) (cx : Cx L w) (hr : RT L s T w) (ha : 0 ≤ T.th.at_ ∧ T.th.at_ < T.th.held.length) (h0 : 0 ≤ heldS T) (h1 : heldS T < T.m.words.length) : Calls Tryz.prog 122 [.agg (tc T s)].toArray w (RetT L w (closeS T)) := by
  have hc := hw.c
  have hat : 0 ≤ T.th.at_ ∧ T.th.at_ ≤ 100000 := ⟨ha.1, by have := hw.he; omega⟩
  refine ent 29 Tryz.func122 rfl (Kb.start cx (RTL.kn0 hr)) <| sr <| lx rfl <| fba rfl fun g1 => ?_
  refine lx rfl <| fal bH rfl fun g2 => ?_
  refine nt <| aE <| cJ (σ := Hd × Nat) (fun x1 => [(1, .pointer (some ⟨g1, 0, none⟩)), (2, .pointer (some ⟨g2, 0, none⟩)), (3, .pointer (some ⟨x1.2, 0, none⟩)), (4, .bool (decide (T.m.get (heldS T) = firstS T.t))), (5, I 0)]) (fun x1 => [(x1.2, Ce 32 (mc { T.m with words := (casM T.m (heldS T) (firstS T.t) 0).words } x1.1 s.boxes)), (g2, Ce 124 (tc tn0 sl0)), (g1, Ce 124 (tc T s))]) (fun x1 F O W => RS (Av L O) x1.1 ({ T.m with words := (casM T.m (heldS T) (firstS T.t) 0).words }).words.length (({ T.m with words := (casM T.m (heldS T) (firstS T.t) 0).words }).words.map I) W ∧ F O W) ?_ ?_
  refine dst [13] <| dp 0 rfl (pfa bJ 14 rfl) <| dp 4 rfl (pfa cO 12 rfl) <| dr 1 rfl (fun _ h => h) (rro 1 (mc T.m s.words s.boxes) bI rfl) <| dr 2 rfl (fun _ h => h) (ral 1 aL rfl) <| dr 5 rfl (fun _ h => h) (rce 1 (I T.t) aJ rfl) <| d2 3 12 rfl ?_ ?_
  refine fcv jI rfl (fun W k => held_is _ s T hw ha W k.cx ⟨k.kn.here.words, k.kn.here.boxes, k.kn.here.batch, k.kn.here.kids, k.kn.here.held, k.kn.here.tl, k.kn.here.log⟩) (aH (fun _ h => h) ?_)
  refine d2 6 12 rfl ?_ ?_
  refine fcv mD rfl (fun W k => first_is T.t (by have := hw.t; have := hc.th; omega) W) (aH (fun _ h => h) ?_)
  refine d2 7 12 rfl ?_ ?_
  refine fca eQ rfl (fun W k => mcas_is' _ T.m s.words s.boxes (heldS T) (firstS T.t) 0 W k.cx k.kn.here.words k.kn.here.boxes h0 h1 hw.hm) ?_
  rintro _ _ W1_7a k ⟨ma1_7a, rfl, hr1_7a, hb1_7a⟩
  refine nx ((k.call hb1_7a).and hr1_7a.kn) (aH (fun _ h => h.drop) ?_)
  refine dp 8 rfl (pmv rfl) <| dp 9 rfl (pex rfl) <| dp 10 rfl (pex rfl) <| dp 11 rfl (pex rfl) <| dx 12 rfl <| fal bF rfl fun g1_12a => ?_
  refine aH (fun _ h => (h.leave 0).drop) <| dl 13 rfl <| ffl 0 [(g1_12a, Ce 32 (mc { T.m with words := (casM T.m (heldS T) (firstS T.t) 0).words } ma1_7a s.boxes)), _, _] bN rfl rfl <| dp 14 rfl (pas rfl) <| dp 15 rfl (pas rfl) <| dd ?_
  exact bE (σ := Hd × Nat) (ma1_7a, g1_12a) ⟨rfl, rfl, rfl, rfl, rfl, trivial⟩ (fun W k => (k.re fun O W h => ⟨h.1, h.2⟩))
  refine fal bF rfl fun g1_12a => ?_
  refine aH (fun _ h => (h.leave 0)) <| dx 7 rfl <| fca eQ rfl (fun W k => mcas_is' _ T.m s.words s.boxes (heldS T) (firstS T.t) 0 W k.cx k.kn.here.words k.kn.here.boxes h0 h1 hw.hm) ?_
  rintro _ _ W1_7a k ⟨ma1_7a, rfl, hr1_7a, hb1_7a⟩
  refine nx ((k.call hb1_7a).and hr1_7a.kn) (aH (fun _ h => (h.leave 0).drop) ?_)
  refine dp 8 rfl (pmv rfl) <| dp 9 rfl (pex rfl) <| dp 10 rfl (pex rfl) <| dp 11 rfl (pex rfl) <| dl 13 rfl <| ffl 0 [(g1_12a, Ce 32 (mc { T.m with words := (casM T.m (heldS T) (firstS T.t) 0).words } ma1_7a s.boxes)), _, _] bN rfl rfl <| dp 14 rfl (pas rfl) <| dp 15 rfl (pas rfl) <| dd ?_
  exact bE (σ := Hd × Nat) (ma1_7a, g1_12a) ⟨rfl, rfl, rfl, rfl, rfl, trivial⟩ (fun W k => (k.re fun O W h => ⟨h.1, h.2⟩))
  refine fal bF rfl fun g1_12a => ?_
  refine aH (fun _ h => (h.leave 0)) <| dx 6 rfl <| fcv mD rfl (fun W k => first_is T.t (by have := hw.t; have := hc.th; omega) W) (aH (fun _ h => (h.leave 0)) ?_)
  refine dx 7 rfl <| fca eQ rfl (fun W k => mcas_is' _ T.m s.words s.boxes (heldS T) (firstS T.t) 0 W k.cx k.kn.here.words k.kn.here.boxes h0 h1 hw.hm) ?_
  rintro _ _ W1_7a k ⟨ma1_7a, rfl, hr1_7a, hb1_7a⟩
  refine nx ((k.call hb1_7a).and hr1_7a.kn) (aH (fun _ h => (h.leave 0).drop) ?_)
  refine dp 8 rfl (pmv rfl) <| dp 9 rfl (pex rfl) <| dp 10 rfl (pex rfl) <| dp 11 rfl (pex rfl) <| dl 13 rfl <| ffl 0 [(g1_12a, Ce 32 (mc { T.m with words := (casM T.m (heldS T) (firstS T.t) 0).words } ma1_7a s.boxes)), _, _] bN rfl rfl <| dp 14 rfl (pas rfl) <| dp 15 rfl (pas rfl) <| dd ?_
  exact bE (σ := Hd × Nat) (ma1_7a, g1_12a) ⟨rfl, rfl, rfl, rfl, rfl, trivial⟩ (fun W k => (k.re fun O W h => ⟨h.1, h.2⟩))
  refine fal bF rfl fun g1_12a => ?_
  refine aH (fun _ h => (h.leave 0)) <| dx 3 rfl <| fcv jI rfl (fun W k => held_is _ s T hw ha W k.cx ⟨k.kn.here.words, k.kn.here.boxes, k.kn.here.batch, k.kn.here.kids, k.kn.here.held, k.kn.here.tl, k.kn.here.log⟩) (aH (fun _ h => (h.leave 0)) ?_)
  refine dx 6 rfl <| fcv mD rfl (fun W k => first_is T.t (by have := hw.t; have := hc.th; omega) W) (aH (fun _ h => (h.leave 0)) ?_)
  refine dx 7 rfl <| fca eQ rfl (fun W k => mcas_is' _ T.m s.words s.boxes (heldS T) (firstS T.t) 0 W k.cx k.kn.here.words k.kn.here.boxes h0 h1 hw.hm) ?_
  rintro _ _ W1_7a k ⟨ma1_7a, rfl, hr1_7a, hb1_7a⟩
  refine nx ((k.call hb1_7a).and hr1_7a.kn) (aH (fun _ h => (h.leave 0).drop) ?_)
  refine dp 8 rfl (pmv rfl) <| dp 9 rfl (pex rfl) <| dp 10 rfl (pex rfl) <| dp 11 rfl (pex rfl) <| dl 13 rfl <| ffl 0 [(g1_12a, Ce 32 (mc { T.m with words := (casM T.m (heldS T) (firstS T.t) 0).words } ma1_7a s.boxes)), _, _] bN rfl rfl <| dp 14 rfl (pas rfl) <| dp 15 rfl (pas rfl) <| dd ?_
  exact bE (σ := Hd × Nat) (ma1_7a, g1_12a) ⟨rfl, rfl, rfl, rfl, rfl, trivial⟩ (fun W k => (k.re fun O W h => ⟨h.1, h.2⟩))
  intro x1
  refine aC <| aE <| sr <| lp (pmv rfl) rfl <| lp (pno rfl) rfl <| nt ?_
  by_cases c1 : T.m.get (heldS T) = firstS T.t
  refine aM rfl (congrArg not (aA c1)) <| aI <| aC <| sr <| lr (ral 2 aL rfl) rfl <| lr (ral 0 bI rfl) rfl <| lp (pmv rfl) rfl <| lx rfl <| fin iA rfl (fun W k => ?_)
  refine ent 17 Tryz.func138 rfl k <| sr <| lx rfl <| fba rfl fun g3 => ?_
  refine lx rfl <| fba rfl fun g4 => ?_
  refine lx rfl <| fal bH rfl fun g5 => ?_
  refine nt <| aE <| sr <| lp (pmv rfl) rfl <| lp (pne rfl) rfl <| nt <| aM rfl (congrArg not rfl) <| aI <| aC <| sr <| lr (ral 1 bI rfl) rfl <| lp (pfa bJ 14 rfl) rfl <| lx rfl <| fst 2 [_, _, (g3, Ce 124 (tc { T with m := { T.m with words := (casM T.m (heldS T) (firstS T.t) 0).words } } { s with words := x1.1, boxes := s.boxes })), _, _, _] bN rfl rfl <| nt <| sr <| lp (pmv rfl) rfl <| lr (ral 2 aL rfl) rfl <| lx rfl <| bV [.agg (tc { T with m := { T.m with words := (casM T.m (heldS T) (firstS T.t) 0).words } } { s with words := x1.1, boxes := s.boxes })] _ oR rfl rfl rfl rfl rfl [.agg (tc { T with m := { T.m with words := (casM T.m (heldS T) (firstS T.t) 0).words } } { s with words := x1.1, boxes := s.boxes })] rfl (fun W k => next_is _ { s with words := x1.1, boxes := s.boxes } { T with m := { T.m with words := (casM T.m (heldS T) (firstS T.t) 0).words } } W k.cx ⟨k.kn.here.1, k.kn.here.2.boxes, k.kn.here.2.batch, k.kn.here.2.kids, k.kn.here.2.held, k.kn.here.2.tl, k.kn.here.2.log⟩ hat) ?_
  rintro _ _ W1 k ⟨s1, T1, hT1, rfl, hR1, hb1⟩
  refine nx ((k.call hb1).and hR1.kn) <| lx rfl <| ffl 0 [(g5, Ce 124 (tc T1 s1)), _, _, _, _, _] aZ rfl rfl <| nt <| aF <| aG _ (res1 rfl (aO 0 37 aL rfl rfl rfl)) (fun W k => ?_)
  refine nx k <| lx rfl <| ffl 4 [_, _, _, _, (g2, Ce 124 (tc T1 s1)), _] aZ rfl rfl <| nt <| aF <| aG _ (res1 rfl (aO 4 37 aL rfl rfl rfl)) (fun W k => ?_)
  exact RetT.of (by rw [hT1]; first | rfl | (simp [closeS, casM, Mem.set, c1]; done) | (simp [closeS, casM, Mem.set, c1]; rfl)) k.kn.here.1.weak k.below
  refine aQ rfl (congrArg not (aB c1)) <| aE <| dst [5] <| dp 2 rfl (pmv rfl) <| dr 0 rfl (fun _ h => h) (ral 2 aL rfl) <| dr 1 rfl (fun _ h => h) (ral 0 bI rfl) <| dx 3 rfl <| fin kQ rfl (fun W k => ?_)
  refine ent 4 Tryz.func139 rfl k <| sr <| lx rfl <| bC (#[I 7]) rfl rfl rfl rfl rfl fun g6 => ?_
  refine lp (pas rfl) rfl <| nt <| sr <| lp (cE rfl rfl rfl) rfl <| lp (pas rfl) rfl <| nt <| aF <| aG _ (res1 rfl (aD rfl)) (fun W k => ?_)
  refine nx k (aH (fun _ h => (h.leave 0)) ?_)
  refine dx 4 rfl <| fin iA rfl (fun W k => ?_)
  refine ent 17 Tryz.func138 rfl k <| sr <| lx rfl <| fba rfl fun g7 => ?_
  refine lx rfl <| fba rfl fun g8 => ?_
  refine lx rfl <| fal bH rfl fun g9 => ?_
  refine nt <| aE <| sr <| lp (pmv rfl) rfl <| lp (pne rfl) rfl <| nt <| aM rfl (congrArg not rfl) <| aI <| aC <| sr <| lr (ral 1 bI rfl) rfl <| lp (pfa bJ 14 rfl) rfl <| lx rfl <| fst 2 [_, _, (g7, Ce 124 (tc { T with m := { T.m with words := (casM T.m (heldS T) (firstS T.t) 0).words } } { s with words := x1.1, boxes := s.boxes })), _, _, _, _] bN rfl rfl <| nt <| sr <| lp (pmv rfl) rfl <| lr (ral 2 aL rfl) rfl <| lx rfl <| cB [.agg (tc { T with m := { T.m with words := (casM T.m (heldS T) (firstS T.t) 0).words } } { s with words := x1.1, boxes := s.boxes })] kR rfl rfl rfl rfl rfl [.agg (tc { T with m := { T.m with words := (casM T.m (heldS T) (firstS T.t) 0).words } } { s with words := x1.1, boxes := s.boxes }), .pointer (some ⟨g6, 0, none⟩)] rfl (fun W k => ?_)
  refine ent 8 Tryz.func150 rfl k <| sr <| lx rfl <| fba rfl fun g10 => ?_
  refine lx rfl <| fal bH rfl fun g11 => ?_
  refine nt <| sr <| lr (rce 5 (I 7) aJ rfl) rfl <| lp (pfa aN 16 rfl) rfl <| lp (pfa bG 16 rfl) rfl <| lx rfl <| fst 1 [_, (g10, Ce 124 (tc { T with m := { T.m with words := (casM T.m (heldS T) (firstS T.t) 0).words }, th := { T.th with ph := 7 } } { s with words := x1.1, boxes := s.boxes })), _, _, _, _, _, _, _] cG rfl rfl <| nt <| sr <| lr (ral 1 aL rfl) rfl <| lx rfl <| ffl 0 [(g11, Ce 124 (tc { T with m := { T.m with words := (casM T.m (heldS T) (firstS T.t) 0).words }, th := { T.th with ph := 7 } } { s with words := x1.1, boxes := s.boxes })), _, _, _, _, _, _, _, _] aZ rfl rfl <| nt <| aF <| aG _ (res1 rfl (aO 0 37 aL rfl rfl rfl)) (fun W k => ?_)
  refine nx k <| lx rfl <| ffl 2 [_, _, (g9, Ce 124 (tc { T with m := { T.m with words := (casM T.m (heldS T) (firstS T.t) 0).words }, th := { T.th with ph := 7 } } { s with words := x1.1, boxes := s.boxes })), _, _, _, _, _, _] aZ rfl rfl <| nt <| aF <| aG _ (res1 rfl (aO 2 37 aL rfl rfl rfl)) (fun W k => ?_)
  refine nx k (aH (fun _ h => ((((((h.leave 0).leave 0).leave 0).leave 0).leave 0).leave 0)) ?_)
  refine dl 5 rfl <| ffl 7 [_, _, _, _, _, _, _, (g2, Ce 124 (tc { T with m := { T.m with words := (casM T.m (heldS T) (firstS T.t) 0).words }, th := { T.th with ph := 7 } } { s with words := x1.1, boxes := s.boxes })), _] aZ rfl rfl <| dd <| aC <| aF (aS ?_)
  refine aG _ (res1 rfl (aO 7 37 aL rfl rfl rfl)) (fun W k => ?_)
  exact RetT.of (by first | rfl | (simp [closeS, casM, Mem.set, c1]; done) | (simp [closeS, casM, Mem.set, c1]; rfl)) ⟨k.kn.here.1.weak, k.kn.here.2.boxes.weak, k.kn.here.2.batch.weak, k.kn.here.2.kids.weak, k.kn.here.2.held.weak, k.kn.here.2.tl.weak, k.kn.here.2.log.weak⟩ k.below
theorem free_is (L : Nat → Prop) (s : Sl) (T : Tn) (hw : TnOk T) (w : World) (cx : Cx L w) (hr : RT L s T w) (ha : 0 ≤ T.th.at_ ∧ T.th.at_ < T.th.held.length) (h0 : 0 ≤ heldS T) (h1 : heldS T < T.m.words.length) : Calls Tryz.prog 124 [.agg (tc T s)].toArray w (RetT L w (freeS T)) := by
  have hc := hw.c
  have hat : 0 ≤ T.th.at_ ∧ T.th.at_ ≤ 100000 := ⟨ha.1, by have := hw.he; omega⟩
  refine ent 17 Tryz.func124 rfl (Kb.start cx (RTL.kn0 hr)) <| sr <| lx rfl <| fba rfl fun g1 => ?_
  refine lx rfl <| fal bH rfl fun g2 => ?_
  refine nt <| aE <| cJ (σ := Hd × Nat) (fun x1 => [(1, .pointer (some ⟨g1, 0, none⟩)), (2, .pointer (some ⟨g2, 0, none⟩)), (3, .pointer (some ⟨x1.2, 0, none⟩)), (4, I 0)]) (fun x1 => [(x1.2, Ce 32 (mc (T.m.set (heldS T) 0) x1.1 s.boxes)), (g2, Ce 124 (tc tn0 sl0)), (g1, Ce 124 (tc T s))]) (fun x1 F O W => RS (Av L O) x1.1 (T.m.set (heldS T) 0).words.length ((T.m.set (heldS T) 0).words.map I) W ∧ F O W) ?_ ?_
  refine dst [9] <| dp 0 rfl (pfa bJ 14 rfl) <| dr 1 rfl (fun _ h => h) (rro 1 (mc T.m s.words s.boxes) bI rfl) <| dr 2 rfl (fun _ h => h) (ral 1 aL rfl) <| d2 3 8 rfl ?_ ?_
  refine fcv jI rfl (fun W k => held_is _ s T hw ha W k.cx ⟨k.kn.here.words, k.kn.here.boxes, k.kn.here.batch, k.kn.here.kids, k.kn.here.held, k.kn.here.tl, k.kn.here.log⟩) (aH (fun _ h => h) ?_)
  refine d2 4 8 rfl ?_ ?_
  refine fca dR rfl (fun W k => mstore_is _ T.m s.words s.boxes (heldS T) 0 W k.cx k.kn.here.words k.kn.here.boxes h0 h1 hw.hm) ?_
  rintro _ _ W1_4a k ⟨ma1_4a, rfl, hr1_4a, hb1_4a⟩
  refine nx ((k.call hb1_4a).and hr1_4a.kn) (aH (fun _ h => h.drop) ?_)
  refine dp 5 rfl (pmv rfl) <| dp 6 rfl (pex rfl) <| dp 7 rfl (pex rfl) <| dx 8 rfl <| fal bF rfl fun g1_8a => ?_
  refine aH (fun _ h => (h.leave 0).drop) <| dl 9 rfl <| ffl 0 [(g1_8a, Ce 32 (mc (T.m.set (heldS T) 0) ma1_4a s.boxes)), _, _] bN rfl rfl <| dp 10 rfl (pas rfl) <| dd ?_
  exact bE (σ := Hd × Nat) (ma1_4a, g1_8a) ⟨rfl, rfl, rfl, rfl, trivial⟩ (fun W k => (k.re fun O W h => ⟨h.1, h.2⟩))
  refine fal bF rfl fun g1_8a => ?_
  refine aH (fun _ h => (h.leave 0)) <| dx 4 rfl <| fca dR rfl (fun W k => mstore_is _ T.m s.words s.boxes (heldS T) 0 W k.cx k.kn.here.words k.kn.here.boxes h0 h1 hw.hm) ?_
  rintro _ _ W1_4a k ⟨ma1_4a, rfl, hr1_4a, hb1_4a⟩
  refine nx ((k.call hb1_4a).and hr1_4a.kn) (aH (fun _ h => (h.leave 0).drop) ?_)
  refine dp 5 rfl (pmv rfl) <| dp 6 rfl (pex rfl) <| dp 7 rfl (pex rfl) <| dl 9 rfl <| ffl 0 [(g1_8a, Ce 32 (mc (T.m.set (heldS T) 0) ma1_4a s.boxes)), _, _] bN rfl rfl <| dp 10 rfl (pas rfl) <| dd ?_
  exact bE (σ := Hd × Nat) (ma1_4a, g1_8a) ⟨rfl, rfl, rfl, rfl, trivial⟩ (fun W k => (k.re fun O W h => ⟨h.1, h.2⟩))
  refine fal bF rfl fun g1_8a => ?_
  refine aH (fun _ h => (h.leave 0)) <| dx 3 rfl <| fcv jI rfl (fun W k => held_is _ s T hw ha W k.cx ⟨k.kn.here.words, k.kn.here.boxes, k.kn.here.batch, k.kn.here.kids, k.kn.here.held, k.kn.here.tl, k.kn.here.log⟩) (aH (fun _ h => (h.leave 0)) ?_)
  refine dx 4 rfl <| fca dR rfl (fun W k => mstore_is _ T.m s.words s.boxes (heldS T) 0 W k.cx k.kn.here.words k.kn.here.boxes h0 h1 hw.hm) ?_
  rintro _ _ W1_4a k ⟨ma1_4a, rfl, hr1_4a, hb1_4a⟩
  refine nx ((k.call hb1_4a).and hr1_4a.kn) (aH (fun _ h => (h.leave 0).drop) ?_)
  refine dp 5 rfl (pmv rfl) <| dp 6 rfl (pex rfl) <| dp 7 rfl (pex rfl) <| dl 9 rfl <| ffl 0 [(g1_8a, Ce 32 (mc (T.m.set (heldS T) 0) ma1_4a s.boxes)), _, _] bN rfl rfl <| dp 10 rfl (pas rfl) <| dd ?_
  exact bE (σ := Hd × Nat) (ma1_4a, g1_8a) ⟨rfl, rfl, rfl, rfl, trivial⟩ (fun W k => (k.re fun O W h => ⟨h.1, h.2⟩))
  intro x1
  refine aC <| sr <| lr (ral 2 aL rfl) rfl <| lr (ral 0 bI rfl) rfl <| lp (pmv rfl) rfl <| lx rfl <| fin iA rfl (fun W k => ?_)
  refine ent 17 Tryz.func138 rfl k <| sr <| lx rfl <| fba rfl fun g3 => ?_
  refine lx rfl <| fba rfl fun g4 => ?_
  refine lx rfl <| fal bH rfl fun g5 => ?_
  refine nt <| aE <| sr <| lp (pmv rfl) rfl <| lp (pne rfl) rfl <| nt <| aM rfl (congrArg not rfl) <| aI <| aC <| sr <| lr (ral 1 bI rfl) rfl <| lp (pfa bJ 14 rfl) rfl <| lx rfl <| fst 2 [_, _, (g3, Ce 124 (tc { T with m := T.m.set (heldS T) 0 } { s with words := x1.1, boxes := s.boxes })), _, _, _] bN rfl rfl <| nt <| sr <| lp (pmv rfl) rfl <| lr (ral 2 aL rfl) rfl <| lx rfl <| bV [.agg (tc { T with m := T.m.set (heldS T) 0 } { s with words := x1.1, boxes := s.boxes })] _ oR rfl rfl rfl rfl rfl [.agg (tc { T with m := T.m.set (heldS T) 0 } { s with words := x1.1, boxes := s.boxes })] rfl (fun W k => next_is _ { s with words := x1.1, boxes := s.boxes } { T with m := T.m.set (heldS T) 0 } W k.cx ⟨k.kn.here.1, k.kn.here.2.boxes, k.kn.here.2.batch, k.kn.here.2.kids, k.kn.here.2.held, k.kn.here.2.tl, k.kn.here.2.log⟩ hat) ?_
  rintro _ _ W1 k ⟨s1, T1, hT1, rfl, hR1, hb1⟩
  refine nx ((k.call hb1).and hR1.kn) <| lx rfl <| ffl 0 [(g5, Ce 124 (tc T1 s1)), _, _, _, _, _] aZ rfl rfl <| nt <| aF <| aG _ (res1 rfl (aO 0 37 aL rfl rfl rfl)) (fun W k => ?_)
  refine nx k <| lx rfl <| ffl 4 [_, _, _, _, (g2, Ce 124 (tc T1 s1)), _] aZ rfl rfl <| nt <| aF <| aG _ (res1 rfl (aO 4 37 aL rfl rfl rfl)) (fun W k => ?_)
  exact RetT.of (by rw [hT1]; first | rfl | (simp [freeS, casM, Mem.set]; done) | (simp [freeS, casM, Mem.set]; rfl)) k.kn.here.1.weak k.below
theorem deposit_is (L : Nat → Prop) (s : Sl) (T : Tn) (hw : TnOk T) (w : World) (cx : Cx L w) (hr : RT L s T w) (h0 : 0 ≤ nodeS T.c T.th.item T.th.stop) (h1 : nodeS T.c T.th.item T.th.stop < T.m.words.length) : Calls Tryz.prog 126 [.agg (tc T s)].toArray w (RetT L w (depositS T)) := by
  have hc := hw.c
  refine ent 28 Tryz.func126 rfl (Kb.start cx (RTL.kn0 hr)) <| sr <| lx rfl <| fba rfl fun g1 => ?_
  refine lx rfl <| fal bH rfl fun g2 => ?_
  refine nt <| aE <| cJ (σ := Hd × Nat) (fun x1 => [(1, .pointer (some ⟨g1, 0, none⟩)), (2, .pointer (some ⟨g2, 0, none⟩)), (3, .pointer (some ⟨x1.2, 0, none⟩)), (4, I 0)]) (fun x1 => [(x1.2, Ce 32 (mc (T.m.set (nodeS T.c T.th.item T.th.stop) (depositedS T.t)) x1.1 s.boxes)), (g2, Ce 124 (tc tn0 sl0)), (g1, Ce 124 (tc T s))]) (fun x1 F O W => RS (Av L O) x1.1 (T.m.set (nodeS T.c T.th.item T.th.stop) (depositedS T.t)).words.length ((T.m.set (nodeS T.c T.th.item T.th.stop) (depositedS T.t)).words.map I) W ∧ F O W) ?_ ?_
  refine dst [19] <| dp 0 rfl (pfa bJ 14 rfl) <| dp 2 rfl (pfa bK 0 rfl) <| dp 4 rfl (pfa aN 16 rfl) <| dp 5 rfl (pfa eI 17 rfl) <| dp 7 rfl (pfa aN 16 rfl) <| dp 8 rfl (pfa jQ 23 rfl) <| dp 11 rfl (pfa cO 12 rfl) <| dr 1 rfl (fun _ h => h) (rro 1 (mc T.m s.words s.boxes) bI rfl) <| dr 3 rfl (fun _ h => h) (rro 1 T.c.cells bM rfl) <| dr 6 rfl (fun _ h => h) (rce 1 (I T.th.item) aJ rfl) <| dr 9 rfl (fun _ h => h) (rce 1 (I T.th.stop) aJ rfl) <| dr 12 rfl (fun _ h => h) (rce 1 (I T.t) aJ rfl) <| d2 10 18 rfl ?_ ?_
  refine fcv nV rfl (fun W k => node_is _ T.c hc T.th.item T.th.stop W k.cx) (aH (fun _ h => h) ?_)
  refine d2 13 18 rfl ?_ ?_
  refine fcv mE rfl (fun W k => deposited_is T.t (by have := hw.t; have := hc.th; omega) W) (aH (fun _ h => h) ?_)
  refine d2 14 18 rfl ?_ ?_
  refine fca dR rfl (fun W k => mstore_is _ T.m s.words s.boxes (nodeS T.c T.th.item T.th.stop) (depositedS T.t) W k.cx k.kn.here.words k.kn.here.boxes h0 h1 hw.hm) ?_
  rintro _ _ W1_14a k ⟨ma1_14a, rfl, hr1_14a, hb1_14a⟩
  refine nx ((k.call hb1_14a).and hr1_14a.kn) (aH (fun _ h => h.drop) ?_)
  refine dp 15 rfl (pmv rfl) <| dp 16 rfl (pex rfl) <| dp 17 rfl (pex rfl) <| dx 18 rfl <| fal bF rfl fun g1_18a => ?_
  refine aH (fun _ h => (h.leave 0).drop) <| dl 19 rfl <| ffl 0 [(g1_18a, Ce 32 (mc (T.m.set (nodeS T.c T.th.item T.th.stop) (depositedS T.t)) ma1_14a s.boxes)), _, _] bN rfl rfl <| dp 20 rfl (pas rfl) <| dd ?_
  exact bE (σ := Hd × Nat) (ma1_14a, g1_18a) ⟨rfl, rfl, rfl, rfl, trivial⟩ (fun W k => (k.re fun O W h => ⟨h.1, h.2⟩))
  refine fal bF rfl fun g1_18a => ?_
  refine aH (fun _ h => (h.leave 0)) <| dx 14 rfl <| fca dR rfl (fun W k => mstore_is _ T.m s.words s.boxes (nodeS T.c T.th.item T.th.stop) (depositedS T.t) W k.cx k.kn.here.words k.kn.here.boxes h0 h1 hw.hm) ?_
  rintro _ _ W1_14a k ⟨ma1_14a, rfl, hr1_14a, hb1_14a⟩
  refine nx ((k.call hb1_14a).and hr1_14a.kn) (aH (fun _ h => (h.leave 0).drop) ?_)
  refine dp 15 rfl (pmv rfl) <| dp 16 rfl (pex rfl) <| dp 17 rfl (pex rfl) <| dl 19 rfl <| ffl 0 [(g1_18a, Ce 32 (mc (T.m.set (nodeS T.c T.th.item T.th.stop) (depositedS T.t)) ma1_14a s.boxes)), _, _] bN rfl rfl <| dp 20 rfl (pas rfl) <| dd ?_
  exact bE (σ := Hd × Nat) (ma1_14a, g1_18a) ⟨rfl, rfl, rfl, rfl, trivial⟩ (fun W k => (k.re fun O W h => ⟨h.1, h.2⟩))
  refine fal bF rfl fun g1_18a => ?_
  refine aH (fun _ h => (h.leave 0)) <| dx 13 rfl <| fcv mE rfl (fun W k => deposited_is T.t (by have := hw.t; have := hc.th; omega) W) (aH (fun _ h => (h.leave 0)) ?_)
  refine dx 14 rfl <| fca dR rfl (fun W k => mstore_is _ T.m s.words s.boxes (nodeS T.c T.th.item T.th.stop) (depositedS T.t) W k.cx k.kn.here.words k.kn.here.boxes h0 h1 hw.hm) ?_
  rintro _ _ W1_14a k ⟨ma1_14a, rfl, hr1_14a, hb1_14a⟩
  refine nx ((k.call hb1_14a).and hr1_14a.kn) (aH (fun _ h => (h.leave 0).drop) ?_)
  refine dp 15 rfl (pmv rfl) <| dp 16 rfl (pex rfl) <| dp 17 rfl (pex rfl) <| dl 19 rfl <| ffl 0 [(g1_18a, Ce 32 (mc (T.m.set (nodeS T.c T.th.item T.th.stop) (depositedS T.t)) ma1_14a s.boxes)), _, _] bN rfl rfl <| dp 20 rfl (pas rfl) <| dd ?_
  exact bE (σ := Hd × Nat) (ma1_14a, g1_18a) ⟨rfl, rfl, rfl, rfl, trivial⟩ (fun W k => (k.re fun O W h => ⟨h.1, h.2⟩))
  refine fal bF rfl fun g1_18a => ?_
  refine aH (fun _ h => (h.leave 0)) <| dx 10 rfl <| fcv nV rfl (fun W k => node_is _ T.c hc T.th.item T.th.stop W k.cx) (aH (fun _ h => (h.leave 0)) ?_)
  refine dx 13 rfl <| fcv mE rfl (fun W k => deposited_is T.t (by have := hw.t; have := hc.th; omega) W) (aH (fun _ h => (h.leave 0)) ?_)
  refine dx 14 rfl <| fca dR rfl (fun W k => mstore_is _ T.m s.words s.boxes (nodeS T.c T.th.item T.th.stop) (depositedS T.t) W k.cx k.kn.here.words k.kn.here.boxes h0 h1 hw.hm) ?_
  rintro _ _ W1_14a k ⟨ma1_14a, rfl, hr1_14a, hb1_14a⟩
  refine nx ((k.call hb1_14a).and hr1_14a.kn) (aH (fun _ h => (h.leave 0).drop) ?_)
  refine dp 15 rfl (pmv rfl) <| dp 16 rfl (pex rfl) <| dp 17 rfl (pex rfl) <| dl 19 rfl <| ffl 0 [(g1_18a, Ce 32 (mc (T.m.set (nodeS T.c T.th.item T.th.stop) (depositedS T.t)) ma1_14a s.boxes)), _, _] bN rfl rfl <| dp 20 rfl (pas rfl) <| dd ?_
  exact bE (σ := Hd × Nat) (ma1_14a, g1_18a) ⟨rfl, rfl, rfl, rfl, trivial⟩ (fun W k => (k.re fun O W h => ⟨h.1, h.2⟩))
  intro x1
  refine aC <| aE <| dst [5] <| dp 2 rfl (pmv rfl) <| dr 0 rfl (fun _ h => h) (ral 2 aL rfl) <| dr 1 rfl (fun _ h => h) (ral 0 bI rfl) <| dx 3 rfl <| fin kQ rfl (fun W k => ?_)
  refine ent 4 Tryz.func139 rfl k <| sr <| lx rfl <| bC (#[I 13]) rfl rfl rfl rfl rfl fun g3 => ?_
  refine lp (pas rfl) rfl <| nt <| sr <| lp (cE rfl rfl rfl) rfl <| lp (pas rfl) rfl <| nt <| aF <| aG _ (res1 rfl (aD rfl)) (fun W k => ?_)
  refine nx k (aH (fun _ h => (h.leave 0)) ?_)
  refine dx 4 rfl <| fin iA rfl (fun W k => ?_)
  refine ent 17 Tryz.func138 rfl k <| sr <| lx rfl <| fba rfl fun g4 => ?_
  refine lx rfl <| fba rfl fun g5 => ?_
  refine lx rfl <| fal bH rfl fun g6 => ?_
  refine nt <| aE <| sr <| lp (pmv rfl) rfl <| lp (pne rfl) rfl <| nt <| aM rfl (congrArg not rfl) <| aI <| aC <| sr <| lr (ral 1 bI rfl) rfl <| lp (pfa bJ 14 rfl) rfl <| lx rfl <| fst 2 [_, _, (g4, Ce 124 (tc { T with m := T.m.set (nodeS T.c T.th.item T.th.stop) (depositedS T.t) } { s with words := x1.1, boxes := s.boxes })), _, _, _, _] bN rfl rfl <| nt <| sr <| lp (pmv rfl) rfl <| lr (ral 2 aL rfl) rfl <| lx rfl <| cB [.agg (tc { T with m := T.m.set (nodeS T.c T.th.item T.th.stop) (depositedS T.t) } { s with words := x1.1, boxes := s.boxes })] kR rfl rfl rfl rfl rfl [.agg (tc { T with m := T.m.set (nodeS T.c T.th.item T.th.stop) (depositedS T.t) } { s with words := x1.1, boxes := s.boxes }), .pointer (some ⟨g3, 0, none⟩)] rfl (fun W k => ?_)
  refine ent 8 Tryz.func150 rfl k <| sr <| lx rfl <| fba rfl fun g7 => ?_
  refine lx rfl <| fal bH rfl fun g8 => ?_
  refine nt <| sr <| lr (rce 5 (I 13) aJ rfl) rfl <| lp (pfa aN 16 rfl) rfl <| lp (pfa bG 16 rfl) rfl <| lx rfl <| fst 1 [_, (g7, Ce 124 (tc { T with m := T.m.set (nodeS T.c T.th.item T.th.stop) (depositedS T.t), th := { T.th with ph := 13 } } { s with words := x1.1, boxes := s.boxes })), _, _, _, _, _, _, _] cG rfl rfl <| nt <| sr <| lr (ral 1 aL rfl) rfl <| lx rfl <| ffl 0 [(g8, Ce 124 (tc { T with m := T.m.set (nodeS T.c T.th.item T.th.stop) (depositedS T.t), th := { T.th with ph := 13 } } { s with words := x1.1, boxes := s.boxes })), _, _, _, _, _, _, _, _] aZ rfl rfl <| nt <| aF <| aG _ (res1 rfl (aO 0 37 aL rfl rfl rfl)) (fun W k => ?_)
  refine nx k <| lx rfl <| ffl 2 [_, _, (g6, Ce 124 (tc { T with m := T.m.set (nodeS T.c T.th.item T.th.stop) (depositedS T.t), th := { T.th with ph := 13 } } { s with words := x1.1, boxes := s.boxes })), _, _, _, _, _, _] aZ rfl rfl <| nt <| aF <| aG _ (res1 rfl (aO 2 37 aL rfl rfl rfl)) (fun W k => ?_)
  refine nx k (aH (fun _ h => ((((((h.leave 0).leave 0).leave 0).leave 0).leave 0).leave 0)) ?_)
  refine dl 5 rfl <| ffl 7 [_, _, _, _, _, _, _, (g2, Ce 124 (tc { T with m := T.m.set (nodeS T.c T.th.item T.th.stop) (depositedS T.t), th := { T.th with ph := 13 } } { s with words := x1.1, boxes := s.boxes })), _] aZ rfl rfl <| dd <| aC <| aF <| aG _ (res1 rfl (aO 7 37 aL rfl rfl rfl)) (fun W k => ?_)
  exact RetT.of (by first | rfl | (simp [depositS, casM, Mem.set]; done) | (simp [depositS, casM, Mem.set]; rfl)) ⟨k.kn.here.1.weak, k.kn.here.2.boxes.weak, k.kn.here.2.batch.weak, k.kn.here.2.kids.weak, k.kn.here.2.held.weak, k.kn.here.2.tl.weak, k.kn.here.2.log.weak⟩ k.below
theorem publish_is (L : Nat → Prop) (s : Sl) (T : Tn) (hw : TnOk T) (w : World) (cx : Cx L w) (hr : RT L s T w) : Calls Tryz.prog 125 [.agg (tc T s)].toArray w (RetT L w (publishS T)) := by
  have hc := hw.c
  refine ent 21 Tryz.func125 rfl (Kb.start cx (RTL.kn0 hr)) <| sr <| lx rfl <| fba rfl fun g1 => ?_
  refine lx rfl <| fal bH rfl fun g2 => ?_
  refine nt <| sr <| lp (pfa bJ 14 rfl) rfl <| lr (rro 1 (mc T.m s.words s.boxes) bI rfl) rfl <| lp (pfa cO 12 rfl) rfl <| lr (rce 1 (I T.t) aJ rfl) rfl <| lp (pfa aN 16 rfl) rfl <| lp (pfa dS 20 rfl) rfl <| lr (rce 1 (.slice s.batch.A T.th.batch.length s.batch.c) cW rfl) rfl <| lx rfl <| fca mF rfl (fun W k => mput_is _ T.m s.words s.boxes T.t W k.cx k.kn.here.boxes hw.t.1 (by have := hw.t; have := hw.bl; omega) hw.hm' T.th.batch s.batch k.kn.here.batch (Nat.le_trans hw.ba (by omega))) ?_
  rintro _ _ W1 k ⟨mb1, rfl, hr1, hb1⟩
  refine nx ((k.call hb1).and hr1.kn) <| lp (pmv rfl) rfl <| lp (pex rfl) rfl <| lp (pex rfl) rfl <| lx rfl <| fal bF rfl fun g3 => ?_
  refine lx rfl <| ffl 0 [(g3, Ce 32 (mc (T.m.put T.t T.th.batch) s.words mb1)), _, _] bN rfl rfl <| lp (pas rfl) rfl <| nt <| aE <| dst [5] <| dp 2 rfl (pmv rfl) <| dr 0 rfl (fun _ h => h) (ral 2 aL rfl) <| dr 1 rfl (fun _ h => h) (ral 0 bI rfl) <| dx 3 rfl <| fin kQ rfl (fun W k => ?_)
  refine ent 4 Tryz.func139 rfl k <| sr <| lx rfl <| bC (#[I 12]) rfl rfl rfl rfl rfl fun g4 => ?_
  refine lp (pas rfl) rfl <| nt <| sr <| lp (cE rfl rfl rfl) rfl <| lp (pas rfl) rfl <| nt <| aF <| aG _ (res1 rfl (aD rfl)) (fun W k => ?_)
  refine nx k (aH (fun _ h => (h.leave 0)) ?_)
  refine dx 4 rfl <| fin iA rfl (fun W k => ?_)
  refine ent 17 Tryz.func138 rfl k <| sr <| lx rfl <| fba rfl fun g5 => ?_
  refine lx rfl <| fba rfl fun g6 => ?_
  refine lx rfl <| fal bH rfl fun g7 => ?_
  refine nt <| aE <| sr <| lp (pmv rfl) rfl <| lp (pne rfl) rfl <| nt <| aM rfl (congrArg not rfl) <| aI <| aC <| sr <| lr (ral 1 bI rfl) rfl <| lp (pfa bJ 14 rfl) rfl <| lx rfl <| fst 2 [_, _, (g5, Ce 124 (tc { T with m := T.m.put T.t T.th.batch } { s with words := s.words, boxes := mb1 })), _, _, _, _] bN rfl rfl <| nt <| sr <| lp (pmv rfl) rfl <| lr (ral 2 aL rfl) rfl <| lx rfl <| cB [.agg (tc { T with m := T.m.put T.t T.th.batch } { s with words := s.words, boxes := mb1 })] kR rfl rfl rfl rfl rfl [.agg (tc { T with m := T.m.put T.t T.th.batch } { s with words := s.words, boxes := mb1 }), .pointer (some ⟨g4, 0, none⟩)] rfl (fun W k => ?_)
  refine ent 8 Tryz.func150 rfl k <| sr <| lx rfl <| fba rfl fun g8 => ?_
  refine lx rfl <| fal bH rfl fun g9 => ?_
  refine nt <| sr <| lr (rce 5 (I 12) aJ rfl) rfl <| lp (pfa aN 16 rfl) rfl <| lp (pfa bG 16 rfl) rfl <| lx rfl <| fst 1 [_, (g8, Ce 124 (tc { T with m := T.m.put T.t T.th.batch, th := { T.th with ph := 12 } } { s with words := s.words, boxes := mb1 })), _, _, _, _, _, _, _] cG rfl rfl <| nt <| sr <| lr (ral 1 aL rfl) rfl <| lx rfl <| ffl 0 [(g9, Ce 124 (tc { T with m := T.m.put T.t T.th.batch, th := { T.th with ph := 12 } } { s with words := s.words, boxes := mb1 })), _, _, _, _, _, _, _, _] aZ rfl rfl <| nt <| aF <| aG _ (res1 rfl (aO 0 37 aL rfl rfl rfl)) (fun W k => ?_)
  refine nx k <| lx rfl <| ffl 2 [_, _, (g7, Ce 124 (tc { T with m := T.m.put T.t T.th.batch, th := { T.th with ph := 12 } } { s with words := s.words, boxes := mb1 })), _, _, _, _, _, _] aZ rfl rfl <| nt <| aF <| aG _ (res1 rfl (aO 2 37 aL rfl rfl rfl)) (fun W k => ?_)
  refine nx k (aH (fun _ h => ((((((h.leave 0).leave 0).leave 0).leave 0).leave 0).leave 0)) ?_)
  refine dl 5 rfl <| ffl 7 [_, _, _, _, _, _, _, (g2, Ce 124 (tc { T with m := T.m.put T.t T.th.batch, th := { T.th with ph := 12 } } { s with words := s.words, boxes := mb1 })), _] aZ rfl rfl <| dd <| aC <| aF <| aG _ (res1 rfl (aO 7 37 aL rfl rfl rfl)) (fun W k => ?_)
  exact RetT.of (by first | rfl | (simp [publishS, casM, Mem.set]; done) | (simp [publishS, casM, Mem.set]; rfl)) ⟨k.kn.here.2.words.weak, k.kn.here.1.weak, k.kn.here.2.batch.weak, k.kn.here.2.kids.weak, k.kn.here.2.held.weak, k.kn.here.2.tl.weak, k.kn.here.2.log.weak⟩ k.below
theorem collect_is (L : Nat → Prop) (s : Sl) (T : Tn) (hw : TnOk T) (w : World) (cx : Cx L w) (hr : RT L s T w) (hwho : 0 ≤ T.th.who ∧ T.th.who < T.c.th) : Calls Tryz.prog 123 [.agg (tc T s)].toArray w (RetT L w (collectS T)) := by
  have hc := hw.c
  refine ent 20 Tryz.func123 rfl (Kb.start cx (RTL.kn0 hr)) <| sr <| lx rfl <| fba rfl fun g1 => ?_
  refine lx rfl <| fal bH rfl fun g2 => ?_
  refine nt <| sr <| lp (pfa bJ 14 rfl) rfl <| lr (rro 1 (mc T.m s.words s.boxes) bI rfl) rfl <| lp (pfa aN 16 rfl) rfl <| lp (pfa eJ 29 rfl) rfl <| lr (rce 1 (I T.th.who) aJ rfl) rfl <| lx rfl <| fca oS rfl (fun W k => mbox_is _ T.m s.words s.boxes T.th.who W k.cx k.kn.here.boxes hwho.1 (by have := hwho; have := hw.bl; omega) hw.hm' (Nat.le_trans (hw.bs _) (by omega))) ?_
  rintro _ _ W1 k ⟨mb1, rfl, hr1, hb1⟩
  refine nx ((k.call hb1).and hr1.kn) <| lp (pmv rfl) rfl <| lp (pex rfl) rfl <| lp (pex rfl) rfl <| lx rfl <| fal pI rfl fun g3 => ?_
  refine lx rfl <| fst 0 [(g3, Ce 81 (#[.slice mb1.A ((T.m.box T.th.who).length) mb1.c])), _, _] nO rfl rfl <| lp (pas rfl) rfl <| nt <| sr <| lr (ral 2 aL rfl) rfl <| lp (pfa bJ 14 rfl) rfl <| lr (rro 2 (mc T.m s.words s.boxes) bI rfl) rfl <| lp (pmv rfl) rfl <| lp (cE rfl rfl rfl) rfl <| lx rfl <| fin iA rfl (fun W k => ?_)
  refine ent 17 Tryz.func138 rfl k <| sr <| lx rfl <| fba rfl fun g4 => ?_
  refine lx rfl <| fba rfl fun g5 => ?_
  refine lx rfl <| fal bH rfl fun g6 => ?_
  refine nt <| aE <| sr <| lp (pmv rfl) rfl <| lp (pne rfl) rfl <| nt <| aM rfl (congrArg not rfl) <| aI <| aC <| sr <| lr (ral 1 bI rfl) rfl <| lp (pfa bJ 14 rfl) rfl <| lx rfl <| fst 2 [_, _, (g4, Ce 124 (tc { T with m := T.m } { s with words := s.words, boxes := s.boxes })), _, _, _] bN rfl rfl <| nt <| sr <| lp (pmv rfl) rfl <| lr (ral 2 aL rfl) rfl <| lx rfl <| cB [.agg (tc { T with m := T.m } { s with words := s.words, boxes := s.boxes })] rR rfl rfl rfl rfl rfl [.agg (tc { T with m := T.m } { s with words := s.words, boxes := s.boxes }), .pointer (some ⟨g3, 0, none⟩)] rfl (fun W k => ?_)
  refine ent 12 Tryz.func142 rfl k <| sr <| lx rfl <| fba rfl fun g7 => ?_
  refine lx rfl <| fal bH rfl fun g8 => ?_
  refine nt <| aE <| dst [8] <| dp 2 rfl (pfa aN 16 rfl) <| dp 3 rfl (pfa eJ 29 rfl) <| dr 1 rfl (fun _ h => h) (ral 1 aL rfl) <| dr 4 rfl (fun _ h => h) (rce 1 (I T.th.who) aJ rfl) <| dr 5 rfl (fun _ h => h) (rce 5 (.slice mb1.A ((T.m.box T.th.who).length) mb1.c) cW rfl) <| dx 0 rfl <| fin kQ rfl (fun W k => ?_)
  refine ent 4 Tryz.func139 rfl k <| sr <| lx rfl <| bC (#[I 10]) rfl rfl rfl rfl rfl fun g9 => ?_
  refine lp (pas rfl) rfl <| nt <| sr <| lp (cE rfl rfl rfl) rfl <| lp (pas rfl) rfl <| nt <| aF <| aG _ (res1 rfl (aD rfl)) (fun W k => ?_)
  refine nx k (aH (fun _ h => (h.leave 0)) ?_)
  refine dx 6 rfl <| fca oT rfl (fun W k => take_row _ { s with words := s.words, boxes := s.boxes } { T with m := T.m } T.th.who mb1 (T.m.box T.th.who) W k.cx ⟨k.kn.here.2.words, k.kn.here.2.boxes, k.kn.here.2.batch, k.kn.here.2.kids, k.kn.here.2.held, k.kn.here.2.tl, k.kn.here.2.log⟩ k.kn.here.1 (Nat.le_trans hw.ba (by omega)) (Nat.le_trans hw.ki (by omega)) (Nat.le_trans (hw.bs _) (by omega))) ?_
  rintro _ _ W2 k ⟨s1, T1, hT1, rfl, hR1, hb2⟩
  refine nx ((k.call hb2).and hR1.kn) (aH (fun _ h => (h.leave 0).drop) ?_)
  refine dx 7 rfl <| cB [.agg (tc T1 s1)] kR rfl rfl rfl rfl rfl [.agg (tc T1 s1), .pointer (some ⟨g9, 0, none⟩)] rfl (fun W k => ?_)
  refine ent 8 Tryz.func150 rfl k <| sr <| lx rfl <| fba rfl fun g10 => ?_
  refine lx rfl <| fal bH rfl fun g11 => ?_
  refine nt <| sr <| lr (rce 2 (I 10) aJ rfl) rfl <| lp (pfa aN 16 rfl) rfl <| lp (pfa bG 16 rfl) rfl <| lx rfl <| fst 1 [_, (g10, Ce 124 (tc { T1 with th := { T1.th with ph := 10 } } s1)), _, _, _, _, _, _, _, _, _] cG rfl rfl <| nt <| sr <| lr (ral 1 aL rfl) rfl <| lx rfl <| ffl 0 [(g11, Ce 124 (tc { T1 with th := { T1.th with ph := 10 } } s1)), _, _, _, _, _, _, _, _, _, _] aZ rfl rfl <| nt <| aF <| aG _ (res1 rfl (aO 0 37 aL rfl rfl rfl)) (fun W k => ?_)
  refine nx k (aH (fun _ h => (((h.leave 0).leave 0).leave 0).drop) ?_)
  refine dl 8 rfl <| ffl 3 [_, _, _, (g8, Ce 124 (tc { T1 with th := { T1.th with ph := 10 } } s1)), _, _, _, _, _, _, _] aZ rfl rfl <| dd <| aC <| aF <| aG _ (res1 rfl (aO 3 37 aL rfl rfl rfl)) (fun W k => ?_)
  refine nx k <| lx rfl <| ffl 5 [_, _, _, _, _, (g6, Ce 124 (tc { T1 with th := { T1.th with ph := 10 } } s1)), _, _, _, _, _] aZ rfl rfl <| nt <| aF <| aG _ (res1 rfl (aO 5 37 aL rfl rfl rfl)) (fun W k => ?_)
  refine nx k <| lx rfl <| ffl 9 [_, _, _, _, _, _, _, _, _, (g2, Ce 124 (tc { T1 with th := { T1.th with ph := 10 } } s1)), _] aZ rfl rfl <| nt <| aF <| aG _ (res1 rfl (aO 9 37 aL rfl rfl rfl)) (fun W k => ?_)
  exact RetT.of (by rw [hT1]; rfl) k.kn.here.1.weak k.below
def gatherP (T : Tn) : Tn := if T.th.ph = 7 then gatherS T else if T.th.ph = 8 then closeS T else if T.th.ph = 9 then collectS T else if T.th.ph = 10 then freeS T else if T.th.ph = 11 then publishS T else if T.th.ph = 12 then depositS T else T
theorem gather_is (L : Nat → Prop) (s : Sl) (T : Tn) (hw : TnOk T) (w : World) (cx : Cx L w) (hr : RT L s T w) (hg : (T.th.ph = 7 ∨ T.th.ph = 8 ∨ T.th.ph = 10) → (0 ≤ T.th.at_ ∧ T.th.at_ < T.th.held.length) ∧ 0 ≤ heldS T ∧ heldS T < T.m.words.length) (hv7 : T.th.ph = 7 → 0 ≤ T.m.get (heldS T) ∧ T.m.get (heldS T) ≤ 1000) (hwho9 : T.th.ph = 9 → 0 ≤ T.th.who ∧ T.th.who < T.c.th) (hst : T.th.ph = 12 → 0 ≤ nodeS T.c T.th.item T.th.stop ∧ nodeS T.c T.th.item T.th.stop < T.m.words.length) : Calls Tryz.prog 78 [.agg (tc T s)].toArray w (RetB L w (gatherP T) (decide (T.th.ph = 7 ∨ T.th.ph = 8 ∨ T.th.ph = 9 ∨ T.th.ph = 10 ∨ T.th.ph = 11 ∨ T.th.ph = 12))) := by
  have hc := hw.c
  refine ent 15 Tryz.func78 rfl (Kb.start cx (RTL.kn0 hr)) <| sr <| lx rfl <| fba rfl fun g1 => ?_
  refine lx rfl <| fal bH rfl fun g2 => ?_
  refine lp (pas rfl) rfl <| nt <| sr <| lp (pfa aN 16 rfl) rfl <| lp (pfa bG 16 rfl) rfl <| lr (rce 1 (I T.th.ph) aJ rfl) rfl <| lx rfl <| fin fn99 rfl (fun W k => ?_)
  refine ent 16 Tryz.func99 rfl k <| sr <| lp (pas rfl) rfl <| nt <| aE <| sr <| lp (pmv rfl) rfl <| nt <| aP <| sr <| lp (peq rfl) rfl <| lp (pas rfl) rfl <| nt ?_
  by_cases c1 : T.th.ph = 7
  refine aQ rfl (aA c1) <| sr <| lp (pas rfl) rfl <| nt <| aF (bD (aS ?_))
  refine aG _ (res1 rfl (aD rfl)) (fun W k => ?_)
  refine nx k <| lp (pas rfl) rfl <| nt <| aE <| sr <| lp (pmv rfl) rfl <| lp (gA rfl rfl rfl) rfl <| nt <| aM rfl rfl <| aI <| aC <| sr <| lp (pmv rfl) rfl <| lr (ral 1 aL rfl) rfl <| lx rfl <| bV [.agg (tc T s)] _ rS rfl rfl rfl rfl rfl [.agg (tc T s)] rfl (fun W k => glook_is _ s T hw W k.cx ⟨k.kn.here.words, k.kn.here.boxes, k.kn.here.batch, k.kn.here.kids, k.kn.here.held, k.kn.here.tl, k.kn.here.log⟩ (hg (by omega)).1 (hg (by omega)).2.1 (hg (by omega)).2.2 (hv7 (by omega))) ?_
  rintro _ _ W1 k ⟨s1, T1, hT1, rfl, hR1, hb1⟩
  refine nx ((k.call hb1).and hR1.kn) <| lx rfl <| ffl 0 [(g2, Ce 124 (tc T1 s1)), _] aZ rfl rfl <| lp (pas rfl) rfl <| nt <| aF <| aG _ (res2 rfl (aO 0 37 aL rfl rfl rfl) (aD rfl)) (fun W k => ?_)
  rw [show ((decide (T.th.ph = 7 ∨ T.th.ph = 8 ∨ T.th.ph = 9 ∨ T.th.ph = 10 ∨ T.th.ph = 11 ∨ T.th.ph = 12))) = true by simp [c1]]
  exact RetB.of (by rw [hT1]; simp only [gatherP, if_pos c1] <;> rfl) k.kn.here.1.weak k.below
  refine aM rfl (aB c1) <| sr <| lp (peq rfl) rfl <| lp (pas rfl) rfl <| nt ?_
  by_cases c2 : T.th.ph = 8
  refine aQ rfl (aA c2) <| sr <| lp (pas rfl) rfl <| nt <| aF (bD (aS ?_))
  refine aG _ (res1 rfl (aD rfl)) (fun W k => ?_)
  refine nx k <| lp (pas rfl) rfl <| nt <| aE <| sr <| lp (pmv rfl) rfl <| lp (gA rfl rfl rfl) rfl <| nt <| aM rfl rfl <| aI <| aC <| sr <| lp (pmv rfl) rfl <| lr (ral 1 aL rfl) rfl <| lx rfl <| bV [.agg (tc T s)] _ rT rfl rfl rfl rfl rfl [.agg (tc T s)] rfl (fun W k => shut_is _ s T hw W k.cx ⟨k.kn.here.words, k.kn.here.boxes, k.kn.here.batch, k.kn.here.kids, k.kn.here.held, k.kn.here.tl, k.kn.here.log⟩ (hg (by omega)).1 (hg (by omega)).2.1 (hg (by omega)).2.2) ?_
  rintro _ _ W2 k ⟨s2, T2, hT2, rfl, hR2, hb2⟩
  refine nx ((k.call hb2).and hR2.kn) <| lx rfl <| ffl 0 [(g2, Ce 124 (tc T2 s2)), _] aZ rfl rfl <| lp (pas rfl) rfl <| nt <| aF <| aG _ (res2 rfl (aO 0 37 aL rfl rfl rfl) (aD rfl)) (fun W k => ?_)
  rw [show ((decide (T.th.ph = 7 ∨ T.th.ph = 8 ∨ T.th.ph = 9 ∨ T.th.ph = 10 ∨ T.th.ph = 11 ∨ T.th.ph = 12))) = true by simp [c1, c2]]
  exact RetB.of (by rw [hT2]; simp only [gatherP, if_neg c1, if_pos c2] <;> rfl) k.kn.here.1.weak k.below
  refine aM rfl (aB c2) <| sr <| lp (peq rfl) rfl <| lp (pas rfl) rfl <| nt ?_
  by_cases c3 : T.th.ph = 9
  refine aQ rfl (aA c3) <| sr <| lp (pas rfl) rfl <| nt <| aF (bD (aS ?_))
  refine aG _ (res1 rfl (aD rfl)) (fun W k => ?_)
  refine nx k <| lp (pas rfl) rfl <| nt <| aE <| sr <| lp (pmv rfl) rfl <| lp (gA rfl rfl rfl) rfl <| nt <| aM rfl rfl <| aI <| aC <| sr <| lp (pmv rfl) rfl <| lr (ral 1 aL rfl) rfl <| lx rfl <| bV [.agg (tc T s)] _ rU rfl rfl rfl rfl rfl [.agg (tc T s)] rfl (fun W k => collect_is _ s T hw W k.cx ⟨k.kn.here.words, k.kn.here.boxes, k.kn.here.batch, k.kn.here.kids, k.kn.here.held, k.kn.here.tl, k.kn.here.log⟩ (hwho9 (by omega))) ?_
  rintro _ _ W3 k ⟨s3, T3, hT3, rfl, hR3, hb3⟩
  refine nx ((k.call hb3).and hR3.kn) <| lx rfl <| ffl 0 [(g2, Ce 124 (tc T3 s3)), _] aZ rfl rfl <| lp (pas rfl) rfl <| nt <| aF <| aG _ (res2 rfl (aO 0 37 aL rfl rfl rfl) (aD rfl)) (fun W k => ?_)
  rw [show ((decide (T.th.ph = 7 ∨ T.th.ph = 8 ∨ T.th.ph = 9 ∨ T.th.ph = 10 ∨ T.th.ph = 11 ∨ T.th.ph = 12))) = true by simp [c1, c2, c3]]
  exact RetB.of (by rw [hT3]; simp only [gatherP, if_neg c1, if_neg c2, if_pos c3] <;> rfl) k.kn.here.1.weak k.below
  refine aM rfl (aB c3) <| sr <| lp (peq rfl) rfl <| lp (pas rfl) rfl <| nt ?_
  by_cases c4 : T.th.ph = 10
  refine aQ rfl (aA c4) <| sr <| lp (pas rfl) rfl <| nt <| aF (bD (aS ?_))
  refine aG _ (res1 rfl (aD rfl)) (fun W k => ?_)
  refine nx k <| lp (pas rfl) rfl <| nt <| aE <| sr <| lp (pmv rfl) rfl <| lp (gA rfl rfl rfl) rfl <| nt <| aM rfl rfl <| aI <| aC <| sr <| lp (pmv rfl) rfl <| lr (ral 1 aL rfl) rfl <| lx rfl <| bV [.agg (tc T s)] _ rV rfl rfl rfl rfl rfl [.agg (tc T s)] rfl (fun W k => free_is _ s T hw W k.cx ⟨k.kn.here.words, k.kn.here.boxes, k.kn.here.batch, k.kn.here.kids, k.kn.here.held, k.kn.here.tl, k.kn.here.log⟩ (hg (by omega)).1 (hg (by omega)).2.1 (hg (by omega)).2.2) ?_
  rintro _ _ W4 k ⟨s4, T4, hT4, rfl, hR4, hb4⟩
  refine nx ((k.call hb4).and hR4.kn) <| lx rfl <| ffl 0 [(g2, Ce 124 (tc T4 s4)), _] aZ rfl rfl <| lp (pas rfl) rfl <| nt <| aF <| aG _ (res2 rfl (aO 0 37 aL rfl rfl rfl) (aD rfl)) (fun W k => ?_)
  rw [show ((decide (T.th.ph = 7 ∨ T.th.ph = 8 ∨ T.th.ph = 9 ∨ T.th.ph = 10 ∨ T.th.ph = 11 ∨ T.th.ph = 12))) = true by simp [c1, c2, c3, c4]]
  exact RetB.of (by rw [hT4]; simp only [gatherP, if_neg c1, if_neg c2, if_neg c3, if_pos c4] <;> rfl) k.kn.here.1.weak k.below
  refine aM rfl (aB c4) <| sr <| lp (peq rfl) rfl <| lp (pas rfl) rfl <| nt ?_
  by_cases c5 : T.th.ph = 11
  refine aQ rfl (aA c5) <| sr <| lp (pas rfl) rfl <| nt <| aF (bD (aS ?_))
  refine aG _ (res1 rfl (aD rfl)) (fun W k => ?_)
  refine nx k <| lp (pas rfl) rfl <| nt <| aE <| sr <| lp (pmv rfl) rfl <| lp (gA rfl rfl rfl) rfl <| nt <| aM rfl rfl <| aI <| aC <| sr <| lp (pmv rfl) rfl <| lr (ral 1 aL rfl) rfl <| lx rfl <| bV [.agg (tc T s)] _ rW rfl rfl rfl rfl rfl [.agg (tc T s)] rfl (fun W k => publish_is _ s T hw W k.cx ⟨k.kn.here.words, k.kn.here.boxes, k.kn.here.batch, k.kn.here.kids, k.kn.here.held, k.kn.here.tl, k.kn.here.log⟩) ?_
  rintro _ _ W5 k ⟨s5, T5, hT5, rfl, hR5, hb5⟩
  refine nx ((k.call hb5).and hR5.kn) <| lx rfl <| ffl 0 [(g2, Ce 124 (tc T5 s5)), _] aZ rfl rfl <| lp (pas rfl) rfl <| nt <| aF <| aG _ (res2 rfl (aO 0 37 aL rfl rfl rfl) (aD rfl)) (fun W k => ?_)
  rw [show ((decide (T.th.ph = 7 ∨ T.th.ph = 8 ∨ T.th.ph = 9 ∨ T.th.ph = 10 ∨ T.th.ph = 11 ∨ T.th.ph = 12))) = true by simp [c1, c2, c3, c4, c5]]
  exact RetB.of (by rw [hT5]; simp only [gatherP, if_neg c1, if_neg c2, if_neg c3, if_neg c4, if_pos c5] <;> rfl) k.kn.here.1.weak k.below
  refine aM rfl (aB c5) <| sr <| lp (peq rfl) rfl <| lp (pas rfl) rfl <| nt ?_
  by_cases c6 : T.th.ph = 12
  refine aQ rfl (aA c6) <| sr <| lp (pas rfl) rfl <| nt <| aF (bD (aS ?_))
  refine aG _ (res1 rfl (aD rfl)) (fun W k => ?_)
  refine nx k <| lp (pas rfl) rfl <| nt <| aE <| sr <| lp (pmv rfl) rfl <| lp (gA rfl rfl rfl) rfl <| nt <| aM rfl rfl <| aI <| aC <| sr <| lp (pmv rfl) rfl <| lr (ral 1 aL rfl) rfl <| lx rfl <| bV [.agg (tc T s)] _ rX rfl rfl rfl rfl rfl [.agg (tc T s)] rfl (fun W k => deposit_is _ s T hw W k.cx ⟨k.kn.here.words, k.kn.here.boxes, k.kn.here.batch, k.kn.here.kids, k.kn.here.held, k.kn.here.tl, k.kn.here.log⟩ (hst (by omega)).1 (hst (by omega)).2) ?_
  rintro _ _ W6 k ⟨s6, T6, hT6, rfl, hR6, hb6⟩
  refine nx ((k.call hb6).and hR6.kn) <| lx rfl <| ffl 0 [(g2, Ce 124 (tc T6 s6)), _] aZ rfl rfl <| lp (pas rfl) rfl <| nt <| aF <| aG _ (res2 rfl (aO 0 37 aL rfl rfl rfl) (aD rfl)) (fun W k => ?_)
  rw [show ((decide (T.th.ph = 7 ∨ T.th.ph = 8 ∨ T.th.ph = 9 ∨ T.th.ph = 10 ∨ T.th.ph = 11 ∨ T.th.ph = 12))) = true by simp [c1, c2, c3, c4, c5, c6]]
  exact RetB.of (by rw [hT6]; simp only [gatherP, if_neg c1, if_neg c2, if_neg c3, if_neg c4, if_neg c5, if_pos c6] <;> rfl) k.kn.here.1.weak k.below
  refine aM rfl (aB c6) <| aI <| aW <| aC <| sr <| lp (pas rfl) rfl <| nt <| aF <| aG _ (res1 rfl (aD rfl)) (fun W k => ?_)
  refine nx k <| lp (pas rfl) rfl <| nt <| aE <| sr <| lp (pmv rfl) rfl <| lp (lX rfl rfl rfl) rfl <| nt <| aQ rfl rfl <| sr <| lr (ral 1 aL rfl) rfl <| lx rfl <| ffl 0 [(g2, Ce 124 (tc T s)), _] aZ rfl rfl <| lp (pas rfl) rfl <| nt <| aF (aS ?_)
  refine aG _ (res2 rfl (aO 0 37 aL rfl rfl rfl) (aD rfl)) (fun W k => ?_)
  rw [show ((decide (T.th.ph = 7 ∨ T.th.ph = 8 ∨ T.th.ph = 9 ∨ T.th.ph = 10 ∨ T.th.ph = 11 ∨ T.th.ph = 12))) = false by simp [c1, c2, c3, c4, c5, c6]]
  exact RetB.of (by simp only [gatherP, if_neg c1, if_neg c2, if_neg c3, if_neg c4, if_neg c5, if_neg c6] <;> rfl) k.kn.here.weak k.below
end Go.Proofs.YtgbkjnikcnjbkaaGreat.Top
namespace Go.Proofs.YtgbkjnikcnjbkaaGreat.Top
open Go Go.Conc Go.Proofs.YtgbkjnikcnjbkaaGreatW.PrintLast Go.Proofs.YtgbkjnikcnjbkaaGreatW.PrintMore Go.Proofs.YtgbkjnikcnjbkaaGreatW.PrintWords Go.RowKit
set_option linter.unusedSimpArgs false
set_option linter.unusedVariables false
section
def CN (c : Code) (Q : Exit → Act → World → Prop) (a : Act) (w : World) : Prop :=
  ∀ (b : Frame) (k : List Item) (cs : List Frame), b.kind ≠ .early → ∃ e a' w', Q e a' w' ∧ Arrives Tryz.prog (lone (b.at a (.code c :: k)) cs w) b k cs e a' w'
/-- What is left of a region. -/
def LS (ops : Array Oper) (Q : Exit → Act → World → Prop) (l : List Nat) (a : Act) (w : World) : Prop :=
  ∀ (b : Frame) (k : List Item) (cs : List Frame), b.kind ≠ .early → ∃ e a' w', Q e a' w' ∧ Arrives Tryz.prog (lone (b.at a (.inRegion ops l :: k)) cs w) b k cs e a' w'
section
variable {Q Q' : Exit → Act → World → Prop} {a : Act} {w : World} {ops : Array Oper}
theorem cn_of {c : Code} (h : c.wp Tryz.prog Q a w) : CN c Q a w := fun b k cs _ => h b k cs
theorem cn_seq {x y : Code} (h : CN x (Exit.then (CN y Q) Q) a w) : CN (.seq x y) Q a w := by
  intro b k cs hb
  obtain ⟨e, a1, w1, hq, harr⟩ := h b (.code y :: k) cs hb
  cases e with
  | normal =>
    obtain ⟨e2, a2, w2, hq2, h2⟩ := hq b k cs hb
    exact ⟨e2, a2, w2, hq2, .of_steps (.head step_seq harr) h2⟩
  | exit id => exact ⟨_, a1, w1, hq, .of_steps (.one step_seq) (.pass (x := .code y) rfl (fun _ _ => .inl (by simp)) harr)⟩
  | goto l => exact ⟨_, a1, w1, hq, .of_steps (.one step_seq) (.pass (x := .code y) rfl (fun _ _ => .inl (by simp)) harr)⟩
  | ret => exact ⟨_, a1, w1, hq, .of_steps (.one step_seq) (.pass (x := .code y) rfl (fun _ _ => .inl (by simp)) harr)⟩
  | panic ch => exact ⟨_, a1, w1, hq, .of_steps (.one step_seq) (.pass (x := .code y) rfl (fun _ _ => .inl (by simp)) harr)⟩
  | outgrown => exact ⟨_, a1, w1, hq, .of_steps (.one step_seq) (.pass (x := .code y) rfl (fun _ _ => .inl (by simp)) harr)⟩
theorem cn_if {c : Operand} {x y : Code} {v : Bool} (hc : a.eval c = .bool v) (h : CN (if v then x else y) Q a w) : CN (.cond c x y) Q a w := fun b k cs hb => by
  obtain ⟨e, a', w', hq, harr⟩ := h b k cs hb
  exact ⟨e, a', w', hq, .of_steps (.one (step_cond hc)) harr⟩
theorem cn_calls {f : FuncId} {fn : Func} {c : Code} {args : Array Value} {R : Ending → World → Prop} (hf : Tryz.prog.funcs[f]? = some fn) (hb : fn.body = some c)
    (h : CN c (bodyPost Tryz.prog fn R) { tmps := args ++ Array.replicate (fn.ntmps - args.size) undef, defers := [] } w) : Calls Tryz.prog f args w R := by
  intro cs
  have h1 := h { (default : Frame) with fn := f, kind := .normal } [] cs (by simp)
  have he : Frame.enter Tryz.prog f args .normal = Frame.at { (default : Frame) with fn := f, kind := .normal } { tmps := args ++ Array.replicate (fn.ntmps - args.size) undef, defers := [] } [.code c] := by
    simp [Frame.enter, Frame.at, hf, hb]
  rw [← he] at h1
  obtain ⟨e, a', w', hq, harr⟩ := h1
  cases e with
  | normal =>
    obtain ⟨hd, v, hr, hR⟩ := hq
    exact ⟨.returned v, w', _, hR, Steps.trans harr (.one step_end), rfl, rfl, hd, rfl, fn, hf, hr⟩
  | ret =>
    obtain ⟨hd, v, hr, hR⟩ := hq
    obtain ⟨todo, hs⟩ := harr
    exact ⟨.returned v, w', _, hR, hs, rfl, rfl, hd, rfl, fn, hf, hr⟩
  | panic ch =>
    obtain ⟨hd, hR⟩ := hq
    obtain ⟨todo, hs⟩ := harr
    exact ⟨.panicked ch, w', _, hR, hs, rfl, rfl, hd, fn, hf⟩
  | exit id => exact hq.elim
  | goto l => exact hq.elim
  | outgrown => exact ⟨.outgrown, w', { (default : Frame) with fn := f, kind := .normal }, hq, harr.resolve_left (by simp), rfl, trivial⟩
theorem LS.region {id : Nat} (h : LS ops Q (List.range ops.size) a w) : CN (.region id ops false) Q a w := fun b k cs hb => by
  obtain ⟨e, a', w', hq, harr⟩ := h b k cs hb
  exact ⟨e, a', w', hq, .of_steps (.one step_region) harr⟩
theorem LS.draw {id : Nat} (h : ∀ t, LS ops Q (Region.schedule (Tryz.prog.follows .mixedOrders) ops t) a w.drew) : CN (.region id ops true) Q a w := fun b k cs hb => by
  obtain ⟨e, a', w', hq, harr⟩ := h _ b k cs hb
  exact ⟨e, a', w', hq, .of_steps (.one step_region_draw) harr⟩
theorem LS.of_ops {l : List Nat} (h : wpOps Tryz.prog ops Q l a w) : LS ops Q l a w := fun b k cs _ => wp_ops l a w h b k cs
theorem LS.nil (h : Q .normal a w) : LS ops Q [] a w := LS.of_ops h
/-- A step of the machine, and on. -/
theorem LS.move {i : Nat} {rest : List Nat} {v : Value} {w1 : World} (hs : ∀ (b : Frame) (k : List Item) (cs : List Frame), b.kind ≠ .early → step Tryz.prog (lone (b.at a (.inRegion ops (i :: rest) :: k)) cs w) = .next (lone ((b.at a (.inRegion ops (i :: rest) :: k)).finish v) cs w1))
    (h : LS ops Q rest (a.put ((ops[i]?).bind (·.dst)) v) w1) : LS ops Q (i :: rest) a w := fun b k cs hb => by
  obtain ⟨e, a', w', hq, harr⟩ := h b k cs hb
  have h1 := hs b k cs hb
  rw [Frame.finish_at] at h1
  exact ⟨e, a', w', hq, .of_steps (.one h1) harr⟩
theorem LS.cons {i : Nat} {rest : List Nat} (h : wpOp Tryz.prog ops Q i (LS ops Q rest) a w) : LS ops Q (i :: rest) a w := by
  unfold wpOp at h
  cases ho : ops[i]? with
  | none =>
    simp only [ho] at h
    refine fun b k cs hb => ?_
    obtain ⟨e, a', w', hq, harr⟩ := h b k cs hb
    have hs := step_op_skip (P := Tryz.prog) (b := b) (a := a) (k := k) (cs := cs) (w := w) (ops := ops) (i := i) (rest := rest) (by simp [ho])
    simp only [ho, Option.bind_none, Act.put] at hs
    exact ⟨e, a', w', hq, .of_steps (.one hs) harr⟩
  | some o =>
    simp only [ho] at h
    by_cases hw : Region.wanted o (yielded ops a.tmps) = true
    · rw [if_pos hw] at h
      intro b k cs hb
      rcases h with h | ⟨hasks, a0, w0, hq⟩
      · have hg := stepG_op (P := Tryz.prog) (b := b) (k := k) (cs := cs) (w := w) (rest := rest) ho hw
        have hfin : ∀ (a : Act) (v : Value), (b.at a (.inRegion ops (i :: rest) :: k)).finish v = b.at (a.put o.dst v) (.inRegion ops rest :: k) := fun a v => by rw [Frame.finish_at, ho]; rfl
        have go : ∀ {a1 : Act} {w1 : World}, step Tryz.prog (lone (b.at a (.inRegion ops (i :: rest) :: k)) cs w) = .next (lone (b.at a1 (.inRegion ops rest :: k)) cs w1) → LS ops Q rest a1 w1 →
            ∃ e a' w', Q e a' w' ∧ Arrives Tryz.prog (lone (b.at a (.inRegion ops (i :: rest) :: k)) cs w) b k cs e a' w' := fun hs hl => by
          obtain ⟨e, a', w', hq, harr⟩ := hl b k cs hb
          exact ⟨e, a', w', hq, .of_steps (.one hs) harr⟩
        simp only [Oper.wp] at h
        cases hr : (execOp a.eval o).run Tryz.prog w with
        | halt x w1 =>
          rw [hr] at h
          cases x with
          | panic v => exact ⟨_, a, w1, h, .inRegion ops (i :: rest) :: k, .one (step_lone_go (by rw [hg, ← Frame.raise_at]; simp [stepG.apply, hr]))⟩
          | _ => exact h.elim
        | ok x w1 =>
          rw [hr] at h
          cases x with
          | value v => exact go (step_lone_go (by rw [hg, ← hfin]; simp [stepG.apply, hr])) h
          | skip => exact go (step_lone_go (by rw [hg, ← hfin]; simp [stepG.apply, hr])) h
          | defer d =>
            refine go (step_lone_go ?_) h
            rw [hg, ← hfin]
            simp only [stepG.apply, Sem.runT_eq, hr, GStep.bare_after]
            rfl
          | enter f args =>
            obtain ⟨e, w2, fr, hR, hsteps, _, hleave⟩ := h (b.at a (.inRegion ops (i :: rest) :: k) :: cs)
            have henter : step Tryz.prog (lone (b.at a (.inRegion ops (i :: rest) :: k)) cs w) = .next (lone (Frame.enter Tryz.prog f args .normal) (b.at a (.inRegion ops (i :: rest) :: k) :: cs) w1) :=
              step_lone_go (by rw [hg]; simp [stepG.apply, hr, Frame.at])
            cases e with
            | returned v =>
              obtain ⟨e, a', w3, hq, harr⟩ := hR b k cs hb
              refine ⟨e, a', w3, hq, .of_steps (.head henter (hsteps.trans (.one ?_))) harr⟩
              rw [← hfin]; exact step_leave_returned hleave
            | panicked ch =>
              refine ⟨.panic ch, a, w2, hR, .inRegion ops (i :: rest) :: k, .head henter (hsteps.trans (.one ?_))⟩
              rw [← Frame.raise_at]; exact step_leave_panicked hleave
            | outgrown =>
              obtain ⟨a0, w0, hq⟩ := hR
              exact ⟨.outgrown, a0, w0, hq, .inr (Outgrown.of_steps (.one henter) hsteps)⟩
          | row row args =>
            obtain ⟨v, w2, hR, hsteps⟩ := h (b.at a (.inRegion ops (i :: rest) :: k)) cs
            have henter : step Tryz.prog (lone (b.at a (.inRegion ops (i :: rest) :: k)) cs w) = .next (lone (Frame.ofRow Tryz.prog row args .normal) (b.at a (.inRegion ops (i :: rest) :: k) :: cs) w1) :=
              step_lone_go (by rw [hg]; simp [stepG.apply, hr, Frame.at])
            obtain ⟨e, a', w3, hq, harr⟩ := hR b k cs hb
            refine ⟨e, a', w3, hq, .of_steps (.head henter ?_) harr⟩
            rw [← hfin]; exact hsteps
          | _ => exact h.elim
      · exact ⟨.outgrown, a0, w0, hq, .inr (asks_outgrown ho hw hb hasks)⟩
    · rw [if_neg hw] at h
      refine fun b k cs hb => ?_
      obtain ⟨e, a', w', hq, harr⟩ := h b k cs hb
      have hs := step_op_skip (P := Tryz.prog) (b := b) (a := a) (k := k) (cs := cs) (w := w) (ops := ops) (i := i) (rest := rest) (by simp [ho]; simpa using hw)
      simp only [ho, Option.bind_some] at hs
      exact ⟨e, a', w', hq, .of_steps (.one hs) harr⟩
theorem wpOp_same {ops' : Array Oper} {X : Act → World → Prop} {K : Act → World → Prop} {i : Nat} (h1 : ops'[i]? = ops[i]?) (h2 : ∀ tm, yielded ops' tm = yielded ops tm) (h : wpOp Tryz.prog ops' (Exit.then X Q) i K a w) : wpOp Tryz.prog ops Q i K a w := by
  unfold wpOp at h ⊢
  rw [h1, h2] at h
  cases ho : ops[i]? with
  | none => simpa [ho] using h
  | some o =>
    simp only [ho] at h ⊢
    by_cases hw : Region.wanted o (yielded ops a.tmps) = true
    · rw [if_pos hw] at h ⊢
      refine h.imp (fun h => ?_) (fun h => h)
      unfold Oper.wp at h ⊢
      revert h
      cases (execOp a.eval o).run Tryz.prog w with
      | ok x w1 => cases x <;> exact id
      | halt x w1 => cases x <;> exact id
    · rw [if_neg hw] at h ⊢
      exact h
/-- Operation c, made into nothing. -/
def nopd (o : Oper) : Oper := { o with op := .move (.const (.bool true)), dst := none, guard := none }
def nopAt (l : List Oper) (c : Nat) : List Oper := l.set c (nopd (l.getD c default))
theorem nopAt_ne {l : List Oper} {c j : Nat} (h : j ≠ c) : (nopAt l c).toArray[j]? = l.toArray[j]? := by simp [nopAt, List.getElem?_set, Ne.symm h]
theorem nopAt_at {l : List Oper} {c : Nat} (h : c < l.length) : (nopAt l c).toArray[c]? = some (nopd (l.getD c default)) := by simp [nopAt, List.getElem?_set, h]
theorem nopAt_size {l : List Oper} {c : Nat} : (nopAt l c).toArray.size = l.toArray.size := by simp [nopAt]
theorem nopAt_yields {l : List Oper} {c : Nat} (hd : (l.getD c default).dst = none) (tm : Array Value) : yielded (nopAt l c).toArray tm = yielded l.toArray tm := by
  funext j
  unfold yielded
  by_cases h : j = c
  · subst h
    by_cases hl : j < l.length
    · rw [nopAt_at hl]
      have : l[j]? = some (l.getD j default) := by simp [hl]
      simp only [List.getElem?_toArray, this, Option.bind_some, hd, nopd]
    · simp [nopAt, Nat.le_of_not_lt hl]
  · rw [nopAt_ne h]
theorem nopAt_ready {l : List Oper} {c : Nat} (md : Region.Mode) (listed : Array Bool) : Region.ready md (nopAt l c).toArray listed = Region.ready md l.toArray listed := by
  unfold Region.ready
  rw [nopAt_size]
  refine List.filter_congr fun j hj => ?_
  by_cases h : j = c
  · subst h
    have hl : j < l.length := by simpa using hj
    rw [nopAt_at hl]
    have : l[j]? = some (l.getD j default) := by simp [hl]
    simp only [List.getElem?_toArray, this]
    rfl
  · rw [nopAt_ne h]
/-- c waits for all; none waits for what comes behind it. -/
def lastOf (l : List Oper) (c : Nat) : Bool := (List.range l.length).all (fun i => i == c || Region.reachB .any l.toArray i l.length c) && (List.range l.length).all (fun i => match l[i]? with | some o => o.after.all fun e => !Region.binds .any e || Nat.blt e.on i | none => true) && Nat.blt c l.length && (l.getD c default).dst.isNone
theorem all_listed {l : List Oper} {listed : Array Bool} (hs : listed.size = l.length) (h : ∀ i o, l[i]? = some o → ∀ e ∈ o.after, Region.binds .any e = true → e.on < i) (hr : Region.ready .any l.toArray listed = []) : ∀ i, i < l.length → listed.getD i true = true := by
  intro i
  induction i using Nat.strongRecOn with
  | _ i ih =>
    intro hi
    cases hl : listed.getD i true with
    | true => rfl
    | false =>
      exfalso
      have ho : l[i]? = some l[i] := by simp [hi]
      have : i ∈ Region.ready .any l.toArray listed := mem_ready.2 ⟨hl, l[i], by simp [hi], fun e he hb => by
        have h1 := h i _ ho e he hb
        have h2 := ih e.on h1 (by omega)
        have h3 : e.on < listed.size := by omega
        simpa [h3] using h2⟩
      rw [hr] at this
      cases this
theorem comm_any {l : List Oper} {c : Nat} (hc : lastOf l c = true) : ∀ (fuel t : Nat) (listed : Array Bool) (a : Act) (w : World), listed.size = l.length → ListedClosed .any l.toArray listed → listed.getD c true = false →
    wpAny Tryz.prog .any (nopAt l c).toArray (Exit.then (LS l.toArray Q [c]) Q) fuel listed a w → LS l.toArray Q (Region.linearise.go .any l.toArray fuel t listed []) a w := by
  unfold lastOf at hc
  simp only [Bool.and_eq_true] at hc
  obtain ⟨⟨⟨h1, h2⟩, h3⟩, h4⟩ := hc
  have hcl : c < l.length := by simpa [Nat.blt_eq] using h3
  have hdn : (l.getD c default).dst = none := by simpa using h4
  have hb : ∀ i o, l[i]? = some o → ∀ e ∈ o.after, Region.binds .any e = true → e.on < i := fun i o ho e he hb => by
    have hi : i < l.length := (List.getElem?_eq_some_iff.1 ho).1
    have h5 := List.all_eq_true.1 h2 i (List.mem_range.2 hi)
    simp only [ho] at h5
    have h6 := Array.all_eq_true_iff_forall_mem.1 h5 e he
    simpa [hb, Nat.blt_eq] using h6
  intro fuel
  induction fuel with
  | zero =>
    intro t listed a w hs hcd hun h
    have := all_listed hs hb (by rw [← nopAt_ready (c := c)]; exact h.1) c hcl
    rw [hun] at this; cases this
  | succ fuel ih =>
    intro t listed a w hs hcd hun h
    have hrd := nopAt_ready (l := l) (c := c) .any listed
    have hne : Region.ready .any l.toArray listed ≠ [] := fun h0 => by
      have := all_listed hs hb h0 c hcl
      rw [hun] at this; cases this
    obtain ⟨h5, h6⟩ := h
    rw [hrd] at h6
    simp only [Region.linearise.go]
    change LS l.toArray Q (match (Region.ready .any l.toArray listed)[t % (Region.ready .any l.toArray listed).length]? with
      | some i => Region.linearise.go .any l.toArray fuel (t / (Region.ready .any l.toArray listed).length) (listed.setIfInBounds i true) [i]
      | none => [].reverse) a w
    cases hi : (Region.ready .any l.toArray listed)[t % (Region.ready .any l.toArray listed).length]? with
    | none =>
      exfalso
      have hlt : t % (Region.ready .any l.toArray listed).length < (Region.ready .any l.toArray listed).length := Nat.mod_lt _ (List.length_pos_iff.2 hne)
      rw [List.getElem?_eq_getElem hlt] at hi
      cases hi
    | some i =>
      have him := List.mem_of_getElem? hi
      have h7 := h6 i him
      simp only []
      rw [linearise_go_acc, List.reverse_singleton, List.singleton_append]
      by_cases hic : i = c
      · subst hic
        have hall : ∀ j, j < l.length → j ≠ i → listed.getD j true = true := fun j hj hne => by
          have h8 := List.all_eq_true.1 h1 j (List.mem_range.2 hj)
          have h9 : Region.reachB .any l.toArray j l.length i = true := by simpa [hne] using h8
          cases hl : listed.getD j true with
          | true => rfl
          | false => exact absurd him (Go.Proofs.YtgbkjnikcnjbkaaGreatW.PrintLast.Region.reach_not_ready hcd h9 hl)
        have hr0 : Region.ready .any l.toArray (listed.setIfInBounds i true) = [] := by
          refine List.filter_eq_nil_iff.2 fun j hj => ?_
          have hj' : j < l.length := by simpa using hj
          by_cases hji : j = i
          · subst hji
            simp [Array.getElem?_setIfInBounds, hs, hj']
          · have := hall j hj' hji
            rw [getD_set_ne true (Ne.symm hji), this]
            simp
        have hgo : ∀ t, Region.linearise.go .any l.toArray fuel t (listed.setIfInBounds i true) [] = [] := fun t => by
          cases fuel with
          | zero => rfl
          | succ n =>
            simp only [Region.linearise.go]
            change (match (Region.ready .any l.toArray (listed.setIfInBounds i true))[t % (Region.ready .any l.toArray (listed.setIfInBounds i true)).length]? with
              | some i_1 => _
              | none => [].reverse) = []
            rw [hr0]
            rfl
        rw [hgo]
        unfold wpOp at h7
        rw [nopAt_at hcl] at h7
        simp only [Region.wanted, nopd, if_true] at h7
        have hmv : ∀ K : Act → World → Prop, (Oper.wp Tryz.prog { l.getD i default with op := .move (.const (.bool true)), dst := none, guard := none } a w K (Exit.then (LS l.toArray Q [i]) Q)) = K a w := fun K => by
          unfold Oper.wp
          simp [execOp, Act.eval, Oper.upon, Act.put]
        rw [hmv] at h7
        rcases h7 with h7 | ⟨⟨h7, _⟩, _⟩
        · cases fuel with
          | zero => exact h7.2
          | succ n => exact h7.1 (by rw [nopAt_ready]; exact hr0)
        · exfalso
          simp [execOp, Act.eval, Sem.runT] at h7
      · refine LS.cons (wpOp_mono (fun a w => ih _ _ a w (by simpa using hs) (hcd.set him) (by rw [getD_set_ne true hic]; exact hun)) ?_)
        exact wpOp_same (nopAt_ne hic) (nopAt_yields hdn) h7
end
section
variable {n : Nat} {M : List Deferred} {E : Env} {w0 : World} {L : Nat → Prop} {l : Bxs} {F : Fct} {ops : Array Oper} {Q : Exit → Act → World → Prop} {rest : List Nat} {o : Oper} {d : Nat} {v : Value} {K : Act → World → Prop}
theorem cZ {c : Code} (h : St n M E w0 L l F (CW none c Q)) : St n M E w0 L l F (CN c Q) := fun a W ha hk => cn_of (wpIn_wide.1 (h a W ha hk))
theorem cP {x y : Code} (h : St n M E w0 L l F (CN x (Exit.then (CN y Q) Q))) : St n M E w0 L l F (CN (.seq x y) Q) := fun a W ha hk => cn_seq (h a W ha hk)
theorem mG {c : Operand} {x y : Code} {b : Bool} (hc : ev E c = some (.bool b)) (hb : b = true) (h : St n M E w0 L l F (CN x Q)) : St n M E w0 L l F (CN (.cond c x y) Q) := fun a W ha hk => by
  subst hb
  exact cn_if (ha.eval hc) (h a W ha hk)
theorem mH {c : Operand} {x y : Code} {b : Bool} (hc : ev E c = some (.bool b)) (hb : b = false) (h : St n M E w0 L l F (CN y Q)) : St n M E w0 L l F (CN (.cond c x y) Q) := fun a W ha hk => by
  subst hb
  exact cn_if (ha.eval hc) (h a W ha hk)
theorem eE {f : FuncId} {fn : Func} {c : Code} {vs : List Value} {W : World} {R : Ending → World → Prop} (n : Nat) (hf : Tryz.prog.funcs[f]? = some fn) (hb : fn.body = some c) (hn : fn.ntmps = n) (hs : Nat.ble vs.length n = true)
    (k : Kb w0 L l F W) (h : St n [] (envA 0 vs) w0 L l F (CN c (bodyPost Tryz.prog fn R))) : Calls Tryz.prog f vs.toArray W R := by
  have hs' : vs.length ≤ n := Nat.le_of_ble_eq_true hs
  refine cn_calls hf hb (h _ _ ⟨?_, rfl, fun i v hi => ?_⟩ k)
  · simp [hn]; omega
  · have h1 := (envA_get vs 0 i v hi).2
    rw [Nat.sub_zero] at h1
    have hlt : i < vs.length := (List.getElem?_eq_some_iff.1 h1).1
    show (vs.toArray ++ _)[i]? = some v
    rw [Array.getElem?_append_left (by simpa using hlt)]
    simpa using h1
theorem fS {id : Nat} {r : List Oper} (is : List Nat) (hl : List.range r.length = is) (h : St n M E w0 L l F (LS r.toArray Q is)) : St n M E w0 L l F (CN (.region id r.toArray false) Q) := fun a W ha hk => LS.region (by
  have h1 := h a W ha hk
  rw [← hl] at h1
  simpa using h1)
theorem eZ (h : St n M E w0 L l F (Q .normal)) : St n M E w0 L l F (LS ops Q []) := fun a W ha hk => LS.nil (h a W ha hk)
theorem wpOp_of {i : Nat} {a : Act} {W : World} (hi : ops[i]? = some o) (hg : o.guard = none) (h : o.wp Tryz.prog a W K Q) : wpOp Tryz.prog ops Q i K a W := by
  unfold wpOp
  simp only [hi, Region.wanted, hg, if_true]
  exact .inl h
theorem ls_p {i : Nat} (h4 : D4 ops o n d i = (some o, none, some d, true)) (hp : Pu n M E o v) (h : St n M ((d, v) :: E) w0 L l F (LS ops Q rest)) : St n M E w0 L l F (LS ops Q (i :: rest)) := fun a W ha hk => by
  refine LS.cons (wpOp_of (d4 h4).1 (d4 h4).2.1 ?_)
  unfold Oper.wp
  rw [hp a W ha, Oper.upon_value, (d4 h4).2.2.1]
  exact h _ _ (ha.put (d4 h4).2.2.2 v) hk
theorem ls_r {i : Nat} (h4 : D4 ops o n d i = (some o, none, some d, true)) (hp : Rn n M E w0 L l F o v) (h : St n M ((d, v) :: E) w0 L l F (LS ops Q rest)) : St n M E w0 L l F (LS ops Q (i :: rest)) := fun a W ha hk => by
  refine LS.cons (wpOp_of (d4 h4).1 (d4 h4).2.1 ?_)
  unfold Oper.wp
  rw [hp a W ha hk, Oper.upon_value, (d4 h4).2.2.1]
  exact h _ _ (ha.put (d4 h4).2.2.2 v) hk
theorem mI {id : Nat} {r : List Oper} (l' : Bxs) (c : Nat) (ds : List Nat) (hc : lastOf r c = true) (hm : Tryz.prog.follows .mixedOrders = true) (hl' : ∀ W, Kb w0 L l F W → Kb w0 L l' F W) (h : St n M E w0 L l F (wpAnyLast Tryz.prog .any (nopAt r c).toArray (Exit.then (LS r.toArray Q [c]) Q) (Kb w0 L l' F) ds r.length (bA r.length 0))) : St n M E w0 L l F (CN (.region id r.toArray true) Q) := fun a W ha hk => by
  refine LS.draw fun t => ?_
  have h1 := h a W.drew ha hk.drew
  have h2 := wpAny_of_last _ _ _ _ h1
  simp only [Region.schedule, hm, Bool.true_or, if_true]
  have e : (bA r.length 0) = Array.replicate r.length false := by
    refine Array.ext (by simp [bA]) fun i h1 h2 => ?_
    simp [bA]
  rw [e] at h2
  refine comm_any hc r.toArray.size t _ a W.drew (by simp) ?_ ?_ (by simpa using h2)
  · intro j oj hj hl
    exfalso
    rw [Array.getD_eq_getD_getElem?] at hl
    by_cases h9 : j < r.length <;> simp [h9] at hl
  · have : c < r.length := by
      unfold lastOf at hc
      simp only [Bool.and_eq_true] at hc
      simpa [Nat.blt_eq] using hc.1.2
    simp [this]
/-- A channel of one's own. -/
abbrev Ch (cap : Nat) (buf : Array Value) (s r : Nat) : Obj := .chan cap buf false s r false
theorem ls_send {i k c cap s r : Nat} {x y : Operand} {buf : Array Value} (h3 : (ops[i]?, o.guard, o.dst, o.op) = (some o, none, none, .send x y)) (hx : (ev E x, ev E y) = (some (.chan (some c)), some v)) (hk : l[k]? = some (c, Ch cap buf s r)) (hr : Nat.blt buf.size cap = true) (l' : Bxs) (hl : l.set k (c, Ch cap (buf.push v) (s + 1) r) = l')
    (h : St n M E w0 L l' F (LS ops Q rest)) : St n M E w0 L l F (LS ops Q (i :: rest)) := fun a W ha hkb => by
  subst hl
  have q := e2 h3; have q2 := e2 q.2; have q3 := e2 q2.2
  have hX := ha.eval (e2 hx).1
  have hY := ha.eval (e2 hx).2
  have hc : W.heap[c]? = some (.chan cap buf false s r false) := hkb.bs.get k hk
  refine LS.move (v := undef) (w1 := W.setChan c cap (buf.push v) false (s + 1) r false) (fun b kk cs hb => ?_) ?_
  · exact step_lone_send_room (z' := .tuple #[]) (stepG_comm (cases := #[scase c v (.tuple #[])]) (blocking := true) (shape := .send) (w' := W) q.1 (by simp [Region.wanted, q2.1]) hb (by simp [execOp, q3.2, scase, hX, hY])) hc (by simpa [Nat.blt_eq] using hr)
  · rw [q.1]
    simp only [Option.bind_some, q3.1, Act.put]
    exact h a _ ha (hkb.turn k hk _)
def chB (P : Program) (e : TypeId) (z : Value) : Prop := (P.info? e).bind (·.zero) = some z
theorem run_zero {e : TypeId} {z : Value} (hz : chB Tryz.prog e z) (W : World) : (zeroValue e).run Tryz.prog W = .ok z W := by
  unfold chB at hz
  cases hi : Tryz.prog.info? e with
  | none => simp [hi] at hz
  | some ie =>
    simp [hi] at hz
    simp only [zeroValue, typeInfo, Sem.run_bind, Sem.run_pure, Result.andThen_ok, run_program, hi, hz]
theorem run_sel {a : Act} {x : Operand} {e : TypeId} {z : Value} {c : Nat} {W : World} (ho : o.op = .select #[{ chan := x, send := none, elem := e }] false) (hX : a.eval x = .chan (some c)) (hz : chB Tryz.prog e z) : (execOp a.eval o).run Tryz.prog W = .ok (.comm #[rcase c z] false .select) W := by
  have h := run_zero hz W
  unfold execOp
  simp [ho, h, hX, rcase]
theorem ls_selr {i k c cap s r : Nat} {x : Operand} {e : TypeId} {z u : Value} (h3 : (ops[i]?, o.guard, o.dst, o.op, Nat.blt d n) = (some o, none, some d, .select #[{ chan := x, send := none, elem := e }] false, true)) (hx : ev E x = some (.chan (some c))) (hk : l[k]? = some (c, Ch cap #[u] s r)) (hz : chB Tryz.prog e z) (l' : Bxs) (hl : l.set k (c, Ch cap #[] s (r + 1)) = l')
    (h : St n M ((d, .tuple [.int .i64 0, .bool true, u].toArray) :: E) w0 L l' F (LS ops Q rest)) : St n M E w0 L l F (LS ops Q (i :: rest)) := fun a W ha hkb => by
  subst hl
  have q := e2 h3; have q2 := e2 q.2; have q3 := e2 q2.2; have q4 := e2 q3.2
  have hX := ha.eval hx
  have hc : W.heap[c]? = some (.chan cap #[u] false s r false) := hkb.bs.get k hk
  refine LS.move (v := .tuple #[goInt 0, .bool true, u]) (w1 := W.setChan c cap #[] false s (r + 1) false) (fun b kk cs hb => ?_) ?_
  · have := step_lone_select_recv_buf (P := Tryz.prog) (fr := b.at a (.inRegion ops (i :: rest) :: kk)) (cs := cs) (w := W) (z := z) (stepG_comm (cases := #[rcase c z]) (blocking := false) (shape := .select) (w' := W) q.1 (by simp [Region.wanted, q2.1]) hb (run_sel q4.1 hX hz)) hc (by simp)
    simp at this
    exact this
  · rw [q.1]
    simp only [Option.bind_some, q3.1]
    exact h _ _ (ha.put q4.2 _) (hkb.turn k hk _)
theorem ls_seld {i k c cap s r : Nat} {x : Operand} {e : TypeId} {z : Value} (h3 : (ops[i]?, o.guard, o.dst, o.op, Nat.blt d n) = (some o, none, some d, .select #[{ chan := x, send := none, elem := e }] false, true)) (hx : ev E x = some (.chan (some c))) (hk : l[k]? = some (c, Ch cap #[] s r)) (hz : chB Tryz.prog e z)
    (h : St n M ((d, .tuple [.int .i64 (-1), .bool false, z].toArray) :: E) w0 L l F (LS ops Q rest)) : St n M E w0 L l F (LS ops Q (i :: rest)) := fun a W ha hkb => by
  have q := e2 h3; have q2 := e2 q.2; have q3 := e2 q2.2; have q4 := e2 q3.2
  have hX := ha.eval hx
  have hc : W.heap[c]? = some (.chan cap #[] false s r false) := hkb.bs.get k hk
  refine LS.move (v := .tuple #[goInt (-1), .bool false, z]) (w1 := W) (fun b kk cs hb => ?_) ?_
  · exact step_lone_select_default (P := Tryz.prog) (fr := b.at a (.inRegion ops (i :: rest) :: kk)) (cs := cs) (w := W) (z := z) (stepG_comm (cases := #[rcase c z]) (blocking := false) (shape := .select) (w' := W) q.1 (by simp [Region.wanted, q2.1]) hb (run_sel q4.1 hX hz)) hc
  · rw [q.1]
    simp only [Option.bind_some, q3.1]
    exact h _ _ (ha.put q4.2 _) hkb
/-- A new channel. -/
def mkB (P : Program) (t : TypeId) : Prop := ∀ w, (Instr.makeChan t (.int .i64 1)).run P w = .ok (.chan (some w.heap.size)) (w.alloc (.chan 1 #[] false 0 0 false))
theorem mk_of {P : Program} {t : TypeId} (dir : ChanDir) (e : TypeId) (hu : P.underlying t = some (.chan dir e)) (hb : ((P.info? e).map fun i => Nat.ble i.bytes 1000000) = some true) : mkB P t := fun w => by
  cases hi : P.info? e with
  | none => simp [hi] at hb
  | some i =>
    have h1 : i.bytes ≤ 1000000 := by simpa [hi] using hb
    simpa using run_makeChan (P := P) (w := w) hu hi .i64 1 (by omega) (by omega)
theorem kS {t : TypeId} (hm : mkB Tryz.prog t) (h3 : (o.op, o.dst, Nat.blt d n) = (.makeChan t (.const (.int .i64 1)), some d, true)) (h : ∀ g, St n M ((d, .chan (some g)) :: E) w0 L ((g, Ch 1 #[] 0 0) :: l) F K) : Fx n M E w0 L l F Q o K := by
  have q := e2 h3; have q2 := e2 q.2
  refine ⟨fun c => by rw [q.1]; simp, fun a W ha hkb => ?_⟩
  revert ha hkb
  intro ha hkb
  unfold Oper.wp
  have := hm W
  simp only [execOp, q.1, Act.eval, Sem.run_bind, Sem.run_pure, Result.andThen_ok, this, Oper.upon_value, q2.1]
  exact h W.heap.size _ _ (ha.put q2.2 _) (hkb.alloc (.chan 1 #[] false 0 0 false))
end
end
end Go.Proofs.YtgbkjnikcnjbkaaGreat.Top
namespace Go.Proofs.YtgbkjnikcnjbkaaGreat.Top
open Go Go.Proofs.YtgbkjnikcnjbkaaGreatW.PrintLast Go.Proofs.YtgbkjnikcnjbkaaGreatW.PrintMore Go.Proofs.YtgbkjnikcnjbkaaGreatW.PrintWords Go.RowKit
set_option linter.unusedSimpArgs false
set_option linter.unusedVariables false
set_option maxHeartbeats 8000000
set_option maxRecDepth 100000
theorem gS : foB Tryz.prog 35 1 1 = true := by kernel_rfl
theorem jS : foB Tryz.prog 35 0 0 = true := by kernel_rfl
theorem mk212 : mkB Tryz.prog 212 := mk_of .both 3 (by kernel_rfl) (by kernel_rfl)
theorem dK : rowB Tryz.prog 35 2 = true := by kernel_rfl
theorem rY : fnB Tryz.prog 164 = true := by kernel_rfl
theorem gC : zeroB Tryz.prog 35 (#[.slice none 0 0, I 0]) := by unfold zeroB; kernel_rfl
theorem oU : fnB Tryz.prog 162 = true := by kernel_rfl
theorem ch3 : chB Tryz.prog 3 (I 0) := by unfold chB; kernel_rfl
theorem iQ : szB Tryz.prog 35 2 = true := by kernel_rfl
theorem rZ : fnB Tryz.prog 155 = true := by kernel_rfl
def tpc (t : Tp) (h : Hd) : Array Value := #[.slice h.A t.l.length h.c, I t.i]
/-- A tape that may be. -/
structure TpOk (t : Tp) : Prop where
  i : 0 ≤ t.i ∧ t.i ≤ 1000000
  l : t.l.length ≤ 100000
theorem sA {n : Nat} {M : List Deferred} {E : Env} {o : Oper} {t t' : TypeId} {x y : Operand} {p q : Int} (hq : 1 ≤ q) (h1 : q ≤ 100000) (ho : o.op = .binOp .rem t x y t') (hx : ev E x = some (I p)) (hy : ev E y = some (I q)) : Pu n M E o (I (p.tmod q)) := cS ho hx hy fun W => by
  have h2 : ¬ q = 0 := by omega
  have h3 := Int.lt_tmod_of_pos p (show 0 < q by omega)
  have h4 := Int.tmod_lt_of_pos p (b := q) (by omega)
  have h5 : wrap64 (p.tmod q) = p.tmod q := by unfold wrap64; omega
  simp [go_sem, h2, i64_w, h5]
theorem tleft_is (L : Nat → Prop) (t : Tp) (h : Hd) (ht : TpOk t) (w : World) (cx : Cx L w) (hr : RS L h t.l.length (t.l.map I) w) : Calls Tryz.prog 164 [.agg (tpc t h)].toArray w (fun e w' => e = .returned (I (leftS t)) ∧ Below w.heap.size w w') := by
  refine ent 13 Tryz.func164 rfl (Kb.start cx hr.kn0) <| sr <| lx rfl <| bC (tpc t h) rfl rfl rfl rfl rfl fun g1 => ?_
  refine lp (pas rfl) rfl <| nt <| aE <| sr <| lp (pfa gS 1 rfl) rfl <| lr (rce 0 (I t.i) aJ rfl) rfl <| lp (pls rfl) rfl <| nt <| aM rfl (aB (by have := ht.i; omega)) <| aI <| aC <| sr <| lp (pfa jS 0 rfl) rfl <| lr (rce 0 (.slice h.A t.l.length h.c) bX rfl) rfl <| lp (pln fP rfl) rfl <| lp (pfa gS 1 rfl) rfl <| lr (rce 0 (I t.i) aJ rfl) rfl <| lp (psb (t.l.length - t.i) (by have := ht.i; have := ht.l; unfold wrap64; omega) rfl) rfl <| lp (hO rfl rfl rfl) rfl <| lp (pas rfl) rfl <| nt <| aF <| aG _ (res1 rfl (aD rfl)) (fun W k => ?_)
  exact ⟨congrArg Ending.returned (congrArg I (by unfold leftS; rw [if_neg (by have := ht.i; omega)])), k.below⟩
theorem left_pos {t : Tp} (h : 0 < leftS t) : 0 ≤ t.i ∧ t.i < t.l.length := by
  unfold leftS mxS at h
  split at h
  · omega
  · split at h <;> omega
def aheadS (t : Tp) : Array Value := if 0 < leftS t then #[I (t.l.getD t.i.toNat 0)] else #[]
theorem ahead_is (L : Nat → Prop) (t : Tp) (h : Hd) (ht : TpOk t) (w : World) (cx : Cx L w) (hr : RS L h t.l.length (t.l.map I) w) : Calls Tryz.prog 162 [.agg (tpc t h)].toArray w (fun e w' => ∃ c s r, e = .returned (.chan (some c)) ∧ w.heap.size ≤ c ∧ Bk (c, Ch 1 (aheadS t) s r) w' ∧ Below w.heap.size w w') := by
  refine eE 16 Tryz.func162 rfl rfl rfl (Kb.start cx hr.kn0) <| cP <| cZ <| aU <| lx rfl <| bC (tpc t h) rfl rfl rfl rfl rfl fun g1 => ?_
  refine lp (pas rfl) rfl <| nt <| cP <| cZ <| aU <| lx rfl <| kS mk212 rfl fun g2 => ?_
  refine lp (pas rfl) rfl <| nt <| cP <| cP <| cZ <| aU <| lr (ral 1 dK rfl) rfl <| lx rfl <| fcv rY rfl (fun W k => tleft_is _ t h ht W k.cx k.kn.here) <| lp (pgt rfl) rfl <| nt ?_
  by_cases c1 : 0 < leftS t
  refine mG rfl (aA c1) <| fS [0, 1, 2, 3, 4, 5, 6, 7] rfl <| ls_p rfl (fH rfl rfl) <| ls_p rfl (eC 0 0 jS rfl rfl rfl) <| ls_r rfl (cT 1 (.slice h.A t.l.length h.c) bX rfl rfl rfl rfl) <| ls_p rfl (eC 1 1 gS rfl rfl rfl) <| ls_r rfl (cT 1 (I t.i) aJ rfl rfl rfl rfl) <| bP (fun W k => RS.addr k.kn.here (by have := left_pos (t := t) (by omega); simp; omega)) ?_
  rintro ⟨B1, p1, hA1⟩
  refine ls_p rfl (jC 1 fW rfl rfl rfl hA1 (left_pos (by omega)).1 (left_pos (by omega)).2) <| ls_r rfl (cA (I (t.l.getD (t.i).toNat 0)) aJ rfl rfl (fun W k => RS.one k.kn.here hA1 _ (ints_at t.l _ (left_pos (by omega)).1 (left_pos (by omega)).2))) <| ls_send (k := 0) rfl rfl rfl rfl [(g2, Ch 1 #[I (t.l.getD (t.i).toNat 0)] 1 0), _] rfl <| eZ <| aC <| cZ <| sr <| lp (pmv rfl) rfl <| lp (pas rfl) rfl <| nt <| aF <| aG _ (res1 rfl (aD rfl)) (fun W k => ?_)
  refine ⟨g2, 1, 0, rfl, k.own _ (List.mem_of_getElem? (i := 0) rfl), ?_, k.below⟩
  have := k.bs.get 0 rfl; unfold aheadS; rw [if_pos c1]; exact this
  refine mH rfl (aB c1) <| cZ <| aI <| aC <| cZ <| sr <| lp (pmv rfl) rfl <| lp (pas rfl) rfl <| nt <| aF <| aG _ (res1 rfl (aD rfl)) (fun W k => ?_)
  refine ⟨g2, 0, 0, rfl, k.own _ (List.mem_of_getElem? (i := 0) rfl), ?_, k.below⟩
  have := k.bs.get 0 rfl; unfold aheadS; rw [if_neg c1]; exact this
theorem ahead_y (L : Nat → Prop) (t : Tp) (h : Hd) (ht : TpOk t) (w : World) (cx : Cx L w) (hr : RS L h t.l.length (t.l.map I) w) (c1 : 0 < leftS t) : Calls Tryz.prog 162 [.agg (tpc t h)].toArray w (fun e w' => ∃ c s r, e = .returned (.chan (some c)) ∧ w.heap.size ≤ c ∧ Bk (c, Ch 1 #[I (t.l.getD (t.i).toNat 0)] s r) w' ∧ Below w.heap.size w w') := by
  have := ahead_is L t h ht w cx hr
  unfold aheadS at this
  rw [if_pos c1] at this
  exact this
theorem ahead_n (L : Nat → Prop) (t : Tp) (h : Hd) (ht : TpOk t) (w : World) (cx : Cx L w) (hr : RS L h t.l.length (t.l.map I) w) (c1 : ¬ 0 < leftS t) : Calls Tryz.prog 162 [.agg (tpc t h)].toArray w (fun e w' => ∃ c s r, e = .returned (.chan (some c)) ∧ w.heap.size ≤ c ∧ Bk (c, Ch 1 #[] s r) w' ∧ Below w.heap.size w w') := by
  have := ahead_is L t h ht w cx hr
  unfold aheadS at this
  rw [if_neg c1] at this
  exact this
theorem next_y (L : Nat → Prop) (t : Tp) (h : Hd) (ht : TpOk t) (w : World) (cx : Cx L w) (hr : RS L h t.l.length (t.l.map I) w) (c1 : 0 < leftS t) : Calls Tryz.prog 155 [.agg (tpc t h)].toArray w (fun e w' => e = .returned (.tuple [I (nextS t).1, .agg (tpc (nextS t).2 h)].toArray) ∧ Below w.heap.size w w') := by
  refine eE 18 Tryz.func155 rfl rfl rfl (Kb.start cx hr.kn0) <| cP <| cZ <| aU <| lx rfl <| bC (tpc t h) rfl rfl rfl rfl rfl fun g1 => ?_
  refine lp (pas rfl) rfl <| lx rfl <| fal gC rfl fun g2 => ?_
  refine nt <| cP <| cZ <| aU <| lr (ral 1 dK rfl) rfl <| lx rfl <| fca oU rfl (fun W k => ahead_y _ t h ht W k.cx k.kn.here c1) ?_
  rintro _ _ W1 k ⟨g3, cs1, cr1, rfl, hg1, hk1, hb1⟩
  refine nx (k.adopt hb1 (g3, Ch 1 #[I (t.l.getD (t.i).toNat 0)] cs1 cr1) hg1 hk1) <| nt <| cP <| fS [0, 1, 2] rfl <| ls_selr (k := 0) rfl rfl rfl ch3 [(g3, Ch 1 #[] cs1 (cr1 + 1)), _, _] rfl <| ls_p rfl (jB rfl rfl rfl) <| ls_p rfl (eO rfl rfl rfl) <| eZ <| aC <| cZ <| aP <| aQ rfl rfl <| sr <| lp (pex rfl) rfl <| lp (pas rfl) rfl <| nt <| sr <| lp (pfa gS 1 rfl) rfl <| lr (rce 2 (I t.i) aJ rfl) rfl <| lp (pad (t.i + 1) (by have := ht.i; unfold wrap64; omega) rfl) rfl <| lp (pfa gS 1 rfl) rfl <| lx rfl <| fst 2 [_, _, (g1, Ce 35 (tpc { t with i := t.i + 1 } h))] cG rfl rfl <| nt <| aE <| dst [3] <| dp 0 rfl (pmv rfl) <| dp 2 rfl (pas rfl) <| dr 1 rfl (fun _ h => h) (ral 2 dK rfl) <| dl 3 rfl <| ffl 1 [_, (g2, Ce 35 (tpc { t with i := t.i + 1 } h)), _] iQ rfl rfl <| dd <| aC <| aF (bD ?_)
  refine aG _ (res2 rfl (aD rfl) (aO 1 2 dK rfl rfl rfl)) (fun W k => ?_)
  exact ⟨by unfold nextS; rw [if_pos c1], k.below⟩
theorem next_n (L : Nat → Prop) (t : Tp) (h : Hd) (ht : TpOk t) (w : World) (cx : Cx L w) (hr : RS L h t.l.length (t.l.map I) w) (c1 : ¬ 0 < leftS t) : Calls Tryz.prog 155 [.agg (tpc t h)].toArray w (fun e w' => e = .returned (.tuple [I (nextS t).1, .agg (tpc (nextS t).2 h)].toArray) ∧ Below w.heap.size w w') := by
  refine eE 18 Tryz.func155 rfl rfl rfl (Kb.start cx hr.kn0) <| cP <| cZ <| aU <| lx rfl <| bC (tpc t h) rfl rfl rfl rfl rfl fun g1 => ?_
  refine lp (pas rfl) rfl <| lx rfl <| fal gC rfl fun g2 => ?_
  refine nt <| cP <| cZ <| aU <| lr (ral 1 dK rfl) rfl <| lx rfl <| fca oU rfl (fun W k => ahead_n _ t h ht W k.cx k.kn.here c1) ?_
  rintro _ _ W1 k ⟨g3, cs1, cr1, rfl, hg1, hk1, hb1⟩
  refine nx (k.adopt hb1 (g3, Ch 1 #[] cs1 cr1) hg1 hk1) <| nt <| cP <| fS [0, 1, 2] rfl <| ls_seld (k := 0) rfl rfl rfl ch3 <| ls_p rfl (jB rfl rfl rfl) <| ls_p rfl (eO rfl rfl rfl) <| eZ <| aC <| cZ <| aP <| aM rfl rfl <| aE <| dst [2] <| dp 1 rfl (pas rfl) <| dr 0 rfl (fun _ h => h) (ral 2 dK rfl) <| dl 2 rfl <| ffl 1 [_, (g2, Ce 35 (tpc t h)), _] iQ rfl rfl <| dd <| aC <| aF (bD ?_)
  refine aG _ (res2 rfl (aD rfl) (aO 1 2 dK rfl rfl rfl)) (fun W k => ?_)
  exact ⟨by unfold nextS; rw [if_neg c1], k.below⟩
theorem tnext_is (L : Nat → Prop) (t : Tp) (h : Hd) (ht : TpOk t) (w : World) (cx : Cx L w) (hr : RS L h t.l.length (t.l.map I) w) : Calls Tryz.prog 155 [.agg (tpc t h)].toArray w (fun e w' => e = .returned (.tuple [I (nextS t).1, .agg (tpc (nextS t).2 h)].toArray) ∧ Below w.heap.size w w') := by
  by_cases c1 : 0 < leftS t
  · exact next_y L t h ht w cx hr c1
  · exact next_n L t h ht w cx hr c1
theorem tbelow_is (L : Nat → Prop) (t : Tp) (h : Hd) (ht : TpOk t) (n : Int) (hn : 1 ≤ n ∧ n ≤ 1000) (w : World) (cx : Cx L w) (hr : RS L h t.l.length (t.l.map I) w) : Calls Tryz.prog 146 [.agg (tpc t h), I n].toArray w (fun e w' => e = .returned (.tuple [I (belowS t n).1, .agg (tpc (belowS t n).2 h)].toArray) ∧ Below w.heap.size w w') := by
  refine ent 26 Tryz.func146 rfl (Kb.start cx hr.kn0) <| sr <| lx rfl <| bC (tpc t h) rfl rfl rfl rfl rfl fun g1 => ?_
  refine lp (pas rfl) rfl <| lx rfl <| fal gC rfl fun g2 => ?_
  refine nt <| aE <| sr <| lp (pmv rfl) rfl <| lp (pls rfl) rfl <| nt <| aM rfl (aB (by omega)) <| aI <| aC <| sr <| lr (ral 1 dK rfl) rfl <| lx rfl <| fcv rZ rfl (fun W k => tnext_is _ t h ht W k.cx k.kn.here) <| lp (pmv rfl) rfl <| lp (pex rfl) rfl <| lp (pex rfl) rfl <| lx rfl <| fal gC rfl fun g3 => ?_
  refine lp (pas rfl) rfl <| lx rfl <| ffl 0 [(g3, Ce 35 (tpc ((nextS t).2) h)), _, _] iQ rfl rfl <| nt <| aE <| sr <| lp (pmv rfl) rfl <| lp (pmv rfl) rfl <| lp (sA (by omega) (by omega) rfl rfl rfl) rfl <| lp (pas rfl) rfl <| nt <| sr <| lp (pmv rfl) rfl <| lp (pls rfl) rfl <| nt ?_
  by_cases c1 : ((nextS t).1).tmod n < 0
  refine aQ rfl (aA c1) <| aU <| lp (pmv rfl) rfl <| lp (pmv rfl) rfl <| lp (pad (((nextS t).1).tmod n + n) (by have := Int.lt_tmod_of_pos (nextS t).1 (show 0 < n by omega); have := Int.tmod_lt_of_pos (nextS t).1 (b := n) (by omega); unfold wrap64; omega) rfl) rfl <| lp (pas rfl) rfl <| nt <| aE <| dst [3] <| dp 0 rfl (pmv rfl) <| dp 2 rfl (pas rfl) <| dr 1 rfl (fun _ h => h) (ral 0 dK rfl) <| dl 3 rfl <| ffl 1 [_, (g2, Ce 35 (tpc ((nextS t).2) h)), _] iQ rfl rfl <| dd <| aC <| aF <| aG _ (res2 rfl (aD rfl) (aO 1 2 dK rfl rfl rfl)) (fun W k => ?_)
  exact ⟨by unfold belowS; rw [if_neg (by omega), if_pos c1], k.below⟩
  refine aM rfl (aB c1) <| aI <| aC <| aE <| dst [3] <| dp 0 rfl (pmv rfl) <| dp 2 rfl (pas rfl) <| dr 1 rfl (fun _ h => h) (ral 0 dK rfl) <| dl 3 rfl <| ffl 1 [_, (g2, Ce 35 (tpc ((nextS t).2) h)), _] iQ rfl rfl <| dd <| aC <| aF <| aG _ (res2 rfl (aD rfl) (aO 1 2 dK rfl rfl rfl)) (fun W k => ?_)
  exact ⟨by unfold belowS; rw [if_neg (by omega), if_neg c1], k.below⟩
section
/-- A diver's cells. -/
def dc (T : Tn) (s : Sl) (o : Int) : Array Value := #[I T.c.th, I T.c.it, I T.c.be, I T.c.de, I T.c.la, I T.c.wi, I T.c.sp, I T.c.wa, .bool T.c.bo, I T.c.lo, I T.c.hi, I T.c.ini, I T.t, I T.now, .slice s.words.A T.m.words.length s.words.c, .slice s.boxes.A T.m.boxes.length s.boxes.c, I T.th.ph, I T.th.item, I T.th.tag, I T.th.v, .slice s.batch.A T.th.batch.length s.batch.c, .slice s.kids.A T.th.kids.length s.kids.c, .slice s.held.A T.th.held.length s.held.c, I T.th.stop, I T.th.node, I T.th.at_, I T.th.layer, I T.th.left, I T.th.width, I T.th.who, I T.th.x, I T.th.y, I T.th.until_, .slice s.tl.A T.tp.l.length s.tl.c, I T.tp.i, .slice s.log.A T.log.length s.log.c, .bool T.done, I o]
theorem putL_dc (T U : Tn) (s r : Sl) (o : Int) : putL (dc T s o) 0 (tc U r).toList = dc U r o := by kernel_rfl
/-- A type that is no interface. -/
def nifB (P : Program) (t : TypeId) : Bool := match P.underlying t with | some (.interface _) => false | some _ => true | none => false
section
variable {n : Nat} {M : List Deferred} {E : Env} {o : Oper}
theorem eK {t : TypeId} {x : Operand} {v : Value} (hn : nifB Tryz.prog t = true) (ho : o.op = .makeInterface t x) (hx : ev E x = some v) : Pu n M E o (.iface t v) := fun a W ha => by
  have h := ha.eval hx
  unfold nifB at hn
  cases hu : Tryz.prog.underlying t with
  | none => simp [hu] at hn
  | some D => cases D <;> first | (simp [hu] at hn; done) | simp [execOp, ho, h, Instr.makeInterface, run_underlying hu]
theorem iB {t xt : TypeId} {x : Operand} {v : Value} (hn : nifB Tryz.prog t = true) (ho : o.op = .typeAssert x xt t true) (hx : ev E x = some (.iface t v)) : Pu n M E o (.tuple [v, .bool true].toArray) := fun a W ha => by
  have h := ha.eval hx
  unfold nifB at hn
  cases hu : Tryz.prog.underlying t with
  | none => simp [hu] at hn
  | some D => cases D <;> first | (simp [hu] at hn; done) | simp [execOp, ho, h, Instr.typeAssert, run_underlying hu]
theorem pJ {t xt : TypeId} {x : Operand} {v : Value} (hn : nifB Tryz.prog t = true) (ho : o.op = .typeAssert x xt t false) (hx : ev E x = some (.iface t v)) : Pu n M E o v := fun a W ha => by
  have h := ha.eval hx
  unfold nifB at hn
  cases hu : Tryz.prog.underlying t with
  | none => simp [hu] at hn
  | some D => cases D <;> first | (simp [hu] at hn; done) | simp [execOp, ho, h, Instr.typeAssert, run_underlying hu]
def zvB (P : Program) (t : TypeId) (z : Value) : Prop := ((P.info? t).bind (·.zero)) = some z
theorem gJ {t xt d : TypeId} {x : Operand} {v z : Value} (hn : nifB Tryz.prog t = true) (hz : zvB Tryz.prog t z) (hd : Nat.beq d t = false) (ho : o.op = .typeAssert x xt t true) (hx : ev E x = some (.iface d v)) : Pu n M E o (.tuple [z, .bool false].toArray) := fun a W ha => by
  have h := ha.eval hx
  unfold nifB at hn
  have hne : d ≠ t := fun e => by subst e; simp at hd
  unfold zvB at hz
  cases hi : Tryz.prog.info? t with
  | none => simp [hi] at hz
  | some i =>
    have hz' : i.zero = some z := by simpa [hi] using hz
    cases hu : Tryz.prog.underlying t with
    | none => simp [hu] at hn
    | some D => cases D <;> first | (simp [hu] at hn; done) | simp [execOp, ho, h, Instr.typeAssert, run_underlying hu, hne, zeroValue, typeInfo, hi, hz']
theorem inil20 (d : TypeId) (v : Value) (x y : Operand) (W : World) : ((do eqGuard .eql 20 x y (.iface d v) .nilIface; binOp .eql 20 (.iface d v) .nilIface : Sem Value)).run Tryz.prog W = .ok (.bool false) W := by
  simp [go_sem]
theorem nili20 (x : Operand) (c : Value) (W : World) : ((do eqGuard .eql 20 x (.const c) .nilIface .nilIface; binOp .eql 20 .nilIface .nilIface : Sem Value)).run Tryz.prog W = .ok (.bool true) W := by
  simp [go_sem, eqGuard]
theorem eL {t' d : TypeId} {x y : Operand} {v : Value} (ho : o.op = .binOp .eql 20 x y t') (hx : ev E x = some (.iface d v)) (hy : ev E y = some .nilIface) : Pu n M E o (.bool false) := cS ho hx hy (inil20 d v x y)
theorem pK {t' : TypeId} {x : Operand} {c : Value} (ho : o.op = .binOp .eql 20 x (.const c) t') (hx : ev E x = some .nilIface) (hy : ev E (.const c) = some .nilIface) : Pu n M E o (.bool true) := cS ho hx hy (nili20 x c)
variable {w0 : World} {L : Nat → Prop} {l : Bxs} {F : Fct} {Q : Exit → Act → World → Prop} {K : Act → World → Prop}
theorem nX {t : TypeId} {x y : Operand} {b : Nat} {tt : TypeId} {T U : Tn} {s r : Sl} {op : Int} (k : Nat) (l' : Bxs) (ho : o.op = .store t x y) (hd : o.dst = none) (hx : ev E x = some (.pointer (some ⟨b, 0, none⟩))) (hy : ev E y = some (.agg (tc U r))) (hk : l[k]? = some (b, Ce tt (dc T s op))) (hi : szB Tryz.prog t 37 = true)
    (hl : l.set k (b, Ce tt (dc U r op)) = l') (h : St n M E w0 L l' F K) : Fx n M E w0 L l F Q o K :=
  jE k l' ho hd hx hy hk hi (by rfl) (by rfl) (by rw [show putL (dc T s op) 0 (Value.agg (tc U r)).cells.toList = dc U r op from putL_dc T U s r op]; exact hl) h
end
end
end Go.Proofs.YtgbkjnikcnjbkaaGreat.Top
