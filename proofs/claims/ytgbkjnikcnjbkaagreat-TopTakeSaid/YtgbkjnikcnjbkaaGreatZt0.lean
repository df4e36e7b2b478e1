/- Part 0 of the proof of TopTake: TopP, TopQA, TopQB, TopQC, TopQD, TopQE, TopQF, TopQG, TopQH, TopQI, TopQU, TopQV, WWords, WLast, WMore, TopA, TopD, TopE, TopK, TopL. -/
import Derived.ArgAppend
import Derived.Below
import Derived.BigQuiet
import Derived.BigRegion
import Derived.Deep.AppendLies
import Derived.Deep.Cut
import Derived.Deep.CutBlock
import Derived.Deep.DeepCutAuto
import Derived.Deep.Draws
import Derived.Deep.LoopGhost
import Derived.Deep.OwnRows
import Derived.Deep.QuietTactic
import Derived.Deep.RegionHeld3
import Derived.KernelRfl
import Derived.Laws.AppendOwn
import Derived.Laws.AppendOwnNone
import Derived.Laws.BitsLemmas
import Derived.Laws.BytesArg
import Derived.Laws.IdiomCopy
import Derived.Laws.MakeOwn
import Derived.Laws.OwnMore
import Derived.Laws.Rows
import Derived.Laws.Slices
import Derived.Lib.AppendStr
import Derived.Lib.ConvBytes
import Derived.Maps.AppendAt
import Derived.OrdersHeld
import Derived.Outline
import Derived.OwnWalk
import Derived.RangeFuncRecord
import Derived.RegionTactic
import Derived.RowKit
import Derived.RowKit3
import Derived.Tactics
import Derived.Test.YtgbkjnikcnjbkaaGreatProg
import Derived.WalkKit
import Derived.WalkSpells
import Derived.WideLaws
namespace Go.Proofs.YtgbkjnikcnjbkaaGreat.Top
open Go Go.RowKit
set_option linter.unusedVariables false
theorem aA {p : Prop} [h : Decidable p] (x : p) : decide p = true := decide_eq_true x
theorem aB {p : Prop} [h : Decidable p] (x : ¬ p) : decide p = false := decide_eq_false x
/-- A config's numbers. -/
structure Cf where
  th : Int
  it : Int
  be : Int
  de : Int
  la : Int
  wi : Int
  sp : Int
  wa : Int
  bo : Bool
  lo : Int
  hi : Int
  ini : Int
/-- A config that may be. -/
structure CfOk (c : Cf) : Prop where
  th : 1 ≤ c.th ∧ c.th ≤ 16
  it : 1 ≤ c.it ∧ c.it ≤ 4
  be : 1 ≤ c.be ∧ c.be ≤ 3
  de : 0 ≤ c.de ∧ c.de ≤ 4
  la : 0 ≤ c.la ∧ c.la ≤ 3
  wi : 1 ≤ c.wi ∧ c.wi ≤ 8
  sp : 0 ≤ c.sp ∧ c.sp ≤ 20
  wa : 0 ≤ c.wa ∧ c.wa ≤ 1000
/-- Two to the depth. -/
def p2 (d : Int) : Int := if d = 0 then 1 else if d = 1 then 2 else if d = 2 then 4 else if d = 3 then 8 else 16
def blockS (c : Cf) : Int := p2 c.de + c.la * c.wi
def linesS (c : Cf) : Int := c.it * blockS c
def sizeS (c : Cf) : Int := linesS c + 2 * c.th
def stepsS (c : Cf) : Int := 20 + 8 * c.de + c.la * (20 + 2 * c.sp)
def cellS (c : Cf) (item : Int) : Int := if 0 ≤ item ∧ item < c.it then item * blockS c else -1
def nodeS (c : Cf) (item n : Int) : Int := if (0 ≤ item ∧ item < c.it) ∧ (1 ≤ n ∧ n < p2 c.de) then item * blockS c + n else -1
def slotS (c : Cf) (item layer i : Int) : Int := if ((0 ≤ item ∧ item < c.it) ∧ (1 ≤ layer ∧ layer < 1 + c.la)) ∧ (0 ≤ i ∧ i < c.wi) then item * blockS c + p2 c.de + (layer - 1) * c.wi + i else -1
def lineS (c : Cf) (t : Int) : Int := if 0 ≤ t ∧ t < c.th then linesS c + 2 * t else -1
def resultS (c : Cf) (t : Int) : Int := if 0 ≤ t ∧ t < c.th then linesS c + 2 * t + 1 else -1
theorem p2_le {d : Int} (hd : 0 ≤ d ∧ d ≤ 4) : 1 ≤ p2 d ∧ p2 d ≤ 16 := by unfold p2; split <;> (try split) <;> (try split) <;> (try split) <;> omega
theorem mul_le_of {a b p q : Int} (a0 : 0 ≤ a) (a1 : a ≤ p) (b0 : 0 ≤ b) (b1 : b ≤ q) : 0 ≤ a * b ∧ a * b ≤ p * q := ⟨Int.mul_nonneg a0 b0, Int.mul_le_mul a1 b1 b0 (by omega)⟩
theorem block_le {c : Cf} (h : CfOk c) : 1 ≤ blockS c ∧ blockS c ≤ 40 := by
  have h1 := p2_le h.de
  have h2 := mul_le_of h.la.1 h.la.2 (show 0 ≤ c.wi by have := h.wi; omega) h.wi.2
  unfold blockS
  omega
theorem lines_le {c : Cf} (h : CfOk c) : 1 ≤ linesS c ∧ linesS c ≤ 160 := by
  have h1 := block_le h
  have h2 := mul_le_of (show 0 ≤ c.it - 1 by have := h.it; omega) (show c.it - 1 ≤ 3 by have := h.it; omega) (show 0 ≤ blockS c by omega) h1.2
  have e : c.it * blockS c = (c.it - 1) * blockS c + blockS c := by rw [Int.sub_mul, Int.one_mul]; omega
  unfold linesS
  rw [e]
  omega
theorem steps_le {c : Cf} (h : CfOk c) : 20 ≤ stepsS c ∧ stepsS c ≤ 232 := by
  have h1 := h.de
  have h2 := h.sp
  have h3 := mul_le_of h.la.1 h.la.2 (show 0 ≤ 20 + 2 * c.sp by omega) (show 20 + 2 * c.sp ≤ 60 by omega)
  unfold stepsS
  omega
/-- An entry of a batch. -/
structure En where
  t : Int
  tag : Int
  v : Int
/-- A kid. -/
structure Ki where
  t : Int
  ah : Int
/-- A mark of the log. -/
structure Mk where
  t : Int
  item : Int
  tag : Int
  v : Int
  prior : Int
  step : Int
/-- An event. -/
structure Ev where
  kind : Int
  t : Int
  item : Int
  tag : Int
  v : Int
  prior : Int
  did : Bool
  step : Int
/-- An entry of a script. -/
structure Se where
  kind : Int
  t : Int
  item : Int
  tag : Int
  v : Int
/-- A memory. -/
structure Mem where
  words : List Int
  boxes : List (List En)
/-- A thread. -/
structure Th where
  ph : Int
  item : Int
  tag : Int
  v : Int
  batch : List En
  kids : List Ki
  held : List Int
  stop : Int
  node : Int
  at_ : Int
  layer : Int
  left : Int
  width : Int
  who : Int
  x : Int
  y : Int
  until_ : Int
/-- A tape. -/
structure Tp where
  l : List Int
  i : Int
/-- A turn. -/
structure Tn where
  c : Cf
  t : Int
  now : Int
  m : Mem
  th : Th
  tp : Tp
  log : List Mk
  done : Bool
/-- A world. -/
structure Wo where
  c : Cf
  m : Mem
  ths : List Th
  now : Int
  steps : Int
  tp : Tp
  log : List Mk
  hist : List Ev
def en0 : En := ⟨0, 0, 0⟩
def ki0 : Ki := ⟨0, 0⟩
def th0 : Th := ⟨0, 0, 0, 0, [], [], [], 0, 0, 0, 0, 0, 0, 0, 0, 0, 0⟩
/-- Two whole numbers' bits, as Go has them. -/
def orS (x y : Int) : Int := IntKind.i64.wrap (BitVec.ofInt 64 x ||| BitVec.ofInt 64 y).toNat
def andS (x y : Int) : Int := IntKind.i64.wrap (BitVec.ofInt 64 x &&& BitVec.ofInt 64 y).toNat
def mxS (x y : Int) : Int := if x < y then y else x
def mnS (x y : Int) : Int := if y < x then y else x
/-- Would x and v together be below lo, or above hi? -/
def beyondS (x v lo hi : Int) : Bool :=
  if (0 ≤ v ∧ x ≤ wrap64 (x + v)) ∨ (v < 0 ∧ wrap64 (x + v) < x) then decide (wrap64 (x + v) < lo) || decide (hi < wrap64 (x + v)) else true
/-- What an op makes of a number. -/
def applyS (tag v x lo hi : Int) : Int × Bool :=
  if tag = 2 then (wrap64 (x + wrap64 (-v)), true)
  else if tag = 1 then (wrap64 (x + v), true)
  else if tag = 3 then (orS x v, true)
  else if tag = 4 then (andS x v, true)
  else if tag = 5 then (mxS v x, true)
  else if tag = 6 then (mnS v x, true)
  else if tag = 7 then (v, true)
  else if tag = 9 then
    if v < 0 ∨ x < lo then (x, false)
    else if wrap64 (x - v) ≤ x ∧ lo ≤ wrap64 (x - v) then (wrap64 (x - v), true)
    else (lo, true)
  else if tag = 8 then
    if beyondS x v lo hi then (x, false) else (wrap64 (x + v), true)
  else (x, false)
def allS : List En → Int → Int → Int → Int
  | [], x, _, _ => x
  | e :: b, x, lo, hi => allS b (applyS e.tag e.v x lo hi).1 lo hi
def priorsS : List En → Int → Int → Int → List Int
  | [], _, _, _ => []
  | e :: b, x, lo, hi => x :: priorsS b (applyS e.tag e.v x lo hi).1 lo hi
/-- A word of the memory, and one that is turned. -/
def Mem.get (m : Mem) (i : Int) : Int := m.words.getD i.toNat 0
def Mem.set (m : Mem) (i v : Int) : Mem := { m with words := m.words.set i.toNat v }
def Mem.box (m : Mem) (i : Int) : List En := m.boxes.getD i.toNat []
def Mem.put (m : Mem) (i : Int) (b : List En) : Mem := { m with boxes := m.boxes.set i.toNat b }
/-- A word's kind, and whose it is. -/
def saidS (w : Int) : Int × Int :=
  if w % 8 = 5 ∧ w / 8 - 1 = -1 then (5, -1)
  else if (1 ≤ w % 8 ∧ w % 8 ≤ 3) ∧ (0 ≤ w / 8 - 1 ∧ w / 8 - 1 < 16) then (w % 8, w / 8 - 1)
  else if (w % 8 = 4 ∧ (0 ≤ (w / 8 - 1) / 16 ∧ (w / 8 - 1) / 16 < 4)) ∧ (1 ≤ (w / 8 - 1) % 16 ∧ (w / 8 - 1) % 16 ≤ 3) then (4, w / 8 - 1)
  else (0, 0)
def kindS (w : Int) : Int := if w = 0 ∨ ¬ ((saidS w).1 = 0 ∧ (saidS w).2 = 0) then (saidS w).1 else -1
def whoS (w : Int) : Int := if 1 ≤ (saidS w).1 ∧ (saidS w).1 ≤ 3 then (saidS w).2 else -1
def firstS (t : Int) : Int := 8 * (t + 1) + 1
def joinedS (t : Int) : Int := 8 * (t + 1) + 2
def depositedS (t : Int) : Int := 8 * (t + 1) + 3
def openS (item layer : Int) : Int := 8 * (item * 16 + layer + 1) + 4
def lateP (T : Tn) : Bool := decide (0 < T.th.until_) && decide (T.th.until_ ≤ T.now)
/-- Tapes. -/
def leftS (t : Tp) : Int := if t.i < 0 then 0 else mxS 0 (t.l.length - t.i)
def nextS (t : Tp) : Int × Tp := if 0 < leftS t then (t.l.getD t.i.toNat 0, { t with i := t.i + 1 }) else (0, t)
def belowS (t : Tp) (n : Int) : Int × Tp :=
  if n < 1 then (0, t) else (if (nextS t).1.tmod n < 0 then (nextS t).1.tmod n + n else (nextS t).1.tmod n, (nextS t).2)
/-- share. -/
def kidS (T : Tn) : Ki := T.th.kids.getD T.th.at_.toNat ki0
def settleS (T : Tn) : Tn :=
  if 0 ≤ T.th.at_ ∧ T.th.at_ < T.th.kids.length then { T with th := { T.th with ph := 15 } } else { T with th := { T.th with ph := 0 }, done := true }
def waitS (T : Tn) : Tn := if T.m.get (lineS T.c T.t) = 5 then { T with th := { T.th with ph := 14 } } else T
def fetchS (T : Tn) : Tn := settleS { T with th := { T.th with x := T.m.get (resultS T.c T.t), at_ := 0 } }
def shareS (T : Tn) : Tn :=
  { T with m := T.m.set (resultS T.c (kidS T).t) (allS (T.th.batch.take (kidS T).ah.toNat) T.th.x T.c.lo T.c.hi), th := { T.th with ph := 16 } }
def tellS (T : Tn) : Tn := settleS { T with m := T.m.set (lineS T.c (kidS T).t) 5, th := { T.th with at_ := T.th.at_ + 1 } }
/-- commit. -/
def marksS (item : Int) : List En → List Int → List Mk
  | e :: b, p :: ps => ⟨e.t, item, e.tag, e.v, p, 0⟩ :: marksS item b ps
  | _, _ => []
def commitS (T : Tn) (x : Int) : Tn :=
  settleS { T with log := T.log ++ marksS T.th.item T.th.batch (priorsS T.th.batch x T.c.lo T.c.hi), th := { T.th with x := x, at_ := 0 } }
def onwardS (T : Tn) : Tn :=
  if T.th.layer < T.c.la ∧ lateP T = false then { T with th := { T.th with ph := 17, layer := T.th.layer + 1 } } else { T with th := { T.th with ph := 2 } }
def lookS (T : Tn) : Tn :=
  let x := T.m.get (cellS T.c T.th.item)
  let y := allS T.th.batch x T.c.lo T.c.hi
  if y = x then commitS T x else if T.th.ph = 25 then onwardS T else { T with th := { T.th with x := x, y := y, ph := 3 } }
def casS (T : Tn) : Tn :=
  if T.m.get (cellS T.c T.th.item) = T.th.x then commitS { T with m := T.m.set (cellS T.c T.th.item) T.th.y } T.th.x
  else { T with th := { T.th with width := mnS (if T.th.width < T.c.wi then T.th.width * 2 else T.th.width) T.c.wi, ph := 2 } }
/-- climb. -/
def downS (T : Tn) : Tn :=
  if 0 ≤ T.th.at_ ∧ T.th.at_ < T.th.held.length then { T with th := { T.th with ph := 7 } }
  else if 0 < T.th.stop then { T with th := { T.th with ph := 11 } } else { T with th := { T.th with ph := 2 } }
def overS (T : Tn) : Tn := downS { T with th := { T.th with at_ := 0 } }
def parentS (n : Int) : Int := mxS n 0 / 2
def takenS (T : Tn) : Tn :=
  if 0 < parentS T.th.node then { T with th := { T.th with held := T.th.held ++ [T.th.node], node := parentS T.th.node } }
  else overS { T with th := { T.th with held := T.th.held ++ [T.th.node], node := parentS T.th.node } }
def climbS (T : Tn) : Tn :=
  let w := T.m.get (nodeS T.c T.th.item T.th.node)
  if kindS w = 1 then { T with th := { T.th with x := w, ph := 6 } }
  else if kindS w = 0 then { T with th := { T.th with ph := 5 } }
  else if lateP T then overS T else T
def takeS (T : Tn) : Tn :=
  if T.m.get (nodeS T.c T.th.item T.th.node) = 0 then takenS { T with m := T.m.set (nodeS T.c T.th.item T.th.node) (firstS T.t), th := { T.th with ph := 4 } }
  else { T with th := { T.th with ph := 4 } }
def joinS (T : Tn) : Tn :=
  if T.m.get (nodeS T.c T.th.item T.th.node) = T.th.x then overS { T with m := T.m.set (nodeS T.c T.th.item T.th.node) (joinedS T.t), th := { T.th with ph := 4, stop := T.th.node } }
  else { T with th := { T.th with ph := 4 } }
/-- gather. -/
def heldS (T : Tn) : Int := nodeS T.c T.th.item (T.th.held.getD T.th.at_.toNat 0)
def nextG (T : Tn) : Tn := downS { T with th := { T.th with at_ := T.th.at_ + 1 } }
def takeG (T : Tn) (who : Int) (b : List En) : Tn := { T with th := { T.th with kids := T.th.kids ++ [⟨who, T.th.batch.length⟩], batch := T.th.batch ++ b } }
def gatherS (T : Tn) : Tn :=
  let w := T.m.get (heldS T)
  if w = firstS T.t then { T with th := { T.th with ph := 8 } }
  else if kindS w = 3 then { T with th := { T.th with who := whoS w, ph := 9 } } else T
def closeS (T : Tn) : Tn :=
  if T.m.get (heldS T) = firstS T.t then nextG { T with m := T.m.set (heldS T) 0 } else { T with th := { T.th with ph := 7 } }
def collectS (T : Tn) : Tn := let U := takeG T T.th.who (T.m.box T.th.who); { U with th := { U.th with ph := 10 } }
def freeS (T : Tn) : Tn := nextG { T with m := T.m.set (heldS T) 0 }
def publishS (T : Tn) : Tn := { T with m := T.m.put T.t T.th.batch, th := { T.th with ph := 12 } }
def depositS (T : Tn) : Tn := { T with m := T.m.set (nodeS T.c T.th.item T.th.stop) (depositedS T.t), th := { T.th with ph := 13 } }
/-- collide. -/
def openT (T : Tn) : Int := openS T.th.item T.th.layer
def showS (T : Tn) : Tn := { T with m := T.m.put T.t T.th.batch, th := { T.th with ph := 18 } }
def openingS (T : Tn) : Tn := { T with m := T.m.set (lineS T.c T.t) (openT T), th := { T.th with ph := 19 } }
def swapS (T : Tn) : Tn :=
  let d := belowS T.tp T.th.width
  let q := T.m.get (slotS T.c T.th.item T.th.layer d.1)
  let U : Tn := { T with m := T.m.set (slotS T.c T.th.item T.th.layer d.1) (T.t + 1), tp := d.2 }
  if (q < 1 ∨ T.c.th < q) ∨ q = T.t + 1 then { U with th := { U.th with left := T.c.sp, ph := 23 } }
  else { U with th := { U.th with who := q - 1, ph := 20 } }
def shutS (T : Tn) : Tn :=
  if T.m.get (lineS T.c T.t) = openT T then { T with m := T.m.set (lineS T.c T.t) 0, th := { T.th with ph := 21 } } else { T with th := { T.th with ph := 13 } }
def captureS (T : Tn) : Tn :=
  if T.m.get (lineS T.c T.th.who) = openT T then { T with m := T.m.set (lineS T.c T.th.who) 0, th := { T.th with ph := 22 } } else { T with th := { T.th with ph := 24 } }
def absorbS (T : Tn) : Tn := let U := takeG T T.th.who (T.m.box T.th.who); { U with th := { U.th with ph := 25 } }
def spinS (T : Tn) : Tn :=
  if T.m.get (lineS T.c T.t) ≠ openT T then { T with th := { T.th with ph := 13 } }
  else if 0 < T.th.left ∧ lateP T = false then { T with th := { T.th with left := T.th.left - 1 } }
  else { T with th := { T.th with ph := 26 } }
def reopenS (T : Tn) : Tn := { T with m := T.m.set (lineS T.c T.t) (openT T), th := { T.th with ph := 23, left := T.c.sp } }
def leaveS (T : Tn) : Tn :=
  if T.m.get (lineS T.c T.t) = openT T then onwardS { T with m := T.m.set (lineS T.c T.t) 0, th := { T.th with ph := 26, width := mxS 1 (T.th.width / 2) } }
  else { T with th := { T.th with ph := 13 } }
/-- machine. -/
def startS (T : Tn) : Tn :=
  if T.c.be = 2 ∧ 0 < T.c.de then { T with th := { T.th with ph := 4 } }
  else if T.c.be = 3 ∧ 0 < T.c.la then { T with th := { T.th with ph := 17, layer := 1 } }
  else { T with th := { T.th with ph := 2 } }
def clearS (T : Tn) : Tn := startS { T with m := T.m.set (lineS T.c T.t) 0 }
/-- A step by its phase, of a turn with no log. -/
def phaseS (T : Tn) : Tn :=
  if T.th.ph = 1 then clearS T
  else if T.th.ph = 13 then waitS T
  else if T.th.ph = 14 then fetchS T
  else if T.th.ph = 15 then shareS T
  else if T.th.ph = 16 then tellS T
  else if T.th.ph = 3 then casS T
  else if T.th.ph = 2 ∨ T.th.ph = 25 then lookS T
  else if T.th.ph = 4 then climbS T
  else if T.th.ph = 5 then takeS T
  else if T.th.ph = 6 then joinS T
  else if T.th.ph = 7 then gatherS T
  else if T.th.ph = 8 then closeS T
  else if T.th.ph = 9 then collectS T
  else if T.th.ph = 10 then freeS T
  else if T.th.ph = 11 then publishS T
  else if T.th.ph = 12 then depositS T
  else if T.th.ph = 17 then showS T
  else if T.th.ph = 18 then openingS T
  else if T.th.ph = 19 then swapS T
  else if T.th.ph = 20 then shutS T
  else if T.th.ph = 21 then captureS T
  else if T.th.ph = 22 then absorbS T
  else if T.th.ph = 23 then spinS T
  else if T.th.ph = 24 then reopenS T
  else leaveS T
def stepS (T : Tn) : Tn := if T.th.ph = 0 then T else phaseS { T with log := [], done := false }
/-- The world. -/
def leafS (d t : Int) : Int := if d < 1 then 0 else p2 (d - 1) + t / 2 % p2 (d - 1)
def beginS (c : Cf) (t : Int) (th : Th) (item tag v now : Int) : Th :=
  { th0 with ph := 1, item := item, tag := tag, v := v, node := leafS c.de t, width := th.width, batch := [⟨t, tag, v⟩], until_ := if 0 < c.wa then now + c.wa else 0 }
def knownS (tag : Int) : Bool := decide (1 ≤ tag ∧ tag ≤ 9)
def mayS (tag v : Int) (bo : Bool) : Bool :=
  if bo = false then decide (1 ≤ tag ∧ tag ≤ 9) && decide (tag < 8) else if tag = 9 then decide (0 ≤ v) else decide (tag = 8)
def checkE (c : Cf) (e : Se) : Int :=
  if e.kind = 1 ∨ e.kind = 2 then
    if ¬ (0 ≤ e.t ∧ e.t < c.th) then 91
    else if e.kind = 2 then 0
    else if ¬ (0 ≤ e.item ∧ e.item < c.it) then 92
    else if mayS e.tag e.v c.bo = false then 93 else 0
  else if e.kind = 3 then 0 else 90
def checkC (c : Cf) : Int :=
  if c.th < 1 ∨ 16 < c.th then 50 else if c.it < 1 ∨ 4 < c.it then 51 else if c.be < 1 ∨ 3 < c.be then 52 else if c.de < 0 ∨ 4 < c.de then 53
  else if c.la < 0 ∨ 3 < c.la then 54 else if c.wi < 1 ∨ 8 < c.wi then 55 else if c.sp < 0 ∨ 20 < c.sp then 56 else if c.wa < 0 ∨ 1000 < c.wa then 57
  else if c.bo = true ∧ (c.ini < c.lo ∨ c.hi < c.ini) then 58 else 0
/-- The words of a new arena. -/
def wordsS (c : Cf) : Nat → List Int → List Int
  | 0, ws => ws
  | n + 1, ws => (wordsS c n ws).set (cellS c n).toNat c.ini
def newS (c : Cf) (draws : List Int) : Wo :=
  ⟨c, ⟨wordsS c c.it.toNat (List.replicate (sizeS c).toNat 0), List.replicate c.th.toNat []⟩, List.replicate c.th.toNat { th0 with width := 1 }, 0, 0, ⟨draws, 0⟩, [], []⟩
def Wo.thr (w : Wo) (t : Int) : Th := w.ths.getD t.toNat th0
def turnS (w : Wo) (t : Int) : Tn := ⟨w.c, t, w.now, w.m, w.thr t, w.tp, [], false⟩
def eventS (w : Wo) (x : Ev) : Wo := { w with hist := w.hist ++ [{ x with step := w.steps }] }
def invokeS (w : Wo) (e : Se) : Wo :=
  if (w.thr e.t).ph ≠ 0 then eventS w ⟨3, e.t, e.item, e.tag, e.v, 0, false, 0⟩
  else eventS { w with ths := w.ths.set e.t.toNat (beginS w.c e.t (w.thr e.t) e.item e.tag e.v w.now) } ⟨1, e.t, e.item, e.tag, e.v, 0, false, 0⟩
def landS (w : Wo) (t : Int) (u : Tn) : Wo :=
  let w1 : Wo := { w with steps := w.steps + 1, m := u.m, ths := w.ths.set t.toNat u.th, tp := u.tp, log := w.log ++ u.log.map fun k => { k with step := w.steps + 1 } }
  if u.done then eventS w1 ⟨2, t, u.th.item, u.th.tag, u.th.v, u.th.x, (applyS u.th.tag u.th.v u.th.x w.c.lo w.c.hi).2, 0⟩ else w1
def pickS (w : Wo) (t : Int) : Wo := if (w.thr t).ph = 0 then w else landS w t (stepS (turnS w t))
def doS (w : Wo) (e : Se) : Wo := if e.kind = 1 then invokeS w e else if e.kind = 2 then pickS w e.t else { w with now := w.now + 1 }
def runS (w : Wo) (l : List Se) : Wo := l.foldl doS w
/-- A function that is turned at one place. -/
def up {β : Type} (f : Int → β) (a : Int) (b : β) : Int → β := fun x => if x = a then b else f x
def up2 (f : Int → Int → Int) (a b : Int) (v : Int) : Int → Int → Int := fun x y => if x = a ∧ y = b then v else f x y
theorem up_eq {β : Type} {f : Int → β} {a : Int} {b : β} : up f a b a = b := if_pos rfl
theorem up_ne {β : Type} {f : Int → β} {a x : Int} {b : β} (h : x ≠ a) : up f a b x = f x := if_neg h
/-- The state: cells, nodes, lines, results, boxes, threads; what is committed and not told yet, and at what. -/
structure Q where
  cl : Int → Int
  nd : Int → Int → Int
  ln : Int → Int
  rs : Int → Int
  bx : Int → List En
  th : Int → Th
  cm : Int → Bool
  P : Int → Int
def Q.sT (q : Q) (t : Int) (h : Th) : Q := { q with th := up q.th t h }
/-- All of a batch is committed. -/
def setC (cm : Int → Bool) : List En → Int → Bool
  | [] => cm
  | e :: b => up (setC cm b) e.t true
def setP (P : Int → Int) : List En → Int → Int → Int → Int → Int
  | [], _, _, _ => P
  | e :: b, x, lo, hi => up (setP P b (applyS e.tag e.v x lo hi).1 lo hi) e.t x
def settleQ (q : Q) (t : Int) (h : Th) : Q :=
  if 0 ≤ h.at_ ∧ h.at_ < h.kids.length then q.sT t { h with ph := 15 } else { q.sT t { h with ph := 0 } with cm := up q.cm t false }
def commitQ (c : Cf) (q : Q) (t : Int) (h : Th) (x : Int) : Q :=
  settleQ { q with cm := setC q.cm h.batch, P := setP q.P h.batch x c.lo c.hi } t { h with x := x, at_ := 0 }
def onwardQ (c : Cf) (l : Bool) (q : Q) (t : Int) (h : Th) : Q :=
  if h.layer < c.la ∧ l = false then q.sT t { h with ph := 17, layer := h.layer + 1 } else q.sT t { h with ph := 2 }
def downQ (q : Q) (t : Int) (h : Th) : Q :=
  if 0 ≤ h.at_ ∧ h.at_ < h.held.length then q.sT t { h with ph := 7 } else if 0 < h.stop then q.sT t { h with ph := 11 } else q.sT t { h with ph := 2 }
def takenQ (q : Q) (t : Int) (h : Th) : Q :=
  if 0 < parentS h.node then q.sT t { h with held := h.held ++ [h.node], node := parentS h.node }
  else downQ q t { h with held := h.held ++ [h.node], node := parentS h.node, at_ := 0 }
def startQ (c : Cf) (q : Q) (t : Int) (h : Th) : Q :=
  if c.be = 2 ∧ 0 < c.de then q.sT t { h with ph := 4 } else if c.be = 3 ∧ 0 < c.la then q.sT t { h with ph := 17, layer := 1 } else q.sT t { h with ph := 2 }
def kidT (h : Th) : Ki := h.kids.getD h.at_.toNat ki0
def headT (h : Th) : Int := h.held.getD h.at_.toNat 0
/-- What the swap tells: the place, and the thread that was there. -/
def addK (h : Th) (b : List En) : Th := { h with kids := h.kids ++ [⟨h.who, h.batch.length⟩], batch := h.batch ++ b }
/-- A step, by the phase; l: is it late; s: what the slot tells. -/
def stQ (c : Cf) (l : Bool) (s : Int) (t : Int) (q : Q) : Q :=
  let h := q.th t
  if h.ph = 1 then startQ c { q with ln := up q.ln t 0 } t h
  else if h.ph = 13 then (if q.ln t = 5 then q.sT t { h with ph := 14 } else q)
  else if h.ph = 14 then settleQ q t { h with x := q.rs t, at_ := 0 }
  else if h.ph = 15 then { q.sT t { h with ph := 16 } with rs := up q.rs (kidT h).t (allS (h.batch.take (kidT h).ah.toNat) h.x c.lo c.hi) }
  else if h.ph = 16 then settleQ { q with ln := up q.ln (kidT h).t 5 } t { h with at_ := h.at_ + 1 }
  else if h.ph = 3 then
    (if q.cl h.item = h.x then commitQ c { q with cl := up q.cl h.item h.y } t h h.x
     else q.sT t { h with width := mnS (if h.width < c.wi then h.width * 2 else h.width) c.wi, ph := 2 })
  else if h.ph = 2 ∨ h.ph = 25 then
    (if allS h.batch (q.cl h.item) c.lo c.hi = q.cl h.item then commitQ c q t h (q.cl h.item)
     else if h.ph = 25 then onwardQ c l q t h else q.sT t { h with x := q.cl h.item, y := allS h.batch (q.cl h.item) c.lo c.hi, ph := 3 })
  else if h.ph = 4 then
    (if kindS (q.nd h.item h.node) = 1 then q.sT t { h with x := q.nd h.item h.node, ph := 6 }
     else if kindS (q.nd h.item h.node) = 0 then q.sT t { h with ph := 5 }
     else if l then downQ q t { h with at_ := 0 } else q)
  else if h.ph = 5 then
    (if q.nd h.item h.node = 0 then takenQ { q with nd := up2 q.nd h.item h.node (firstS t) } t { h with ph := 4 } else q.sT t { h with ph := 4 })
  else if h.ph = 6 then
    (if q.nd h.item h.node = h.x then downQ { q with nd := up2 q.nd h.item h.node (joinedS t) } t { h with ph := 4, stop := h.node, at_ := 0 } else q.sT t { h with ph := 4 })
  else if h.ph = 7 then
    (if q.nd h.item (headT h) = firstS t then q.sT t { h with ph := 8 }
     else if kindS (q.nd h.item (headT h)) = 3 then q.sT t { h with who := whoS (q.nd h.item (headT h)), ph := 9 } else q)
  else if h.ph = 8 then
    (if q.nd h.item (headT h) = firstS t then downQ { q with nd := up2 q.nd h.item (headT h) 0 } t { h with at_ := h.at_ + 1 } else q.sT t { h with ph := 7 })
  else if h.ph = 9 then q.sT t { addK h (q.bx h.who) with ph := 10 }
  else if h.ph = 10 then downQ { q with nd := up2 q.nd h.item (headT h) 0 } t { h with at_ := h.at_ + 1 }
  else if h.ph = 11 then { q.sT t { h with ph := 12 } with bx := up q.bx t h.batch }
  else if h.ph = 12 then { q.sT t { h with ph := 13 } with nd := up2 q.nd h.item h.stop (depositedS t) }
  else if h.ph = 17 then { q.sT t { h with ph := 18 } with bx := up q.bx t h.batch }
  else if h.ph = 18 then { q.sT t { h with ph := 19 } with ln := up q.ln t (openS h.item h.layer) }
  else if h.ph = 19 then
    (if (s < 1 ∨ c.th < s) ∨ s = t + 1 then q.sT t { h with left := c.sp, ph := 23 } else q.sT t { h with who := s - 1, ph := 20 })
  else if h.ph = 20 then
    (if q.ln t = openS h.item h.layer then { q.sT t { h with ph := 21 } with ln := up q.ln t 0 } else q.sT t { h with ph := 13 })
  else if h.ph = 21 then
    (if q.ln h.who = openS h.item h.layer then { q.sT t { h with ph := 22 } with ln := up q.ln h.who 0 } else q.sT t { h with ph := 24 })
  else if h.ph = 22 then q.sT t { addK h (q.bx h.who) with ph := 25 }
  else if h.ph = 23 then
    (if q.ln t ≠ openS h.item h.layer then q.sT t { h with ph := 13 }
     else if 0 < h.left ∧ l = false then q.sT t { h with left := h.left - 1 } else q.sT t { h with ph := 26 })
  else if h.ph = 24 then { q.sT t { h with ph := 23, left := c.sp } with ln := up q.ln t (openS h.item h.layer) }
  else
    (if q.ln t = openS h.item h.layer then onwardQ c l { q with ln := up q.ln t 0 } t { h with ph := 26, width := mxS 1 (h.width / 2) } else q.sT t { h with ph := 13 })
/-- What of the state the batches lean on. -/
structure BF where
  ba : Int → List En
  ki : Int → List Ki
  at_ : Int → Int
  x : Int → Int
  s16 : Int → Bool
  ow : Int → En
  it : Int → Int
  rs : Int → Int
  cm : Int → Bool
  P : Int → Int
def Seg (g p : Int → Int) (ba : Int → List En) (t : Int) : List Ki → Int → List En → Prop
  | [], _, r => r = []
  | k :: ks, off, r => k.ah = off ∧ g k.t = 3 ∧ p k.t = t ∧ ∃ r', r = ba k.t ++ r' ∧ Seg g p ba t ks (off + (ba k.t).length) r'
def Pri (P : Int → Int) (lo hi : Int) : List En → Int → Prop
  | [], _ => True
  | e :: b, x => P e.t = x ∧ Pri P lo hi b (applyS e.tag e.v x lo hi).1
def kiG (f : BF) (g : Int → Int) (t : Int) : List Ki := if g t = 0 then [] else (f.ki t).drop (f.at_ t).toNat
def kidB (f : BF) (t : Int) : Ki := (f.ki t).getD (f.at_ t).toNat ki0
structure Bat (c : Cf) (f : BF) (g p : Int → Int) (S : Int → List En) : Prop where
  rng : ∀ t, g t ≠ 0 → 0 ≤ t ∧ t < c.th
  gr : ∀ t, 0 ≤ g t ∧ g t ≤ 5
  idle : ∀ t, g t = 0 → f.cm t = false
  s0 : ∀ t, g t = 0 ∨ g t = 3 → S t = []
  s1 : ∀ t, g t = 1 ∨ g t = 2 ∨ g t = 4 → S t = f.ba t
  ow : ∀ t, (f.ow t).t = t
  at0 : ∀ t, g t ≠ 5 → f.at_ t = 0
  tree : ∀ t, g t = 1 ∨ g t = 2 ∨ g t = 3 ∨ g t = 4 → ∃ r, f.ba t = f.ow t :: r ∧ Seg g p f.ba t (f.ki t) 1 r
  tr5 : ∀ t, g t = 5 → ∃ pr r, f.ba t = pr ++ r ∧ S t = f.ow t :: r ∧ Seg g p f.ba t ((f.ki t).drop (f.at_ t).toNat) pr.length r ∧ Pri f.P c.lo c.hi r (allS pr (f.x t) c.lo c.hi) ∧ f.P t = f.x t ∧ 0 ≤ f.at_ t
  p4 : ∀ t, g t = 4 → Pri f.P c.lo c.hi (f.ba t) (f.rs t)
  s16 : ∀ t, g t = 5 → f.s16 t = true → f.at_ t < (f.ki t).length ∧ f.rs (kidB f t).t = allS ((f.ba t).take (kidB f t).ah.toNat) (f.x t) c.lo c.hi
  nod : ∀ t, ((S t).map (·.t)).Nodup
  dis : ∀ t u e e', e ∈ S t → e' ∈ S u → e.t = e'.t → t = u
  mem : ∀ t e, e ∈ S t → g e.t ≠ 0 ∧ e = f.ow e.t ∧ f.it e.t = f.it t ∧ f.cm e.t = decide (g t = 4 ∨ g t = 5)
  par : ∀ u, g u = 3 → ∃ k, k ∈ kiG f g (p u) ∧ k.t = u
  bl : ∀ t, (f.ba t).length ≤ 16 ∧ (f.ki t).length ≤ 16
theorem Seg.congr {g p g' p' : Int → Int} {ba ba' : Int → List En} {t : Int} (h : ∀ u, g u = 3 → p u = t → g' u = 3 ∧ p' u = t ∧ ba' u = ba u) : ∀ (ks : List Ki) (off : Int) (r : List En), Seg g p ba t ks off r → Seg g' p' ba' t ks off r
  | [], _, r, hs => hs
  | k :: ks, off, r, hs => by
    obtain ⟨h1, h2, h3, r', h4, h5⟩ := hs
    obtain ⟨a1, a2, a3⟩ := h k.t h2 h3
    exact ⟨h1, a1, a2, r', by rw [a3]; exact h4, by rw [a3]; exact Seg.congr h ks _ r' h5⟩
theorem Seg.snoc {g p : Int → Int} {ba : Int → List En} {t u : Int} (hg : g u = 3) (hp : p u = t) : ∀ (ks : List Ki) (off : Int) (r : List En), Seg g p ba t ks off r → Seg g p ba t (ks ++ [⟨u, off + r.length⟩]) off (r ++ ba u)
  | [], off, r, hs => by
    have hs : r = [] := hs
    subst hs
    exact ⟨by simp, hg, hp, [], by simp, rfl⟩
  | k :: ks, off, r, hs => by
    obtain ⟨h1, h2, h3, r', h4, h5⟩ := hs
    subst h4
    refine ⟨h1, h2, h3, r' ++ ba u, by simp, ?_⟩
    have := Seg.snoc hg hp ks _ r' h5
    simp only [List.length_append] at *
    rw [show off + ((ba k.t).length + r'.length : Nat) = off + (ba k.t).length + r'.length by omega]
    exact this
theorem Seg.mem {g p : Int → Int} {ba : Int → List En} {t : Int} : ∀ (ks : List Ki) (off : Int) (r : List En), Seg g p ba t ks off r → ∀ k ∈ ks, g k.t = 3 ∧ p k.t = t ∧ ∀ e ∈ ba k.t, e ∈ r
  | [], _, r, hs => by simp
  | k :: ks, off, r, hs => by
    obtain ⟨h1, h2, h3, r', h4, h5⟩ := hs
    have ih := Seg.mem ks _ r' h5
    subst h4
    intro k' hk'
    rcases List.mem_cons.1 hk' with e | e
    · subst e; exact ⟨h2, h3, fun e he => List.mem_append_left _ he⟩
    · exact ⟨(ih k' e).1, (ih k' e).2.1, fun x hx => List.mem_append_right _ ((ih k' e).2.2 x hx)⟩
theorem Seg.len {g p : Int → Int} {ba : Int → List En} {t : Int} (hb : ∀ u, g u = 3 → 1 ≤ (ba u).length) : ∀ (ks : List Ki) (off : Int) (r : List En), Seg g p ba t ks off r → ks.length ≤ r.length ∧ ∀ k ∈ ks, (ba k.t).length ≤ r.length
  | [], _, r, hs => by simp
  | k :: ks, off, r, hs => by
    obtain ⟨h1, h2, h3, r', h4, h5⟩ := hs
    have ih := Seg.len hb ks _ r' h5
    have := hb _ h2
    subst h4
    simp only [List.length_append, List.length_cons]
    refine ⟨by omega, fun k' hk' => ?_⟩
    rcases List.mem_cons.1 hk' with e | e
    · subst e; omega
    · have := ih.2 k' e; omega
theorem all_app (lo hi : Int) : ∀ (a b : List En) (x : Int), allS (a ++ b) x lo hi = allS b (allS a x lo hi) lo hi
  | [], b, x => rfl
  | e :: a, b, x => all_app lo hi a b _
theorem Pri.app {P : Int → Int} {lo hi : Int} : ∀ (a b : List En) (x : Int), Pri P lo hi (a ++ b) x ↔ Pri P lo hi a x ∧ Pri P lo hi b (allS a x lo hi)
  | [], b, x => by simp [Pri, allS]
  | e :: a, b, x => by simp only [List.cons_append, Pri, allS, Pri.app a b, and_assoc]
theorem Pri.congr {P P' : Int → Int} {lo hi : Int} : ∀ (a : List En) (x : Int), (∀ e ∈ a, P' e.t = P e.t) → Pri P lo hi a x → Pri P' lo hi a x
  | [], x, _, _ => trivial
  | e :: a, x, h, hp => ⟨by rw [h e (by simp)]; exact hp.1, Pri.congr a _ (fun e' he' => h e' (by simp [he'])) hp.2⟩
theorem setC_in {cm : Int → Bool} : ∀ (b : List En) (e : En), e ∈ b → setC cm b e.t = true
  | [], e, h => absurd h (by simp)
  | a :: b, e, h => by
    unfold setC up
    split
    · rfl
    · rcases List.mem_cons.1 h with h1 | h1
      · subst h1; contradiction
      · exact setC_in b e h1
theorem setC_out {cm : Int → Bool} {r : Int} : ∀ (b : List En), (∀ e ∈ b, e.t ≠ r) → setC cm b r = cm r
  | [], h => rfl
  | a :: b, h => by
    unfold setC up
    rw [if_neg (fun e => h a (by simp) e.symm)]
    exact setC_out b fun e he => h e (by simp [he])
theorem setP_out {P : Int → Int} {lo hi r : Int} : ∀ (b : List En) (x : Int), (∀ e ∈ b, e.t ≠ r) → setP P b x lo hi r = P r
  | [], x, h => rfl
  | a :: b, x, h => by
    unfold setP up
    rw [if_neg (fun e => h a (by simp) e.symm)]
    exact setP_out b _ fun e he => h e (by simp [he])
theorem setP_in {P : Int → Int} {lo hi : Int} : ∀ (b : List En) (x : Int), (b.map (·.t)).Nodup → Pri (setP P b x lo hi) lo hi b x
  | [], x, _ => trivial
  | a :: b, x, h => by
    have h1 := List.nodup_cons.1 h
    refine ⟨by simp [setP, up], Pri.congr b _ (fun e he => ?_) (setP_in (P := P) b _ h1.2)⟩
    have h2 : e.t ≠ a.t := fun e' => h1.1 (by show a.t ∈ _; rw [← e']; exact List.mem_map_of_mem he)
    exact up_ne h2
theorem pigeon : ∀ (n : Nat) (l : List Int), (∀ x ∈ l, 0 ≤ x ∧ x < n) → l.Nodup → l.length ≤ n
  | 0, l, h, _ => by
    cases l with
    | nil => simp
    | cons a l => have := h a (by simp); omega
  | n + 1, l, h, hn => by
    have h1 := pigeon n (l.erase (n : Int)) (fun x hx => by
      have h2 := (List.Nodup.mem_erase_iff hn).1 hx
      have h3 := h x h2.2
      have : x ≠ n := h2.1
      omega) (hn.erase _)
    have h2 := List.length_erase (a := (n : Int)) (l := l)
    split at h2 <;> omega
theorem Bat.give {c : Cf} {f : BF} {g p : Int → Int} {S : Int → List En} (h : Bat c f g p S) {a b : Int} (ha : g a = 1) : Bat c f (up g a 2) (up p a b) S where
  rng t := by have := h.rng t; unfold up; grind
  gr t := by have := h.gr t; unfold up; grind
  idle t := by have := h.idle t; unfold up; grind
  s0 t := by have := h.s0 t; unfold up; grind
  s1 t := by have := h.s1 t; unfold up; grind
  ow := h.ow
  at0 t := by have := h.at0 t; unfold up; grind
  tree t ht := by
    obtain ⟨r, h1, h2⟩ := h.tree t (by unfold up at ht; grind)
    exact ⟨r, h1, Seg.congr (fun u h3 h4 => by unfold up; grind) _ _ _ h2⟩
  tr5 t ht := by
    obtain ⟨pr, r, h1, h2, h3, h4⟩ := h.tr5 t (by unfold up at ht; grind)
    exact ⟨pr, r, h1, h2, Seg.congr (fun u h3 h4 => by unfold up; grind) _ _ _ h3, h4⟩
  p4 t ht := h.p4 t (by unfold up at ht; grind)
  s16 t ht := h.s16 t (by unfold up at ht; grind)
  nod := h.nod
  dis := h.dis
  mem t e he := by have := h.mem t e he; unfold up; grind
  par u hu := by
    obtain ⟨k, h1, h2⟩ := h.par u (by unfold up at hu; grind)
    refine ⟨k, ?_, h2⟩
    unfold kiG up at *; grind
  bl := h.bl
theorem Bat.absorb {c : Cf} {f : BF} {g p : Int → Int} {S : Int → List En} (hc : c.th ≤ 16) (h : Bat c f g p S) {a u : Int} (ha : g a = 1) (hu : g u = 2) (hit : f.it u = f.it a) :
    Bat c { f with ba := up f.ba a (f.ba a ++ f.ba u), ki := up f.ki a (f.ki a ++ [⟨u, (f.ba a).length⟩]) } (up g u 3) (up p u a) (up (up S u []) a (f.ba a ++ f.ba u)) := by
  have hau : a ≠ u := by intro e; subst e; omega
  have sa := h.s1 a (by simp [ha])
  have su := h.s1 u (by simp [hu])
  have hn : ((f.ba a ++ f.ba u).map (·.t)).Nodup := by
    have na := h.nod a; have nu := h.nod u
    rw [sa] at na; rw [su] at nu
    rw [List.map_append, List.nodup_append]
    refine ⟨na, nu, fun x hx y hy e => ?_⟩
    obtain ⟨e1, h1, h2⟩ := List.mem_map.1 hx
    obtain ⟨e2, h3, h4⟩ := List.mem_map.1 hy
    exact hau (h.dis a u e1 e2 (sa ▸ h1) (su ▸ h3) (by rw [h2, h4, e]))
  obtain ⟨ra, ta1, ta2⟩ := h.tree a (by simp [ha])
  have hseg : Seg (up g u 3) (up p u a) (up f.ba a (f.ba a ++ f.ba u)) a (f.ki a ++ [⟨u, 1 + ra.length⟩]) 1 (ra ++ f.ba u) := by
    have h1 : Seg (up g u 3) (up p u a) (up f.ba a (f.ba a ++ f.ba u)) a (f.ki a) 1 ra := Seg.congr (fun u' h3 h4 => by unfold up; grind) _ _ _ ta2
    have h2 := Seg.snoc (u := u) (by simp [up]) (by simp [up]) _ _ _ h1
    rwa [show up f.ba a (f.ba a ++ f.ba u) u = f.ba u from up_ne (Ne.symm hau)] at h2
  have hl : (f.ba a).length = 1 + ra.length := by rw [ta1]; simp; omega
  have hmem : ∀ e ∈ f.ba a ++ f.ba u, g e.t ≠ 0 ∧ e = f.ow e.t ∧ f.it e.t = f.it a ∧ f.cm e.t = false := by
    intro e he
    rcases List.mem_append.1 he with h1 | h1
    · have := h.mem a e (sa ▸ h1); grind
    · have := h.mem u e (su ▸ h1); grind
  have hlen : (f.ba a ++ f.ba u).length ≤ 16 := by
    have h1 := pigeon 16 ((f.ba a ++ f.ba u).map (·.t)) (fun x hx => by
      obtain ⟨e, he, e2⟩ := List.mem_map.1 hx
      have h2 := h.rng e.t (hmem e he).1
      subst e2
      omega) hn
    simpa using h1
  refine { rng := ?_, gr := ?_, idle := ?_, s0 := ?_, s1 := ?_, ow := h.ow, at0 := ?_, tree := ?_, tr5 := ?_, p4 := ?_, s16 := ?_, nod := ?_, dis := ?_, mem := ?_, par := ?_, bl := ?_ }
  · intro t; have := h.rng t; unfold up; grind
  · intro t; have := h.gr t; unfold up; grind
  · intro t; have := h.idle t; unfold up; grind
  · intro t; have := h.s0 t; unfold up; grind
  · intro t; have := h.s1 t; unfold up; grind
  · intro t; have := h.at0 t; unfold up; grind
  · intro t ht
    by_cases e : t = a
    · subst e
      refine ⟨ra ++ f.ba u, ?_, ?_⟩
      · simp [up, ta1]
      · simp only [up_eq]
        rw [hl]
        exact_mod_cast hseg
    · by_cases e2 : t = u
      · subst e2
        obtain ⟨r, h1, h2⟩ := h.tree t (by simp [hu])
        refine ⟨r, by simpa [up_ne e] using h1, ?_⟩
        simp only [up_ne e]
        exact Seg.congr (fun u' h3 h4 => by unfold up; grind) _ _ _ h2
      · obtain ⟨r, h1, h2⟩ := h.tree t (by unfold up at ht; grind)
        refine ⟨r, by simpa [up_ne e] using h1, ?_⟩
        simp only [up_ne e]
        exact Seg.congr (fun u' h3 h4 => by unfold up; grind) _ _ _ h2
  · intro t ht
    have e : t ≠ a := by intro e; subst e; unfold up at ht; grind
    have e2 : t ≠ u := by intro e; subst e; unfold up at ht; grind
    obtain ⟨pr, r, h1, h2, h3, h4⟩ := h.tr5 t (by unfold up at ht; grind)
    refine ⟨pr, r, by simpa [up_ne e] using h1, by simpa [up_ne e, up_ne e2] using h2, ?_, h4⟩
    simp only [up_ne e]
    exact Seg.congr (fun u' h3 h4 => by unfold up; grind) _ _ _ h3
  · intro t ht
    have := h.p4 t (by unfold up at ht; grind)
    have e : t ≠ a := by intro e; subst e; unfold up at ht; grind
    simpa [up_ne e] using this
  · intro t ht h16
    have e : t ≠ a := by intro e; subst e; unfold up at ht; grind
    have := h.s16 t (by unfold up at ht; grind) h16
    simpa [kidB, up_ne e] using this
  · intro t
    by_cases e : t = a
    · subst e; rw [up_eq]; exact hn
    · rw [up_ne e]
      by_cases e2 : t = u
      · subst e2; rw [up_eq]; simp
      · rw [up_ne e2]; exact h.nod t
  · intro t v e e' he he' ee
    have key : ∀ t e, e ∈ up (up S u []) a (f.ba a ++ f.ba u) t → ∃ t0, e ∈ S t0 ∧ ((t = a ∧ (t0 = a ∨ t0 = u)) ∨ (t = t0 ∧ t ≠ a ∧ t ≠ u)) := by
      intro t e he
      by_cases e1 : t = a
      · subst e1; rw [up_eq] at he
        rcases List.mem_append.1 he with h1 | h1
        · exact ⟨t, sa ▸ h1, by simp⟩
        · exact ⟨u, su ▸ h1, by simp⟩
      · rw [up_ne e1] at he
        by_cases e2 : t = u
        · subst e2; rw [up_eq] at he; simp at he
        · rw [up_ne e2] at he; exact ⟨t, he, by simp [e1, e2]⟩
    obtain ⟨t0, h1, h2⟩ := key t e he
    obtain ⟨v0, h3, h4⟩ := key v e' he'
    have := h.dis t0 v0 e e' h1 h3 ee
    grind
  · intro t e he
    by_cases e1 : t = a
    · subst e1
      rw [up_eq] at he
      have := hmem e he
      unfold up; grind
    · rw [up_ne e1] at he
      by_cases e2 : t = u
      · subst e2; rw [up_eq] at he; simp at he
      · rw [up_ne e2] at he
        have := h.mem t e he
        unfold up; grind
  · intro v hv
    by_cases e : v = u
    · subst e
      refine ⟨⟨v, (f.ba a).length⟩, ?_, rfl⟩
      have := h.at0 a (by omega)
      simp [kiG, up, this, hau, ha]
    · rw [up_ne e] at hv ⊢
      obtain ⟨k, h1, h2⟩ := h.par v hv
      refine ⟨k, ?_, h2⟩
      have := h.at0 a (by omega)
      unfold kiG up at *
      grind
  · intro t
    have := h.bl t
    by_cases e : t = a
    · subst e
      simp only [up_eq]
      refine ⟨hlen, ?_⟩
      have h1 := (Seg.len (g := up g u 3) (ba := up f.ba t (f.ba t ++ f.ba u)) (fun v hv => by
        by_cases e : v = t
        · subst e; simp only [up_eq]; rw [ta1]; simp
        · rw [up_ne e]
          obtain ⟨r, h1, _⟩ := h.tree v (by unfold up at hv; grind)
          rw [h1]; simp) _ _ _ hseg).1
      rw [ta1] at hlen
      simp only [List.length_append, List.length_cons, List.length_nil] at *
      omega
    · simpa [up_ne e] using this
theorem Bat.begins {c : Cf} {f : BF} {g p : Int → Int} {S : Int → List En} (h : Bat c f g p S) {a : Int} (ha : g a = 0) (h0 : 0 ≤ a ∧ a < c.th) (e : En) (he : e.t = a) (i : Int) :
    Bat c { f with ba := up f.ba a [e], ki := up f.ki a [], ow := up f.ow a e, it := up f.it a i } (up g a 1) p (up S a [e]) where
  rng t := by have := h.rng t; unfold up; grind
  gr t := by have := h.gr t; unfold up; grind
  idle t := by have := h.idle t; unfold up; grind
  s0 t := by have := h.s0 t; unfold up; grind
  s1 t := by have := h.s1 t; simp only [up]; grind
  ow t := by have := h.ow t; simp only [up]; grind
  at0 t := by have := h.at0 t; simp only [up]; grind
  tree t ht := by
    by_cases e1 : t = a
    · subst e1; exact ⟨[], by simp [up], by simp only [up_eq]; rfl⟩
    · rw [up_ne e1] at ht
      obtain ⟨r, h1, h2⟩ := h.tree t ht
      refine ⟨r, by simpa [up_ne e1] using h1, ?_⟩
      simp only [up_ne e1]
      exact Seg.congr (fun u h3 h4 => by unfold up; grind) _ _ _ h2
  tr5 t ht := by
    have e1 : t ≠ a := by intro e; subst e; unfold up at ht; grind
    rw [up_ne e1] at ht
    obtain ⟨pr, r, h1, h2, h3, h4⟩ := h.tr5 t ht
    refine ⟨pr, r, by simpa [up_ne e1] using h1, by simpa [up_ne e1] using h2, ?_, h4⟩
    simp only [up_ne e1]
    exact Seg.congr (fun u h3 h4 => by unfold up; grind) _ _ _ h3
  p4 t ht := by
    have e1 : t ≠ a := by intro e; subst e; unfold up at ht; grind
    rw [up_ne e1] at ht
    simpa [up_ne e1] using h.p4 t ht
  s16 t ht := by
    have e1 : t ≠ a := by intro e; subst e; unfold up at ht; grind
    rw [up_ne e1] at ht
    simpa [kidB, up_ne e1] using h.s16 t ht
  nod t := by
    by_cases e1 : t = a
    · subst e1; rw [up_eq]; simp
    · rw [up_ne e1]; exact h.nod t
  dis t u x y hx hy exy := by
    have h1 := fun z hz => (h.mem t z hz).1
    have h2 := fun z hz => (h.mem u z hz).1
    have h3 := h.dis t u x y
    unfold up at hx hy
    grind
  mem t x hx := by
    have h1 := h.mem t x
    have h2 := h.idle a ha
    unfold up at hx
    simp only [up]
    grind
  par u hu := by
    have e1 : u ≠ a := by intro e; subst e; unfold up at hu; grind
    rw [up_ne e1] at hu
    obtain ⟨k, h1, h2⟩ := h.par u hu
    refine ⟨k, ?_, h2⟩
    simp only [kiG, up] at *
    grind
  bl t := by
    have := h.bl t
    simp only [up]
    split <;> simp_all
theorem Bat.commits {c : Cf} {f : BF} {g p : Int → Int} {S : Int → List En} (h : Bat c f g p S) {a : Int} (ha : g a = 1) (x : Int) :
    Bat c { f with cm := setC f.cm (f.ba a), P := setP f.P (f.ba a) x c.lo c.hi, at_ := up f.at_ a 0, x := up f.x a x, s16 := up f.s16 a false } (up g a 5) p S := by
  have sa := h.s1 a (by simp [ha])
  have out : ∀ t, t ≠ a → ∀ e ∈ S t, ∀ e' ∈ f.ba a, e'.t ≠ e.t := fun t ht e he e' he' ee => ht (h.dis t a e e' he (sa ▸ he') ee.symm)
  have outg : ∀ t, g t = 0 → ∀ e' ∈ f.ba a, e'.t ≠ t := fun t ht e' he' ee => (h.mem a e' (sa ▸ he')).1 (by rw [ee]; exact ht)
  have pin := setP_in (P := f.P) (lo := c.lo) (hi := c.hi) (f.ba a) x (by have := h.nod a; rwa [sa] at this)
  refine { rng := ?_, gr := ?_, idle := ?_, s0 := ?_, s1 := ?_, ow := h.ow, at0 := ?_, tree := ?_, tr5 := ?_, p4 := ?_, s16 := ?_, nod := h.nod, dis := h.dis, mem := ?_, par := ?_, bl := h.bl }
  · intro t; have := h.rng t; unfold up; grind
  · intro t; have := h.gr t; unfold up; grind
  · intro t ht
    have e1 : t ≠ a := by intro e; subst e; unfold up at ht; grind
    rw [up_ne e1] at ht
    have := h.idle t ht
    exact (setC_out _ (outg t ht)).trans this
  · intro t; have := h.s0 t; unfold up; grind
  · intro t; have := h.s1 t; unfold up; grind
  · intro t; have := h.at0 t; simp only [up]; grind
  · intro t ht
    have e1 : t ≠ a := by intro e; subst e; unfold up at ht; grind
    rw [up_ne e1] at ht
    obtain ⟨r, h1, h2⟩ := h.tree t ht
    exact ⟨r, h1, Seg.congr (fun u h3 h4 => by unfold up; grind) _ _ _ h2⟩
  · intro t ht
    by_cases e1 : t = a
    · subst e1
      obtain ⟨r, h1, h2⟩ := h.tree t (by simp [ha])
      rw [h1] at pin
      refine ⟨[f.ow t], r, by simpa using h1, by rw [sa]; exact h1, ?_, ?_, ?_, ?_⟩
      · simp only [up_eq]; exact Seg.congr (fun u h3 h4 => by unfold up; grind) _ _ _ h2
      · simp only [up_eq]; rw [h1]; exact pin.2
      · simp only [up_eq]; rw [h1]; have := pin.1; rw [h.ow] at this; exact this
      · simp only [up_eq]; omega
    · rw [up_ne e1] at ht
      obtain ⟨pr, r, h1, h2, h3, h4, h5, h6⟩ := h.tr5 t ht
      refine ⟨pr, r, h1, h2, ?_, ?_, ?_, ?_⟩
      · simp only [up_ne e1]; exact Seg.congr (fun u h3 h4 => by unfold up; grind) _ _ _ h3
      · simp only [up_ne e1]; exact Pri.congr r _ (fun e he => setP_out _ _ (out t e1 e (by rw [h2]; simp [he]))) h4
      · simp only [up_ne e1]; rw [← h5]; have := out t e1 (f.ow t) (by rw [h2]; simp); rw [h.ow] at this; exact setP_out _ _ this
      · simpa only [up_ne e1] using h6
  · intro t ht
    have e1 : t ≠ a := by intro e; subst e; unfold up at ht; grind
    rw [up_ne e1] at ht
    have := h.p4 t ht
    exact Pri.congr _ _ (fun e he => setP_out _ _ (out t e1 e (by rw [h.s1 t (by simp [ht])]; exact he))) this
  · intro t ht h16
    by_cases e1 : t = a
    · subst e1; simp [up] at h16
    · rw [up_ne e1] at ht
      simp only [up_ne e1] at h16
      simpa [kidB, up_ne e1] using h.s16 t ht h16
  · intro t e he
    have h1 := h.mem t e he
    by_cases e1 : t = a
    · subst e1
      have := setC_in (cm := f.cm) (f.ba t) e (sa ▸ he)
      simp only [up] at *
      grind
    · have := setC_out (cm := f.cm) (f.ba a) (out t e1 e he)
      simp only [up] at *
      grind
  · intro u hu
    have e1 : u ≠ a := by intro e; subst e; unfold up at hu; grind
    rw [up_ne e1] at hu
    obtain ⟨k, h1, h2⟩ := h.par u hu
    refine ⟨k, ?_, h2⟩
    have := h.at0 a (by omega)
    simp only [kiG, up] at *
    grind
theorem Bat.fetches {c : Cf} {f : BF} {g p : Int → Int} {S : Int → List En} (h : Bat c f g p S) {a : Int} (ha : g a = 4) :
    Bat c { f with at_ := up f.at_ a 0, x := up f.x a (f.rs a), s16 := up f.s16 a false } (up g a 5) p S := by
  have sa := h.s1 a (by simp [ha])
  have pin := h.p4 a ha
  refine { rng := ?_, gr := ?_, idle := ?_, s0 := ?_, s1 := ?_, ow := h.ow, at0 := ?_, tree := ?_, tr5 := ?_, p4 := ?_, s16 := ?_, nod := h.nod, dis := h.dis, mem := ?_, par := ?_, bl := h.bl }
  · intro t; have := h.rng t; unfold up; grind
  · intro t; have := h.gr t; unfold up; grind
  · intro t ht; have := h.idle t; unfold up at ht; grind
  · intro t; have := h.s0 t; unfold up; grind
  · intro t; have := h.s1 t; unfold up; grind
  · intro t; have := h.at0 t; simp only [up]; grind
  · intro t ht
    have e1 : t ≠ a := by intro e; subst e; unfold up at ht; grind
    rw [up_ne e1] at ht
    obtain ⟨r, h1, h2⟩ := h.tree t ht
    exact ⟨r, h1, Seg.congr (fun u h3 h4 => by unfold up; grind) _ _ _ h2⟩
  · intro t ht
    by_cases e1 : t = a
    · subst e1
      obtain ⟨r, h1, h2⟩ := h.tree t (by simp [ha])
      rw [h1] at pin
      refine ⟨[f.ow t], r, by simpa using h1, by rw [sa]; exact h1, ?_, ?_, ?_, ?_⟩
      · simp only [up_eq]; exact Seg.congr (fun u h3 h4 => by unfold up; grind) _ _ _ h2
      · simp only [up_eq]; exact pin.2
      · simp only [up_eq]; have := pin.1; rw [h.ow] at this; exact this
      · simp only [up_eq]; omega
    · rw [up_ne e1] at ht
      obtain ⟨pr, r, h1, h2, h3, h4⟩ := h.tr5 t ht
      refine ⟨pr, r, h1, h2, ?_, ?_⟩
      · simp only [up_ne e1]; exact Seg.congr (fun u h3 h4 => by unfold up; grind) _ _ _ h3
      · simpa only [up_ne e1] using h4
  · intro t ht
    have e1 : t ≠ a := by intro e; subst e; unfold up at ht; grind
    rw [up_ne e1] at ht
    exact h.p4 t ht
  · intro t ht h16
    by_cases e1 : t = a
    · subst e1; simp [up] at h16
    · rw [up_ne e1] at ht
      simp only [up_ne e1] at h16
      simpa [kidB, up_ne e1] using h.s16 t ht h16
  · intro t e he
    have h1 := h.mem t e he
    simp only [up] at *
    grind
  · intro u hu
    have e1 : u ≠ a := by intro e; subst e; unfold up at hu; grind
    rw [up_ne e1] at hu
    obtain ⟨k, h1, h2⟩ := h.par u hu
    refine ⟨k, ?_, h2⟩
    have := h.at0 a (by omega)
    simp only [kiG, up] at *
    grind
theorem Bat.kid {c : Cf} {f : BF} {g p : Int → Int} {S : Int → List En} (h : Bat c f g p S) {a : Int} (ha : g a = 5) (h0 : f.at_ a < (f.ki a).length) : g (kidB f a).t = 3 ∧ p (kidB f a).t = a := by
  obtain ⟨pr, r, h1, h2, h3, h4, h5, h6⟩ := h.tr5 a ha
  have h7 := (Seg.mem _ _ _ h3 (kidB f a) (by
    unfold kidB
    have : (f.at_ a).toNat < (f.ki a).length := by omega
    rw [List.getD_eq_getElem?_getD, List.getElem?_eq_getElem this, List.drop_eq_getElem_cons this]
    exact List.mem_cons_self))
  exact ⟨h7.1, h7.2.1⟩
theorem Bat.shares {c : Cf} {f : BF} {g p : Int → Int} {S : Int → List En} (h : Bat c f g p S) {a : Int} (ha : g a = 5) (h0 : f.at_ a < (f.ki a).length) :
    Bat c { f with s16 := up f.s16 a true, rs := up f.rs (kidB f a).t (allS ((f.ba a).take (kidB f a).ah.toNat) (f.x a) c.lo c.hi) } g p S := by
  have hk := h.kid ha h0
  refine { rng := h.rng, gr := h.gr, idle := h.idle, s0 := h.s0, s1 := h.s1, ow := h.ow, at0 := h.at0, tree := h.tree, tr5 := h.tr5, p4 := ?_, s16 := ?_, nod := h.nod, dis := h.dis, mem := h.mem, par := h.par, bl := h.bl }
  · intro t ht
    have : t ≠ (kidB f a).t := by intro e; rw [← e] at hk; omega
    simpa only [up_ne this] using h.p4 t ht
  · intro t ht h16
    by_cases e1 : t = a
    · subst e1
      refine ⟨h0, ?_⟩
      show up _ _ _ (kidB f t).t = _
      rw [up_eq]; rfl
    · simp only [up_ne e1] at h16
      obtain ⟨h1, h2⟩ := h.s16 t ht h16
      have hk2 := h.kid ht h1
      refine ⟨h1, ?_⟩
      show up _ _ _ (kidB f t).t = _
      rw [up_ne (by intro e; rw [e] at hk2; exact e1 (hk2.2.symm.trans hk.2))]
      exact h2
theorem nodup_app {α β : Type} (f : α → β) {a b : List α} (h : ((a ++ b).map f).Nodup) : (a.map f).Nodup ∧ (b.map f).Nodup ∧ ∀ x ∈ a, ∀ y ∈ b, f x ≠ f y := by
  rw [List.map_append, List.nodup_append] at h
  exact ⟨h.1, h.2.1, fun x hx y hy => h.2.2 _ (List.mem_map_of_mem hx) _ (List.mem_map_of_mem hy)⟩
theorem Bat.tells {c : Cf} {f : BF} {g p : Int → Int} {S : Int → List En} (h : Bat c f g p S) {a u : Int} (ha : g a = 5) (h16 : f.s16 a = true) (hu : u = (kidB f a).t) :
    ∃ S', Bat c { f with at_ := up f.at_ a (f.at_ a + 1), s16 := up f.s16 a false } (up g u 4) p S' := by
  obtain ⟨h0, hrs⟩ := h.s16 a ha h16
  have hk := h.kid ha h0
  rw [← hu] at hk hrs
  obtain ⟨pr, r, h1, h2, h3, h4, h5, h6⟩ := h.tr5 a ha
  have h7 : (f.at_ a).toNat < (f.ki a).length := by omega
  have hau : a ≠ u := by intro e; subst e; omega
  rw [List.drop_eq_getElem_cons h7] at h3
  have hkb : (f.ki a)[(f.at_ a).toNat] = kidB f a := by
    unfold kidB; rw [List.getD_eq_getElem?_getD, List.getElem?_eq_getElem h7]; rfl
  rw [hkb] at h3
  obtain ⟨k1, k2, k3, r', k4, k5⟩ := h3
  rw [← hu] at k4 k5
  subst k4
  have hpre : (f.ba a).take (kidB f a).ah.toNat = pr := by rw [h1, k1]; simp
  rw [hpre] at hrs
  rw [Pri.app] at h4
  have hna := h.nod a
  rw [h2, List.map_cons, List.nodup_cons] at hna
  have hnb := nodup_app _ hna.2
  have nou : ∀ e ∈ f.ba u ++ r', e.t ≠ a := fun e he ee => hna.1 (by rw [h.ow, ← ee]; exact List.mem_map_of_mem he)
  have gu : up g u 4 a = 5 := by rw [up_ne hau]; exact ha
  have seg : ∀ t ks off r, Seg g p f.ba t ks off r → (∀ k ∈ ks, k.t ≠ u) → Seg (up g u 4) p f.ba t ks off r := by
    intro t ks
    induction ks with
    | nil => intro off r hs _; exact hs
    | cons k ks ih =>
      intro off r hs hk
      obtain ⟨s1, s2, s3, r1, s4, s5⟩ := hs
      exact ⟨s1, by rw [up_ne (hk k (by simp))]; exact s2, s3, r1, s4, ih _ _ s5 fun k' hk' => hk k' (by simp [hk'])⟩
  have notk : ∀ t, t ≠ a → ∀ ks off r, Seg g p f.ba t ks off r → ∀ k ∈ ks, k.t ≠ u := by
    intro t ht ks off r hs k hk' e
    have := (Seg.mem _ _ _ hs k hk').2.1
    rw [e, hk.2] at this
    exact ht this.symm
  have hbu : ∃ rr, f.ba u = f.ow u :: rr ∧ Seg g p f.ba u (f.ki u) 1 rr := h.tree u (by simp [hk.1])
  have owu : f.ow u ∈ f.ba u := by obtain ⟨rr, h8, _⟩ := hbu; rw [h8]; simp
  have nor : ∀ ks off r1, Seg g p f.ba a ks off r1 → (∀ e ∈ r1, e ∈ r') → ∀ k ∈ ks, k.t ≠ u := by
    intro ks off r1 hs hr k hk' e
    have h8 := (Seg.mem _ _ _ hs k hk').2.2 (f.ow u) (by rw [e]; exact owu)
    exact hnb.2.2 (f.ow u) owu _ (hr _ h8) rfl
  refine ⟨up (up S u (f.ba u)) a (f.ow a :: r'), { rng := ?_, gr := ?_, idle := ?_, s0 := ?_, s1 := ?_, ow := h.ow, at0 := ?_, tree := ?_, tr5 := ?_, p4 := ?_, s16 := ?_, nod := ?_, dis := ?_, mem := ?_, par := ?_, bl := h.bl }⟩
  · intro t; have := h.rng t; unfold up; grind
  · intro t; have := h.gr t; unfold up; grind
  · intro t; have := h.idle t; unfold up; grind
  · intro t; have := h.s0 t; unfold up; grind
  · intro t; have := h.s1 t; unfold up; grind
  · intro t; have := h.at0 t; simp only [up]; grind
  · intro t ht
    have e1 : t ≠ a := by intro e; subst e; unfold up at ht; grind
    obtain ⟨rr, h8, h9⟩ := h.tree t (by unfold up at ht; grind)
    exact ⟨rr, h8, seg _ _ _ _ h9 (notk t e1 _ _ _ h9)⟩
  · intro t ht
    by_cases e1 : t = a
    · subst e1
      refine ⟨pr ++ f.ba u, r', by rw [h1]; simp, by rw [up_eq], ?_, ?_, ?_, ?_⟩
      · simp only [up_eq]
        rw [show (f.at_ t + 1).toNat = (f.at_ t).toNat + 1 by omega, List.length_append]
        exact_mod_cast seg _ _ _ _ k5 (nor _ _ _ k5 fun e he => he)
      · rw [all_app]; exact h4.2
      · exact h5
      · simp only [up_eq]; omega
    · have e2 : t ≠ u := by intro e; subst e; rw [up_eq] at ht; omega
      rw [up_ne e2] at ht
      obtain ⟨pr2, r2, j1, j2, j3, j4⟩ := h.tr5 t ht
      refine ⟨pr2, r2, j1, by rw [up_ne e1, up_ne e2]; exact j2, ?_, ?_⟩
      · simp only [up_ne e1]
        exact seg _ _ _ _ j3 (notk t e1 _ _ _ j3)
      · simpa only [up_ne e1] using j4
  · intro t ht
    by_cases e2 : t = u
    · subst e2; rw [hrs]; exact h4.1
    · rw [up_ne e2] at ht; exact h.p4 t ht
  · intro t ht hs
    by_cases e1 : t = a
    · subst e1; simp [up] at hs
    · have e2 : t ≠ u := by intro e; subst e; rw [up_eq] at ht; omega
      rw [up_ne e2] at ht
      simp only [up_ne e1] at hs
      simpa [kidB, up_ne e1] using h.s16 t ht hs
  · intro t
    by_cases e1 : t = a
    · subst e1; rw [up_eq, List.map_cons, List.nodup_cons]
      exact ⟨fun hm => hna.1 (by rw [List.map_append]; exact List.mem_append_right _ hm), hnb.2.1⟩
    · rw [up_ne e1]
      by_cases e2 : t = u
      · subst e2; rw [up_eq]; exact hnb.1
      · rw [up_ne e2]; exact h.nod t
  · have key : ∀ t e, e ∈ up (up S u (f.ba u)) a (f.ow a :: r') t → (t = a ∧ e ∈ S a ∧ (e.t = a ∨ e ∈ r')) ∨ (t = u ∧ e ∈ S a ∧ e ∈ f.ba u) ∨ (t ≠ a ∧ t ≠ u ∧ e ∈ S t) := by
      intro t e he
      by_cases e1 : t = a
      · subst e1; rw [up_eq] at he
        rcases List.mem_cons.1 he with h8 | h8
        · subst h8; exact Or.inl ⟨rfl, by rw [h2]; simp, Or.inl (h.ow _)⟩
        · exact Or.inl ⟨rfl, by rw [h2]; simp [h8], Or.inr h8⟩
      · rw [up_ne e1] at he
        by_cases e2 : t = u
        · subst e2; rw [up_eq] at he
          exact Or.inr (Or.inl ⟨rfl, by rw [h2]; simp [he], he⟩)
        · rw [up_ne e2] at he; exact Or.inr (Or.inr ⟨e1, e2, he⟩)
    intro t v e e' he he' ee
    rcases key t e he with ⟨x1, x2, x3⟩ | ⟨x1, x2, x3⟩ | ⟨x1, x2, x3⟩ <;> rcases key v e' he' with ⟨y1, y2, y3⟩ | ⟨y1, y2, y3⟩ | ⟨y1, y2, y3⟩
    · rw [x1, y1]
    · rcases x3 with x3 | x3
      · exact absurd (ee.symm.trans x3) (nou e' (by simp [y3]))
      · exact absurd ee.symm (hnb.2.2 e' y3 e x3)
    · exact absurd (h.dis v a e' e y3 x2 ee.symm) y1
    · rcases y3 with y3 | y3
      · exact absurd (ee.trans y3) (nou e (by simp [x3]))
      · exact absurd ee (hnb.2.2 e x3 e' y3)
    · rw [x1, y1]
    · exact absurd (h.dis v a e' e y3 x2 ee.symm) y1
    · exact absurd (h.dis t a e e' x3 y2 ee) x1
    · exact absurd (h.dis t a e e' x3 y2 ee) x1
    · exact h.dis t v e e' x3 y3 ee
  · intro t e he
    by_cases e1 : t = a
    · subst e1; rw [up_eq] at he
      have h8 := h.mem t e (by rw [h2]; rcases List.mem_cons.1 he with h8 | h8 <;> simp [h8])
      unfold up; grind
    · rw [up_ne e1] at he
      by_cases e2 : t = u
      · subst e2; rw [up_eq] at he
        have h8 := h.mem a e (by rw [h2]; simp [he])
        have h9 := h.mem a (f.ow t) (by rw [h2]; simp [owu])
        rw [h.ow] at h9
        unfold up; grind
      · rw [up_ne e2] at he
        have h8 := h.mem t e he
        unfold up; grind
  · intro v hv
    have e2 : v ≠ u := by intro e; subst e; rw [up_eq] at hv; omega
    rw [up_ne e2] at hv
    obtain ⟨k, k6, k7⟩ := h.par v hv
    refine ⟨k, ?_, k7⟩
    by_cases e1 : p v = a
    · rw [e1] at k6 ⊢
      unfold kiG at k6 ⊢
      rw [gu, if_neg (by omega)]
      rw [if_neg (by omega), List.drop_eq_getElem_cons h7, hkb] at k6
      simp only [up_eq]
      rw [show (f.at_ a + 1).toNat = (f.at_ a).toNat + 1 by omega]
      rcases List.mem_cons.1 k6 with k8 | k8
      · subst k8; rw [← hu] at k7; exact absurd k7.symm e2
      · exact k8
    · unfold kiG at k6 ⊢
      simp only [up_ne e1]
      by_cases e3 : p v = u
      · rw [e3] at k6 ⊢; rw [up_eq, if_neg (by omega)]; rwa [hk.1, if_neg (by omega)] at k6
      · rw [up_ne e3]; exact k6
theorem Bat.ends {c : Cf} {f : BF} {g p : Int → Int} {S : Int → List En} (h : Bat c f g p S) {a : Int} (ha : g a = 5) (h0 : (f.ki a).length ≤ f.at_ a) :
    Bat c { f with cm := up f.cm a false, at_ := up f.at_ a 0, x := up f.x a 0, s16 := up f.s16 a false } (up g a 0) p (up S a []) := by
  obtain ⟨pr, r, h1, h2, h3, h4, h5, h6⟩ := h.tr5 a ha
  rw [List.drop_of_length_le (by omega)] at h3
  have h3 : r = [] := h3
  subst h3
  have owa : f.ow a ∈ S a := by rw [h2]; simp
  have nota : ∀ t, t ≠ a → ∀ e ∈ S t, e.t ≠ a := fun t ht e he ee => ht (h.dis t a e (f.ow a) he owa (by rw [h.ow, ee]))
  have npar : ∀ v, g v = 3 → p v ≠ a := by
    intro v hv e
    obtain ⟨k, k6, k7⟩ := h.par v hv
    rw [e] at k6
    unfold kiG at k6
    rw [if_neg (by omega), List.drop_of_length_le (by omega)] at k6
    simp at k6
  refine { rng := ?_, gr := ?_, idle := ?_, s0 := ?_, s1 := ?_, ow := h.ow, at0 := ?_, tree := ?_, tr5 := ?_, p4 := ?_, s16 := ?_, nod := ?_, dis := ?_, mem := ?_, par := ?_, bl := h.bl }
  · intro t; have := h.rng t; unfold up; grind
  · intro t; have := h.gr t; unfold up; grind
  · intro t; have := h.idle t; simp only [up]; grind
  · intro t; have := h.s0 t; unfold up; grind
  · intro t; have := h.s1 t; unfold up; grind
  · intro t; have := h.at0 t; simp only [up]; grind
  · intro t ht
    have e1 : t ≠ a := by intro e; subst e; unfold up at ht; grind
    rw [up_ne e1] at ht
    obtain ⟨r, h1, h2⟩ := h.tree t ht
    exact ⟨r, h1, Seg.congr (fun u h3 h4 => by unfold up; grind) _ _ _ h2⟩
  · intro t ht
    have e1 : t ≠ a := by intro e; subst e; unfold up at ht; grind
    rw [up_ne e1] at ht
    obtain ⟨pr, r, j1, j2, j3, j4⟩ := h.tr5 t ht
    refine ⟨pr, r, j1, by rw [up_ne e1]; exact j2, ?_, ?_⟩
    · simp only [up_ne e1]; exact Seg.congr (fun u h3 h4 => by unfold up; grind) _ _ _ j3
    · simpa only [up_ne e1] using j4
  · intro t ht
    have e1 : t ≠ a := by intro e; subst e; unfold up at ht; grind
    rw [up_ne e1] at ht
    exact h.p4 t ht
  · intro t ht hs
    have e1 : t ≠ a := by intro e; subst e; unfold up at ht; grind
    rw [up_ne e1] at ht
    simp only [up_ne e1] at hs
    simpa [kidB, up_ne e1] using h.s16 t ht hs
  · intro t
    by_cases e1 : t = a
    · subst e1; rw [up_eq]; simp
    · rw [up_ne e1]; exact h.nod t
  · intro t u x y hx hy exy
    have h3 := h.dis t u x y
    unfold up at hx hy
    grind
  · intro t e he
    by_cases e1 : t = a
    · subst e1; rw [up_eq] at he; simp at he
    · rw [up_ne e1] at he
      have h8 := h.mem t e he
      have h9 := nota t e1 e he
      simp only [up]; grind
  · intro v hv
    have e2 : v ≠ a := by intro e; subst e; rw [up_eq] at hv; omega
    rw [up_ne e2] at hv
    obtain ⟨k, k6, k7⟩ := h.par v hv
    have := npar v hv
    refine ⟨k, ?_, k7⟩
    unfold kiG at *
    simp only [up_ne this]
    exact k6
theorem hd_mem {l : List Int} {m : Int} (h : l.head? = some m) : m ∈ l := by cases l with | nil => simp at h | cons x l => simp at h; simp [h]
structure NF where
  nd : Int → Int → Int
  hd : Int → List Int
  jn : Int → Int
  it : Int → Int
  fr : Int → Bool
  w9 : Int → Int
  w22 : Int → Int
  st : Int → Int
/-- Is a thread to free this node? -/
def frA (f : NF) (t n : Int) : Prop := f.fr t = true ∧ (f.hd t).head? = some n
structure Nod (f : NF) (g p : Int → Int) : Prop where
  n0 : ∀ t n, n ∈ f.hd t → frA f t n → ∃ u, f.nd (f.it t) n = depositedS u
  n1 : ∀ t n, n ∈ f.hd t → ¬ frA f t n → f.nd (f.it t) n = firstS t ∨ (∃ u, f.nd (f.it t) n = joinedS u ∧ f.jn u = n ∧ f.it u = f.it t) ∨ (∃ u, f.nd (f.it t) n = depositedS u ∧ g u = 2 ∧ p u = t ∧ f.st u = n ∧ f.it u = f.it t)
  n2 : ∀ i n, f.nd i n ≠ 0 → ∃ t, n ∈ f.hd t ∧ f.it t = i
  n3 : ∀ t u n, n ∈ f.hd t → n ∈ f.hd u → f.it t = f.it u → t = u
  n4 : ∀ u, f.jn u ≠ 0 → f.nd (f.it u) (f.jn u) = joinedS u
  n5 : ∀ u, g u = 2 → (f.w22 (p u) = u ∧ 0 ≤ u) ∨ (f.st u ∈ f.hd (p u) ∧ f.it u = f.it (p u) ∧ f.nd (f.it u) (f.st u) = depositedS u ∧ ¬ frA f (p u) (f.st u))
  n6 : ∀ t, f.w9 t ≠ -1 → ∃ n, (f.hd t).head? = some n ∧ f.nd (f.it t) n = depositedS (f.w9 t)
  n7 : ∀ t, f.w22 t ≠ -1 → g (f.w22 t) = 2 ∧ p (f.w22 t) = t ∧ f.it (f.w22 t) = f.it t ∧ f.hd t = []
  n8 : ∀ t, f.hd t = [] ∨ f.w22 t = -1
  n9 : ∀ t, (f.hd t).Nodup
  n10 : ∀ t n, n ∈ f.hd t → n ≠ 0
theorem joi_inj {t u : Int} : joinedS t = joinedS u ↔ t = u := by unfold joinedS; omega
theorem dep_inj {t u : Int} : depositedS t = depositedS u ↔ t = u := by unfold depositedS; omega
theorem fst_joi {t u : Int} : firstS t ≠ joinedS u := by unfold joinedS firstS; omega
theorem fst_dep {t u : Int} : firstS t ≠ depositedS u := by unfold depositedS firstS; omega
theorem joi_dep {t u : Int} : joinedS t ≠ depositedS u := by unfold depositedS joinedS; omega
theorem fst_nz {t : Int} : firstS t ≠ 0 := by unfold firstS; omega
theorem joi_nz {t : Int} : joinedS t ≠ 0 := by unfold joinedS; omega
theorem dep_nz {t : Int} : depositedS t ≠ 0 := by unfold depositedS; omega
theorem Nod.nz {f : NF} {g p : Int → Int} (h : Nod f g p) {t n : Int} (hn : n ∈ f.hd t) : f.nd (f.it t) n ≠ 0 := by
  by_cases e : frA f t n
  · obtain ⟨u, h1⟩ := h.n0 t n hn e; rw [h1]; exact dep_nz
  · rcases h.n1 t n hn e with h1 | ⟨u, h1, _⟩ | ⟨u, h1, _⟩ <;> rw [h1]
    · exact fst_nz
    · exact joi_nz
    · exact dep_nz
/-- What is known of who is given to whom changes, but for those that are given. -/
theorem Nod.gcongr {f : NF} {g p g' p' : Int → Int} (h : Nod f g p) (hg : ∀ u, g' u = 2 ↔ g u = 2) (hp : ∀ u, g u = 2 → p' u = p u) : Nod f g' p' where
  n0 := h.n0
  n1 t n h1 h2 := by
    rcases h.n1 t n h1 h2 with h3 | h3 | ⟨u, h3, h4, h5, h6⟩
    · exact Or.inl h3
    · exact Or.inr (Or.inl h3)
    · exact Or.inr (Or.inr ⟨u, h3, (hg u).2 h4, by rw [hp u h4]; exact h5, h6⟩)
  n2 := h.n2
  n3 := h.n3
  n4 := h.n4
  n5 u hu := by have h1 := (hg u).1 hu; rw [hp u h1]; exact h.n5 u h1
  n6 := h.n6
  n7 t ht := by obtain ⟨h1, h2, h3⟩ := h.n7 t ht; exact ⟨(hg _).2 h1, by rw [hp _ h1]; exact h2, h3⟩
  n8 := h.n8
  n9 := h.n9
  n10 := h.n10
/-- One that has nothing begins anew. -/
theorem Nod.anew {f : NF} {g p : Int → Int} (h : Nod f g p) {a i s : Int} (ha : g a ≠ 2) (h1 : f.hd a = []) (h2 : f.jn a = 0) (h3 : f.w22 a = -1) (h4 : f.w9 a = -1) : Nod { f with it := up f.it a i, st := up f.st a s } g p := by
  have key : ∀ u, g u = 2 → p u ≠ a := by
    intro u hu e
    have h5 := h.n5 u hu
    rw [e, h3, h1] at h5
    rcases h5 with h5 | h5
    · omega
    · simp at h5
  have kh : ∀ t n, n ∈ f.hd t → t ≠ a := by intro t n hn e; subst e; rw [h1] at hn; simp at hn
  refine { n0 := ?_, n1 := ?_, n2 := ?_, n3 := ?_, n4 := ?_, n5 := ?_, n6 := ?_, n7 := ?_, n8 := h.n8, n9 := h.n9, n10 := h.n10 }
  · intro t n hn; have := h.n0 t n hn; have := kh t n hn; simp only [up, frA] at *; grind
  · intro t n hn; have := h.n1 t n hn; have := kh t n hn; have := h.n10 t n hn; simp only [up, frA] at *; grind
  · intro i n hi; obtain ⟨t, h5, h6⟩ := h.n2 i n hi; have := kh t n h5; exact ⟨t, h5, by simpa only [up_ne this] using h6⟩
  · intro t u n hn hu; have := h.n3 t u n hn hu; have := kh t n hn; have := kh u n hu; simp only [up] at *; grind
  · intro u hu; have := h.n4 u hu; simp only [up] at *; grind
  · intro u hu; have := h.n5 u hu; have := key u hu; simp only [up, frA] at *; grind
  · intro t ht; have := h.n6 t ht; simp only [up] at *; grind
  · intro t ht; have := h.n7 t ht; simp only [up] at *; grind
theorem Nod.takes {f : NF} {g p : Int → Int} (h : Nod f g p) {a n : Int} (hn : n ≠ 0) (h0 : f.nd (f.it a) n = 0) (h1 : f.fr a = false) (h2 : f.w9 a = -1) (h3 : f.w22 a = -1) : Nod { f with nd := up2 f.nd (f.it a) n (firstS a), hd := up f.hd a (f.hd a ++ [n]) } g p := by
  have no : ∀ t m, m ∈ f.hd t → ¬ (f.it t = f.it a ∧ m = n) := by
    intro t m hm e
    have := h.nz hm
    rw [e.1, e.2] at this
    exact this h0
  refine { n0 := ?_, n1 := ?_, n2 := ?_, n3 := ?_, n4 := ?_, n5 := ?_, n6 := ?_, n7 := ?_, n8 := ?_, n9 := ?_, n10 := ?_ }
  · intro t m hm; have := h.n0 t m; have := no t m; simp only [up, up2, frA] at *; grind
  · intro t m hm; have := h.n1 t m; have := no t m; simp only [up, up2, frA] at *; grind
  · intro i m hi; have := h.n2 i m; simp only [up, up2] at *; grind
  · intro t u m; have := h.n3 t u m; have := no t m; have := no u m; simp only [up] at *; grind
  · intro u hu; have := h.n4 u hu; simp only [up2] at *; grind [joi_nz]
  · intro u hu; have := h.n5 u hu; simp only [up, up2, frA] at *; grind [dep_nz]
  · intro t ht; have := h.n6 t ht; simp only [up, up2] at *; grind [dep_nz]
  · intro t ht; have := h.n7 t ht; simp only [up] at *; grind
  · intro t; have := h.n8 t; simp only [up] at *; grind
  · intro t; have := h.n9 t; have := no a n; simp only [up] at *; grind [List.nodup_append]
  · intro t m; have := h.n10 t m; simp only [up] at *; grind
theorem Nod.joins {f : NF} {g p : Int → Int} (h : Nod f g p) {a n b : Int} (hn : n ≠ 0) (h0 : f.nd (f.it a) n = firstS b) (h1 : f.jn a = 0) (hg : g a ≠ 2) : Nod { f with nd := up2 f.nd (f.it a) n (joinedS a), jn := up f.jn a n, st := up f.st a n } g p := by
  obtain ⟨t0, i1, i2⟩ := h.n2 (f.it a) n (by rw [h0]; exact fst_nz)
  have no : ∀ t m, m ∈ f.hd t → f.it t = f.it a → m = n → t = t0 := by
    intro t m hm e1 e2
    subst e2
    exact h.n3 _ _ _ hm i1 (by rw [i2, e1])
  have nf : ¬ frA f t0 n := by
    intro e; obtain ⟨u, h2⟩ := h.n0 t0 n i1 e; rw [i2, h0] at h2; exact fst_dep h2
  refine { n0 := ?_, n1 := ?_, n2 := ?_, n3 := h.n3, n4 := ?_, n5 := ?_, n6 := ?_, n7 := h.n7, n8 := h.n8, n9 := h.n9, n10 := h.n10 }
  · intro t m hm hf; have := h.n0 t m hm hf; have := no t m hm; simp only [up2, frA] at *; grind
  · intro t m hm hf; have := h.n1 t m hm hf; have := no t m hm; have := h.n10 t m hm; simp only [up, up2, frA] at *; grind
  · intro i m hi; have := h.n2 i m; simp only [up2] at *; grind
  · intro u hu; have := h.n4 u; simp only [up, up2] at *; grind [fst_joi]
  · intro u hu; have := h.n5 u hu; simp only [up, up2, frA] at *; grind [fst_dep]
  · intro t ht; have := h.n6 t ht; simp only [up2] at *; grind [fst_dep]
theorem Nod.closes {f : NF} {g p : Int → Int} (h : Nod f g p) {a n : Int} {l : List Int} (h0 : f.hd a = n :: l) (h1 : f.nd (f.it a) n = firstS a) (h2 : f.fr a = false) (h3 : f.w9 a = -1) : Nod { f with nd := up2 f.nd (f.it a) n 0, hd := up f.hd a l } g p := by
  have nn := h.n9 a
  rw [h0, List.nodup_cons] at nn
  have no : ∀ t m, m ∈ f.hd t → f.it t = f.it a → m = n → t = a := by
    intro t m hm e1 e2
    subst e2
    exact h.n3 _ _ _ hm (by rw [h0]; simp) e1
  have ma : ∀ m, m ∈ f.hd a ↔ m = n ∨ m ∈ l := by intro m; rw [h0]; simp
  refine { n0 := ?_, n1 := ?_, n2 := ?_, n3 := ?_, n4 := ?_, n5 := ?_, n6 := ?_, n7 := ?_, n8 := ?_, n9 := ?_, n10 := ?_ }
  · intro t m hm; have := h.n0 t m; have := no t m; simp only [up, up2, frA] at *; grind
  · intro t m hm; have := h.n1 t m; have := no t m; simp only [up, up2, frA] at *; grind
  · intro i m hi; have := h.n2 i m; simp only [up, up2] at *; grind
  · intro t u m; have := h.n3 t u m; simp only [up] at *; grind
  · intro u hu; have := h.n4 u hu; simp only [up2] at *; grind [fst_joi]
  · intro u hu; have := h.n5 u hu; simp only [up, up2, frA] at *; grind [fst_dep]
  · intro t ht; have := h.n6 t ht; simp only [up, up2] at *; grind [fst_dep]
  · intro t ht; have := h.n7 t ht; simp only [up] at *; grind
  · intro t; have := h.n8 t; simp only [up] at *; grind
  · intro t; have := h.n9 t; simp only [up] at *; grind
  · intro t m; have := h.n10 t m; simp only [up] at *; grind
theorem Nod.collects {f : NF} {g p : Int → Int} (h : Nod f g p) {a u : Int} (h0 : f.w9 a = u) (h9 : u ≠ -1) (h3 : f.w22 a = -1) (hr : f.fr a = false) : (g u = 2 ∧ p u = a ∧ f.it u = f.it a) ∧ Nod { f with fr := up f.fr a true, w9 := up f.w9 a (-1) } (up g u 3) p := by
  obtain ⟨n, i1, i2⟩ := h.n6 a (by omega)
  rw [h0] at i2
  have i3 : n ∈ f.hd a := by cases hh : f.hd a with | nil => rw [hh] at i1; simp at i1 | cons x l => rw [hh] at i1; simp at i1; simp [i1]
  have i4 : g u = 2 ∧ p u = a ∧ f.st u = n ∧ f.it u = f.it a := by
    have := h.n1 a n i3 (by intro e; rw [e.1] at hr; cases hr)
    grind [fst_dep, joi_dep, dep_inj]
  refine ⟨by grind, { n0 := ?_, n1 := ?_, n2 := h.n2, n3 := h.n3, n4 := h.n4, n5 := ?_, n6 := ?_, n7 := ?_, n8 := h.n8, n9 := h.n9, n10 := h.n10 }⟩
  · intro t m hm; have := h.n0 t m hm; simp only [up, frA] at *; grind
  · intro t m hm; have := h.n1 t m hm; simp only [up, frA] at *; grind
  · intro v hv; have := h.n5 v; simp only [up, frA] at *; grind [dep_inj]
  · intro t ht; have := h.n6 t; simp only [up] at *; grind
  · intro t ht; have := h.n7 t; simp only [up] at *; grind
theorem Nod.frees {f : NF} {g p : Int → Int} (h : Nod f g p) {a n : Int} {l : List Int} (h0 : f.hd a = n :: l) (h2 : f.fr a = true) (h3 : f.w9 a = -1) : Nod { f with nd := up2 f.nd (f.it a) n 0, hd := up f.hd a l, fr := up f.fr a false } g p := by
  have nn := h.n9 a
  rw [h0, List.nodup_cons] at nn
  obtain ⟨w, h1⟩ := h.n0 a n (by rw [h0]; simp) ⟨h2, by rw [h0]; rfl⟩
  have no : ∀ t m, m ∈ f.hd t → f.it t = f.it a → m = n → t = a := by
    intro t m hm e1 e2
    subst e2
    exact h.n3 _ _ _ hm (by rw [h0]; simp) e1
  have ma : ∀ m, m ∈ f.hd a ↔ m = n ∨ m ∈ l := by intro m; rw [h0]; simp
  have fa : ∀ m, frA f a m ↔ m = n := by intro m; unfold frA; rw [h0]; simp [h2]; exact eq_comm
  refine { n0 := ?_, n1 := ?_, n2 := ?_, n3 := ?_, n4 := ?_, n5 := ?_, n6 := ?_, n7 := ?_, n8 := ?_, n9 := ?_, n10 := ?_ }
  · intro t m hm; have := h.n0 t m; have := no t m; simp only [up, up2, frA] at *; grind
  · intro t m hm; have := h.n1 t m; have := no t m; have := fa m; simp only [up, up2, frA] at *; grind
  · intro i m hi; have := h.n2 i m; simp only [up, up2] at *; grind
  · intro t u m; have := h.n3 t u m; simp only [up] at *; grind
  · intro u hu; have := h.n4 u hu; simp only [up2] at *; grind [joi_dep]
  · intro u hu; have h5 := h.n5 u hu; have := fa (f.st u); have := no (p u) (f.st u); simp only [up, up2, frA] at *; grind
  · intro t ht; have h6 := h.n6 t; have := fun m => no t m; have := fun m => hd_mem (l := f.hd t) (m := m); simp only [up, up2] at *; grind
  · intro t ht; have := h.n7 t ht; simp only [up] at *; grind
  · intro t; have := h.n8 t; simp only [up] at *; grind
  · intro t; have := h.n9 t; simp only [up] at *; grind
  · intro t m; have := h.n10 t m; simp only [up] at *; grind
/-- A batch is left at a node: somebody holds it. -/
theorem Nod.deposits {f : NF} {g p : Int → Int} (h : Nod f g p) {a : Int} (h0 : f.jn a ≠ 0) (h1 : f.st a = f.jn a) (h2 : f.hd a = []) (h3 : f.w22 a = -1) (hg : g a ≠ 2) : ∃ b, f.it b = f.it a ∧ f.hd b ≠ [] ∧ Nod { f with nd := up2 f.nd (f.it a) (f.jn a) (depositedS a), jn := up f.jn a 0 } (up g a 2) (up p a b) := by
  have i0 := h.n4 a h0
  obtain ⟨b, i1, i2⟩ := h.n2 (f.it a) (f.jn a) (by rw [i0]; exact joi_nz)
  have no : ∀ t m, m ∈ f.hd t → f.it t = f.it a → m = f.jn a → t = b := by
    intro t m hm e1 e2
    subst e2
    exact h.n3 _ _ _ hm i1 (by rw [i2, e1])
  have nf : ¬ frA f b (f.jn a) := by
    intro e; obtain ⟨u, h2⟩ := h.n0 b _ i1 e; rw [i2, i0] at h2; exact joi_dep h2
  have nb : b ≠ a := by intro e; subst e; rw [h2] at i1; simp at i1
  have npa : ∀ u, g u = 2 → p u ≠ a := by
    intro u hu e
    have h5 := h.n5 u hu
    rw [e, h3, h2] at h5
    rcases h5 with h5 | h5
    · omega
    · simp at h5
  refine ⟨b, i2, by intro e; rw [e] at i1; simp at i1, { n0 := ?_, n1 := ?_, n2 := ?_, n3 := h.n3, n4 := ?_, n5 := ?_, n6 := ?_, n7 := ?_, n8 := h.n8, n9 := h.n9, n10 := h.n10 }⟩
  · intro t m hm hf; have := h.n0 t m hm hf; have := no t m hm; simp only [up2, frA] at *; grind
  · intro t m hm hf; have := h.n1 t m hm hf; have := no t m hm; have := h.n10 t m hm; simp only [up, up2, frA] at *; grind [joi_inj]
  · intro i m hi; have := h.n2 i m; simp only [up2] at *; grind
  · intro u hu; have := h.n4 u; simp only [up, up2] at *; grind [joi_inj]
  · intro u hu; have := h.n5 u; simp only [up, up2, frA] at *; grind [joi_dep]
  · intro t ht; have := h.n6 t ht; simp only [up2] at *; grind [joi_dep]
  · intro t ht; have := h.n7 t ht; simp only [up] at *; grind
theorem Nod.captures {f : NF} {g p : Int → Int} (h : Nod f g p) {a u : Int} (h0 : f.w22 a = -1) (h1 : f.hd a = []) (hu : 0 ≤ u) (hg : g u ≠ 2) (h2 : f.hd u = []) (h3 : f.w22 u = -1) (hit : f.it u = f.it a) : Nod { f with w22 := up f.w22 a u } (up g u 2) (up p u a) := by
  have npa : ∀ v, g v = 2 → p v ≠ u ∧ p v ≠ a := by
    intro v hv
    have h5 := h.n5 v hv
    refine ⟨fun e => ?_, fun e => ?_⟩
    · rw [e, h3, h2] at h5
      rcases h5 with h5 | h5
      · omega
      · simp at h5
    · rw [e, h0, h1] at h5
      rcases h5 with h5 | h5
      · omega
      · simp at h5
  refine { n0 := h.n0, n1 := ?_, n2 := h.n2, n3 := h.n3, n4 := h.n4, n5 := ?_, n6 := h.n6, n7 := ?_, n8 := ?_, n9 := h.n9, n10 := h.n10 }
  · intro t m hm hf; have := h.n1 t m hm hf; simp only [up] at *; grind
  · intro v hv; have := h.n5 v; have := npa v; simp only [up, frA] at *; grind
  · intro t ht; have := h.n7 t; simp only [up] at *; grind
  · intro t; have := h.n8 t; simp only [up] at *; grind
theorem Nod.absorbs {f : NF} {g p : Int → Int} (h : Nod f g p) {a u : Int} (h0 : f.w22 a = u) (hu : u ≠ -1) : (g u = 2 ∧ p u = a ∧ f.it u = f.it a) ∧ Nod { f with w22 := up f.w22 a (-1) } (up g u 3) p := by
  have i1 := h.n7 a (by omega)
  rw [h0] at i1
  refine ⟨by grind, { n0 := h.n0, n1 := ?_, n2 := h.n2, n3 := h.n3, n4 := h.n4, n5 := ?_, n6 := h.n6, n7 := ?_, n8 := ?_, n9 := h.n9, n10 := h.n10 }⟩
  · intro t m hm hf; have := h.n1 t m hm hf; simp only [up] at *; grind
  · intro v hv; have := h.n5 v; simp only [up, frA] at *; grind
  · intro t ht; have := h.n7 t; simp only [up] at *; grind
  · intro t; have := h.n8 t; simp only [up] at *; grind
def atT (h : Th) : Int := if h.ph = 15 ∨ h.ph = 16 then h.at_ else 0
def xT (h : Th) : Int := if h.ph = 15 ∨ h.ph = 16 then h.x else 0
def hdT (h : Th) : List Int := if 4 ≤ h.ph ∧ h.ph ≤ 10 then h.held.drop h.at_.toNat else []
def jnT (h : Th) : Int := if 7 ≤ h.ph ∧ h.ph ≤ 12 then h.stop else 0
def w9T (h : Th) : Int := if h.ph = 9 then h.who else -1
def w22T (h : Th) : Int := if h.ph = 22 then h.who else -1
def s16T (h : Th) : Bool := decide (h.ph = 16)
def frT (h : Th) : Bool := decide (h.ph = 10)
def owT (t : Int) (h : Th) : En := ⟨t, h.tag, h.v⟩
def bfQ (q : Q) : BF := ⟨fun t => (q.th t).batch, fun t => (q.th t).kids, fun t => atT (q.th t), fun t => xT (q.th t), fun t => s16T (q.th t), fun t => owT t (q.th t), fun t => (q.th t).item, q.rs, q.cm, q.P⟩
def nfQ (q : Q) : NF := ⟨q.nd, fun t => hdT (q.th t), fun t => jnT (q.th t), fun t => (q.th t).item, fun t => frT (q.th t), fun t => w9T (q.th t), fun t => w22T (q.th t), fun t => (q.th t).stop⟩
theorem up_id {β : Type} {f : Int → β} {a : Int} {b : β} (h : b = f a) : up f a b = f := by funext x; unfold up; split <;> simp_all
theorem up_map {β : Type} {f : Int → Th} {a : Int} {h : Th} (F : Int → Th → β) : (fun t => F t (up f a h t)) = up (fun t => F t (f t)) a (F a h) := by funext x; unfold up; split <;> simp_all
theorem bf_eq {q q' : Q} {t : Int} {h : Th} (hth : q'.th = up q.th t h) : bfQ q' = ⟨up (bfQ q).ba t h.batch, up (bfQ q).ki t h.kids, up (bfQ q).at_ t (atT h), up (bfQ q).x t (xT h), up (bfQ q).s16 t (s16T h), up (bfQ q).ow t (owT t h), up (bfQ q).it t h.item, q'.rs, q'.cm, q'.P⟩ := by
  unfold bfQ
  simp only [hth, up_map fun _ h => h.batch, up_map fun _ h => h.kids, up_map fun _ h => atT h, up_map fun _ h => xT h, up_map fun _ h => s16T h, up_map fun t h => owT t h, up_map fun _ h => h.item]
theorem nf_eq {q q' : Q} {t : Int} {h : Th} (hth : q'.th = up q.th t h) : nfQ q' = ⟨q'.nd, up (nfQ q).hd t (hdT h), up (nfQ q).jn t (jnT h), up (nfQ q).it t h.item, up (nfQ q).fr t (frT h), up (nfQ q).w9 t (w9T h), up (nfQ q).w22 t (w22T h), up (nfQ q).st t h.stop⟩ := by
  unfold nfQ
  simp only [hth, up_map fun _ h => hdT h, up_map fun _ h => jnT h, up_map fun _ h => h.item, up_map fun _ h => frT h, up_map fun _ h => w9T h, up_map fun _ h => w22T h, up_map fun _ h => h.stop]
/-- What is known of one thread. -/
structure LocP (c : Cf) (t g : Int) (h : Th) (ln : Int) (bx : List En) : Prop where
  l0 : g = 0 ↔ h.ph = 0
  lp : 0 ≤ h.ph ∧ h.ph ≤ 26
  l1 : g = 1 → h.ph ≠ 13 ∧ h.ph ≠ 14 ∧ h.ph ≠ 15 ∧ h.ph ≠ 16
  l2 : g = 2 ∨ g = 3 → (h.ph = 13 ∨ h.ph = 19 ∨ h.ph = 20 ∨ h.ph = 23 ∨ h.ph = 26) ∧ ln = 0
  l4 : g = 4 → ((h.ph = 13 ∨ h.ph = 19 ∨ h.ph = 20 ∨ h.ph = 23 ∨ h.ph = 26) ∧ ln = 5) ∨ h.ph = 14
  l5 : g = 5 → (h.ph = 15 ∨ h.ph = 16) ∧ 0 ≤ h.at_ ∧ h.at_ < h.kids.length
  ll : ln = 0 ∨ ln = 5 ∨ (g = 1 ∧ (h.ph = 19 ∨ h.ph = 20 ∨ h.ph = 23 ∨ h.ph = 26))
  lo : g = 1 → (h.ph = 19 ∨ h.ph = 20 ∨ h.ph = 23 ∨ h.ph = 26) → ln = openS h.item h.layer
  lz : g = 1 → h.ph ≠ 1 → h.ph ≠ 19 → h.ph ≠ 20 → h.ph ≠ 23 → h.ph ≠ 26 → ln = 0
  b2 : g = 2 → bx = h.batch
  b1 : g = 1 → h.ph = 12 ∨ (18 ≤ h.ph ∧ h.ph ≤ 24) ∨ h.ph = 26 → bx = h.batch
  it : 0 ≤ h.item ∧ h.item < c.it
  la : 0 ≤ h.layer ∧ h.layer ≤ 3
  lf : 17 ≤ h.ph → 1 ≤ h.layer ∧ h.layer ≤ c.la
  wd : 1 ≤ h.width ∧ h.width ≤ c.wi
  le : 0 ≤ h.left ∧ h.left ≤ c.sp
  w9 : h.ph = 9 → 0 ≤ h.who ∧ h.who < c.th
  w2 : h.ph = 20 ∨ h.ph = 21 ∨ h.ph = 22 → 0 ≤ h.who ∧ h.who < c.th ∧ h.who ≠ t
  c1 : h.ph = 1 → h.held = [] ∧ h.stop = 0 ∧ h.at_ = 0 ∧ h.layer = 0 ∧ (0 < c.de → 1 ≤ h.node ∧ h.node < p2 c.de)
  c4 : h.ph = 4 ∨ h.ph = 5 ∨ h.ph = 6 → h.at_ = 0 ∧ h.stop = 0 ∧ 1 ≤ h.node ∧ h.node < p2 c.de ∧ (∀ n ∈ h.held, h.node < n)
  x6 : h.ph = 6 → ∃ b, h.x = firstS b
  hp : 4 ≤ h.ph → h.ph ≤ 10 → (∀ n ∈ h.held, 1 ≤ n ∧ n < p2 c.de ∧ h.stop < n) ∧ h.held.Pairwise (· > ·)
  ga : 7 ≤ h.ph → h.ph ≤ 10 → 0 ≤ h.at_ ∧ h.at_ < h.held.length
  st : 4 ≤ h.ph → h.ph ≤ 12 → 0 ≤ h.stop ∧ h.stop < p2 c.de
  s1 : h.ph = 11 ∨ h.ph = 12 → 1 ≤ h.stop
  hl : h.held.length ≤ 16
  y3 : h.ph = 3 → h.y = allS h.batch h.x c.lo c.hi
structure Inv (c : Cf) (q : Q) (g p : Int → Int) (S : Int → List En) : Prop where
  b : Bat c (bfQ q) g p S
  n : Nod (nfQ q) g p
  l : ∀ t, LocP c t (g t) (q.th t) (q.ln t) (q.bx t)
  r : ∀ i n, 0 ≤ q.nd i n ∧ q.nd i n ≤ 200
/-- What of a thread batches and nodes lean on is as it was. -/
structure Feat (h h' : Th) : Prop where
  ba : h'.batch = h.batch
  ki : h'.kids = h.kids
  at_ : atT h' = atT h
  x : xT h' = xT h
  s16 : s16T h' = s16T h
  tag : h'.tag = h.tag
  v : h'.v = h.v
  it : h'.item = h.item
  hd : hdT h' = hdT h
  jn : jnT h' = jnT h
  fr : frT h' = frT h
  w9 : w9T h' = w9T h
  w22 : w22T h' = w22T h
  st : h'.stop = h.stop
theorem Feat.bf {q q' : Q} {t : Int} {h : Th} (f : Feat (q.th t) h) (hth : q'.th = up q.th t h) (h1 : q'.rs = q.rs) (h2 : q'.cm = q.cm) (h3 : q'.P = q.P) : bfQ q' = bfQ q := by
  rw [bf_eq hth, h1, h2, h3, up_id (f := (bfQ q).ba) (a := t) f.ba, up_id (f := (bfQ q).ki) (a := t) f.ki, up_id (f := (bfQ q).at_) (a := t) f.at_, up_id (f := (bfQ q).x) (a := t) f.x, up_id (f := (bfQ q).s16) (a := t) f.s16, up_id (f := (bfQ q).it) (a := t) f.it, up_id (f := (bfQ q).ow) (a := t) (by simp only [bfQ, owT, f.tag, f.v])]
  rfl
theorem Feat.nf {q q' : Q} {t : Int} {h : Th} (f : Feat (q.th t) h) (hth : q'.th = up q.th t h) (h1 : q'.nd = q.nd) : nfQ q' = nfQ q := by
  rw [nf_eq hth, h1, up_id (f := (nfQ q).hd) (a := t) f.hd, up_id (f := (nfQ q).jn) (a := t) f.jn, up_id (f := (nfQ q).it) (a := t) f.it, up_id (f := (nfQ q).fr) (a := t) f.fr, up_id (f := (nfQ q).w9) (a := t) f.w9, up_id (f := (nfQ q).w22) (a := t) f.w22, up_id (f := (nfQ q).st) (a := t) f.st]
  rfl
/-- A step of a thread that changes nothing of batches and nodes. -/
theorem Inv.own {c : Cf} {q q' : Q} {g p : Int → Int} {S : Int → List En} (i : Inv c q g p S) {t : Int} {h : Th} (hth : q'.th = up q.th t h) (f : Feat (q.th t) h) (h1 : q'.rs = q.rs) (h2 : q'.cm = q.cm) (h3 : q'.P = q.P) (h4 : q'.nd = q.nd)
    (hln : ∀ u, u ≠ t → q'.ln u = q.ln u) (hbx : ∀ u, u ≠ t → q'.bx u = q.bx u) (hl : LocP c t (g t) h (q'.ln t) (q'.bx t)) : Inv c q' g p S := by
  refine ⟨by rw [f.bf hth h1 h2 h3]; exact i.b, by rw [f.nf hth h4]; exact i.n, fun u => ?_, by rw [h4]; exact i.r⟩
  by_cases e : u = t
  · subst e; rw [hth, up_eq]; exact hl
  · rw [hth, up_ne e, hln u e, hbx u e]; exact i.l u
end Go.Proofs.YtgbkjnikcnjbkaaGreat.Top
namespace Go.Proofs.YtgbkjnikcnjbkaaGreat.Top
open Go Go.RowKit
set_option linter.unusedSimpArgs false
set_option linter.unusedVariables false
theorem BF_ext {f f' : BF} (h1 : f.ba = f'.ba) (h2 : f.ki = f'.ki) (h3 : f.at_ = f'.at_) (h4 : f.x = f'.x) (h5 : f.s16 = f'.s16) (h6 : f.ow = f'.ow) (h7 : f.it = f'.it) (h8 : f.rs = f'.rs) (h9 : f.cm = f'.cm) (h10 : f.P = f'.P) : f = f' := by cases f; cases f'; simp_all
theorem NF_ext {f f' : NF} (h1 : f.nd = f'.nd) (h2 : f.hd = f'.hd) (h3 : f.jn = f'.jn) (h4 : f.it = f'.it) (h5 : f.fr = f'.fr) (h6 : f.w9 = f'.w9) (h7 : f.w22 = f'.w22) (h8 : f.st = f'.st) : f = f' := by cases f; cases f'; simp_all
theorem downQ_is (q : Q) (t : Int) (h : Th) (h0 : 0 ≤ h.at_) (h1 : 0 ≤ h.stop) : ∃ k, downQ q t h = q.sT t { h with ph := k } ∧ ((k = 7 ∧ h.at_ < h.held.length) ∨ (k = 11 ∧ h.held.length ≤ h.at_ ∧ 1 ≤ h.stop) ∨ (k = 2 ∧ h.held.length ≤ h.at_ ∧ h.stop = 0)) ∧ hdT { h with ph := k } = h.held.drop h.at_.toNat ∧ jnT { h with ph := k } = h.stop := by
  unfold downQ
  split
  · exact ⟨7, rfl, by omega, by simp [hdT], by simp [jnT]⟩
  · split
    · refine ⟨11, rfl, by omega, ?_, by simp [jnT]⟩
      rw [List.drop_of_length_le (by omega)]; simp [hdT]
    · refine ⟨2, rfl, by omega, ?_, by simp [jnT]; omega⟩
      rw [List.drop_of_length_le (by omega)]; simp [hdT]
theorem onwardQ_is (c : Cf) (l : Bool) (q : Q) (t : Int) (h : Th) : ∃ k m, onwardQ c l q t h = q.sT t { h with ph := k, layer := m } ∧ ((k = 17 ∧ m = h.layer + 1 ∧ h.layer < c.la) ∨ (k = 2 ∧ m = h.layer)) := by
  unfold onwardQ
  split
  · exact ⟨17, _, rfl, by omega⟩
  · exact ⟨2, h.layer, rfl, by omega⟩
theorem startQ_is (c : Cf) (q : Q) (t : Int) (h : Th) : ∃ k m, startQ c q t h = q.sT t { h with ph := k, layer := m } ∧ ((k = 4 ∧ m = h.layer ∧ c.be = 2 ∧ 0 < c.de) ∨ (k = 17 ∧ m = 1 ∧ c.be = 3 ∧ 0 < c.la) ∨ (k = 2 ∧ m = h.layer)) := by
  unfold startQ
  split
  · exact ⟨4, h.layer, rfl, by omega⟩
  · split
    · exact ⟨17, 1, rfl, by omega⟩
    · exact ⟨2, h.layer, rfl, by omega⟩
theorem open_nz {i l : Int} (hi : 0 ≤ i) (hl : 0 ≤ l) : openS i l ≠ 0 ∧ openS i l ≠ 5 := by unfold openS; omega
theorem inv_1 {c : Cf} {q : Q} {g p : Int → Int} {S : Int → List En} (i : Inv c q g p S) (hc : CfOk c) {t : Int} (l : Bool) (s : Int) (hp : (q.th t).ph = 1) : ∃ g' p' S', Inv c (stQ c l s t q) g' p' S' := by
  unfold stQ
  simp only [hp, Int.reduceEq, ↓reduceIte, false_or, or_false, or_true, true_or, or_self]
  obtain ⟨k, m, e, hk⟩ := startQ_is c { q with ln := up q.ln t 0 } t (q.th t)
  rw [e]
  have hc1 := (i.l t).c1 hp
  have hd0 : hdT { q.th t with ph := k, layer := m } = [] := by simp [hdT, hc1.1]
  · refine ⟨g, p, S, Inv.own i (t := t) rfl (by constructor <;> first | (rcases hk with h | h | h <;> simp [atT, xT, s16T, jnT, frT, w9T, w22T, hp, h.1]; done) | (rw [hd0]; simp [hdT, hp]; done)) rfl rfl rfl rfl (fun u hu => up_ne hu) (fun _ _ => rfl) ?_⟩
    have hl := i.l t
    have a0 := i.b.gr t
    have hla := hc.la
    have hsp := hc.sp
    have hwi := hc.wi
    obtain ⟨a1, a2, a3, a4, a5, a6, a7, a8, a9, a10, a11, a12, a13, a14, a15, a16, a17, a18, a19, a20, a21, a22, a23, a24, a25, a26, a27⟩ := hl
    simp [hp] at a1 a2 a3 a4 a5 a6 a7 a8 a9 a10 a11 a14 a17 a18 a19 a20 a21 a22 a23 a24 a25 a27
    simp only [Q.sT]
    clear i e hd0
    rcases hk with ⟨rfl, rfl, hk⟩ | ⟨rfl, rfl, hk⟩ | ⟨rfl, rfl⟩ <;> constructor <;> grind [up_eq, List.Pairwise.nil, CfOk.la]
theorem inv_13 {c : Cf} {q : Q} {g p : Int → Int} {S : Int → List En} (i : Inv c q g p S) (hc : CfOk c) {t : Int} (l : Bool) (s : Int) (hp : (q.th t).ph = 13) : ∃ g' p' S', Inv c (stQ c l s t q) g' p' S' := by
  unfold stQ
  simp only [hp, Int.reduceEq, ↓reduceIte, false_or, or_false, or_true, true_or, or_self]
  split
  · rename_i h5
    have g4 : g t = 4 := by have h1 := (i.l t).l1; have h2 := (i.l t).l2; have h3 := (i.l t).l5; have h4 := (i.l t).l0; have := i.b.gr t; grind
    refine ⟨g, p, S, Inv.own i (t := t) rfl (by constructor <;> simp [atT, xT, s16T, hdT, jnT, frT, w9T, w22T, hp]) rfl rfl rfl rfl (fun _ _ => rfl) (fun _ _ => rfl) ?_⟩
    have hl := i.l t
    have a0 := i.b.gr t
    have hla := hc.la
    have hsp := hc.sp
    have hwi := hc.wi
    obtain ⟨a1, a2, a3, a4, a5, a6, a7, a8, a9, a10, a11, a12, a13, a14, a15, a16, a17, a18, a19, a20, a21, a22, a23, a24, a25, a26, a27⟩ := hl
    simp [hp] at a1 a2 a3 a4 a5 a6 a7 a8 a9 a10 a11 a14 a17 a18 a19 a20 a21 a22 a23 a24 a25 a27
    simp only [Q.sT]
    clear i
    constructor <;> grind
  · exact ⟨g, p, S, i⟩
theorem inv_4 {c : Cf} {q : Q} {g p : Int → Int} {S : Int → List En} (i : Inv c q g p S) (hc : CfOk c) {t : Int} (l : Bool) (s : Int) (hp : (q.th t).ph = 4) : ∃ g' p' S', Inv c (stQ c l s t q) g' p' S' := by
  unfold stQ
  simp only [hp, Int.reduceEq, ↓reduceIte, false_or, or_false, or_true, true_or, or_self]
  split
  · rename_i h1
    have hx : ∃ b, q.nd (q.th t).item (q.th t).node = firstS b := by
      refine ⟨q.nd (q.th t).item (q.th t).node / 8 - 1, ?_⟩
      unfold kindS saidS at h1; unfold firstS; grind
    refine ⟨g, p, S, Inv.own i (t := t) rfl (by constructor <;> simp [atT, xT, s16T, hdT, jnT, frT, w9T, w22T, hp]) rfl rfl rfl rfl (fun _ _ => rfl) (fun _ _ => rfl) ?_⟩
    have hl := i.l t
    have a0 := i.b.gr t
    have hla := hc.la
    have hsp := hc.sp
    have hwi := hc.wi
    obtain ⟨a1, a2, a3, a4, a5, a6, a7, a8, a9, a10, a11, a12, a13, a14, a15, a16, a17, a18, a19, a20, a21, a22, a23, a24, a25, a26, a27⟩ := hl
    simp [hp] at a1 a2 a3 a4 a5 a6 a7 a8 a9 a10 a11 a14 a17 a18 a19 a20 a21 a22 a23 a24 a25 a27
    simp only [Q.sT]
    clear i
    constructor <;> grind
  · split
    · refine ⟨g, p, S, Inv.own i (t := t) rfl (by constructor <;> simp [atT, xT, s16T, hdT, jnT, frT, w9T, w22T, hp]) rfl rfl rfl rfl (fun _ _ => rfl) (fun _ _ => rfl) ?_⟩
      have hl := i.l t
      have a0 := i.b.gr t
      have hla := hc.la
      have hsp := hc.sp
      have hwi := hc.wi
      obtain ⟨a1, a2, a3, a4, a5, a6, a7, a8, a9, a10, a11, a12, a13, a14, a15, a16, a17, a18, a19, a20, a21, a22, a23, a24, a25, a26, a27⟩ := hl
      simp [hp] at a1 a2 a3 a4 a5 a6 a7 a8 a9 a10 a11 a14 a17 a18 a19 a20 a21 a22 a23 a24 a25 a27
      simp only [Q.sT]
      clear i
      constructor <;> grind
    · split
      · have h4 := (i.l t).c4 (Or.inl hp)
        obtain ⟨k, e, hk, hd, hj⟩ := downQ_is q t { q.th t with ph := 4, at_ := 0 } (by simp) (by simp [h4.2.1])
        rw [e]
        refine ⟨g, p, S, Inv.own i (t := t) rfl (by constructor <;> first | (rcases hk with h | h | h <;> simp [atT, xT, s16T, frT, w9T, w22T, hp, h.1]; done) | (rw [hd]; simp [hdT, hp, h4.1]; done) | (rw [hj]; simp [jnT, hp, h4.2.1]; done)) rfl rfl rfl rfl (fun _ _ => rfl) (fun _ _ => rfl) ?_⟩
        have hl := i.l t
        have a0 := i.b.gr t
        have hla := hc.la
        have hsp := hc.sp
        have hwi := hc.wi
        obtain ⟨a1, a2, a3, a4, a5, a6, a7, a8, a9, a10, a11, a12, a13, a14, a15, a16, a17, a18, a19, a20, a21, a22, a23, a24, a25, a26, a27⟩ := hl
        simp [hp] at a1 a2 a3 a4 a5 a6 a7 a8 a9 a10 a11 a14 a17 a18 a19 a20 a21 a22 a23 a24 a25 a27
        simp only [Q.sT]
        clear i e hd hj
        rcases hk with ⟨rfl, hk⟩ | ⟨rfl, hk⟩ | ⟨rfl, hk⟩ <;> constructor <;> grind
      · exact ⟨g, p, S, i⟩
theorem inv_19 {c : Cf} {q : Q} {g p : Int → Int} {S : Int → List En} (i : Inv c q g p S) (hc : CfOk c) {t : Int} (l : Bool) (s : Int) (hp : (q.th t).ph = 19) : ∃ g' p' S', Inv c (stQ c l s t q) g' p' S' := by
  unfold stQ
  simp only [hp, Int.reduceEq, ↓reduceIte, false_or, or_false, or_true, true_or, or_self]
  split
  · refine ⟨g, p, S, Inv.own i (t := t) rfl (by constructor <;> simp [atT, xT, s16T, hdT, jnT, frT, w9T, w22T, hp]) rfl rfl rfl rfl (fun _ _ => rfl) (fun _ _ => rfl) ?_⟩
    have hl := i.l t
    have a0 := i.b.gr t
    have hla := hc.la
    have hsp := hc.sp
    have hwi := hc.wi
    obtain ⟨a1, a2, a3, a4, a5, a6, a7, a8, a9, a10, a11, a12, a13, a14, a15, a16, a17, a18, a19, a20, a21, a22, a23, a24, a25, a26, a27⟩ := hl
    simp [hp] at a1 a2 a3 a4 a5 a6 a7 a8 a9 a10 a11 a14 a17 a18 a19 a20 a21 a22 a23 a24 a25 a27
    simp only [Q.sT]
    clear i
    constructor <;> grind [CfOk.sp]
  · refine ⟨g, p, S, Inv.own i (t := t) rfl (by constructor <;> simp [atT, xT, s16T, hdT, jnT, frT, w9T, w22T, hp]) rfl rfl rfl rfl (fun _ _ => rfl) (fun _ _ => rfl) ?_⟩
    have hl := i.l t
    have a0 := i.b.gr t
    have hla := hc.la
    have hsp := hc.sp
    have hwi := hc.wi
    obtain ⟨a1, a2, a3, a4, a5, a6, a7, a8, a9, a10, a11, a12, a13, a14, a15, a16, a17, a18, a19, a20, a21, a22, a23, a24, a25, a26, a27⟩ := hl
    simp [hp] at a1 a2 a3 a4 a5 a6 a7 a8 a9 a10 a11 a14 a17 a18 a19 a20 a21 a22 a23 a24 a25 a27
    simp only [Q.sT]
    clear i
    constructor <;> grind
theorem inv_23 {c : Cf} {q : Q} {g p : Int → Int} {S : Int → List En} (i : Inv c q g p S) (hc : CfOk c) {t : Int} (l : Bool) (s : Int) (hp : (q.th t).ph = 23) : ∃ g' p' S', Inv c (stQ c l s t q) g' p' S' := by
  unfold stQ
  simp only [hp, Int.reduceEq, ↓reduceIte, false_or, or_false, or_true, true_or, or_self]
  split
  · refine ⟨g, p, S, Inv.own i (t := t) rfl (by constructor <;> simp [atT, xT, s16T, hdT, jnT, frT, w9T, w22T, hp]) rfl rfl rfl rfl (fun _ _ => rfl) (fun _ _ => rfl) ?_⟩
    have hl := i.l t
    have a0 := i.b.gr t
    have hla := hc.la
    have hsp := hc.sp
    have hwi := hc.wi
    obtain ⟨a1, a2, a3, a4, a5, a6, a7, a8, a9, a10, a11, a12, a13, a14, a15, a16, a17, a18, a19, a20, a21, a22, a23, a24, a25, a26, a27⟩ := hl
    simp [hp] at a1 a2 a3 a4 a5 a6 a7 a8 a9 a10 a11 a14 a17 a18 a19 a20 a21 a22 a23 a24 a25 a27
    simp only [Q.sT]
    clear i
    constructor <;> grind
  · split
    · refine ⟨g, p, S, Inv.own i (t := t) rfl (by constructor <;> simp [atT, xT, s16T, hdT, jnT, frT, w9T, w22T, hp]) rfl rfl rfl rfl (fun _ _ => rfl) (fun _ _ => rfl) ?_⟩
      have hl := i.l t
      have a0 := i.b.gr t
      have hla := hc.la
      have hsp := hc.sp
      have hwi := hc.wi
      obtain ⟨a1, a2, a3, a4, a5, a6, a7, a8, a9, a10, a11, a12, a13, a14, a15, a16, a17, a18, a19, a20, a21, a22, a23, a24, a25, a26, a27⟩ := hl
      simp [hp] at a1 a2 a3 a4 a5 a6 a7 a8 a9 a10 a11 a14 a17 a18 a19 a20 a21 a22 a23 a24 a25 a27
      simp only [Q.sT]
      clear i
      constructor <;> grind
    · refine ⟨g, p, S, Inv.own i (t := t) rfl (by constructor <;> simp [atT, xT, s16T, hdT, jnT, frT, w9T, w22T, hp]) rfl rfl rfl rfl (fun _ _ => rfl) (fun _ _ => rfl) ?_⟩
      have hl := i.l t
      have a0 := i.b.gr t
      have hla := hc.la
      have hsp := hc.sp
      have hwi := hc.wi
      obtain ⟨a1, a2, a3, a4, a5, a6, a7, a8, a9, a10, a11, a12, a13, a14, a15, a16, a17, a18, a19, a20, a21, a22, a23, a24, a25, a26, a27⟩ := hl
      simp [hp] at a1 a2 a3 a4 a5 a6 a7 a8 a9 a10 a11 a14 a17 a18 a19 a20 a21 a22 a23 a24 a25 a27
      simp only [Q.sT]
      clear i
      constructor <;> grind
theorem inv_24 {c : Cf} {q : Q} {g p : Int → Int} {S : Int → List En} (i : Inv c q g p S) (hc : CfOk c) {t : Int} (l : Bool) (s : Int) (hp : (q.th t).ph = 24) : ∃ g' p' S', Inv c (stQ c l s t q) g' p' S' := by
  unfold stQ
  simp only [hp, Int.reduceEq, ↓reduceIte, false_or, or_false, or_true, true_or, or_self]
  have ho := open_nz (i.l t).it.1 (i.l t).la.1
  · refine ⟨g, p, S, Inv.own i (t := t) rfl (by constructor <;> simp [atT, xT, s16T, hdT, jnT, frT, w9T, w22T, hp]) rfl rfl rfl rfl (fun u hu => up_ne hu) (fun _ _ => rfl) ?_⟩
    have hl := i.l t
    have a0 := i.b.gr t
    have hla := hc.la
    have hsp := hc.sp
    have hwi := hc.wi
    obtain ⟨a1, a2, a3, a4, a5, a6, a7, a8, a9, a10, a11, a12, a13, a14, a15, a16, a17, a18, a19, a20, a21, a22, a23, a24, a25, a26, a27⟩ := hl
    simp [hp] at a1 a2 a3 a4 a5 a6 a7 a8 a9 a10 a11 a14 a17 a18 a19 a20 a21 a22 a23 a24 a25 a27
    simp only [Q.sT]
    clear i
    constructor <;> grind [up_eq, CfOk.sp]
theorem inv_18 {c : Cf} {q : Q} {g p : Int → Int} {S : Int → List En} (i : Inv c q g p S) (hc : CfOk c) {t : Int} (l : Bool) (s : Int) (hp : (q.th t).ph = 18) : ∃ g' p' S', Inv c (stQ c l s t q) g' p' S' := by
  unfold stQ
  simp only [hp, Int.reduceEq, ↓reduceIte, false_or, or_false, or_true, true_or, or_self]
  have ho := open_nz (i.l t).it.1 (i.l t).la.1
  · refine ⟨g, p, S, Inv.own i (t := t) rfl (by constructor <;> simp [atT, xT, s16T, hdT, jnT, frT, w9T, w22T, hp]) rfl rfl rfl rfl (fun u hu => up_ne hu) (fun _ _ => rfl) ?_⟩
    have hl := i.l t
    have a0 := i.b.gr t
    have hla := hc.la
    have hsp := hc.sp
    have hwi := hc.wi
    obtain ⟨a1, a2, a3, a4, a5, a6, a7, a8, a9, a10, a11, a12, a13, a14, a15, a16, a17, a18, a19, a20, a21, a22, a23, a24, a25, a26, a27⟩ := hl
    simp [hp] at a1 a2 a3 a4 a5 a6 a7 a8 a9 a10 a11 a14 a17 a18 a19 a20 a21 a22 a23 a24 a25 a27
    simp only [Q.sT]
    clear i
    constructor <;> grind [up_eq]
theorem inv_17 {c : Cf} {q : Q} {g p : Int → Int} {S : Int → List En} (i : Inv c q g p S) (hc : CfOk c) {t : Int} (l : Bool) (s : Int) (hp : (q.th t).ph = 17) : ∃ g' p' S', Inv c (stQ c l s t q) g' p' S' := by
  unfold stQ
  simp only [hp, Int.reduceEq, ↓reduceIte, false_or, or_false, or_true, true_or, or_self]
  · refine ⟨g, p, S, Inv.own i (t := t) rfl (by constructor <;> simp [atT, xT, s16T, hdT, jnT, frT, w9T, w22T, hp]) rfl rfl rfl rfl (fun _ _ => rfl) (fun u hu => up_ne hu) ?_⟩
    have hl := i.l t
    have a0 := i.b.gr t
    have hla := hc.la
    have hsp := hc.sp
    have hwi := hc.wi
    obtain ⟨a1, a2, a3, a4, a5, a6, a7, a8, a9, a10, a11, a12, a13, a14, a15, a16, a17, a18, a19, a20, a21, a22, a23, a24, a25, a26, a27⟩ := hl
    simp [hp] at a1 a2 a3 a4 a5 a6 a7 a8 a9 a10 a11 a14 a17 a18 a19 a20 a21 a22 a23 a24 a25 a27
    simp only [Q.sT]
    clear i
    constructor <;> grind [up_eq]
theorem inv_11 {c : Cf} {q : Q} {g p : Int → Int} {S : Int → List En} (i : Inv c q g p S) (hc : CfOk c) {t : Int} (l : Bool) (s : Int) (hp : (q.th t).ph = 11) : ∃ g' p' S', Inv c (stQ c l s t q) g' p' S' := by
  unfold stQ
  simp only [hp, Int.reduceEq, ↓reduceIte, false_or, or_false, or_true, true_or, or_self]
  · refine ⟨g, p, S, Inv.own i (t := t) rfl (by constructor <;> simp [atT, xT, s16T, hdT, jnT, frT, w9T, w22T, hp]) rfl rfl rfl rfl (fun _ _ => rfl) (fun u hu => up_ne hu) ?_⟩
    have hl := i.l t
    have a0 := i.b.gr t
    have hla := hc.la
    have hsp := hc.sp
    have hwi := hc.wi
    obtain ⟨a1, a2, a3, a4, a5, a6, a7, a8, a9, a10, a11, a12, a13, a14, a15, a16, a17, a18, a19, a20, a21, a22, a23, a24, a25, a26, a27⟩ := hl
    simp [hp] at a1 a2 a3 a4 a5 a6 a7 a8 a9 a10 a11 a14 a17 a18 a19 a20 a21 a22 a23 a24 a25 a27
    simp only [Q.sT]
    clear i
    constructor <;> grind [up_eq]
theorem inv_20 {c : Cf} {q : Q} {g p : Int → Int} {S : Int → List En} (i : Inv c q g p S) (hc : CfOk c) {t : Int} (l : Bool) (s : Int) (hp : (q.th t).ph = 20) : ∃ g' p' S', Inv c (stQ c l s t q) g' p' S' := by
  unfold stQ
  simp only [hp, Int.reduceEq, ↓reduceIte, false_or, or_false, or_true, true_or, or_self]
  split
  · have ho := open_nz (i.l t).it.1 (i.l t).la.1
    refine ⟨g, p, S, Inv.own i (t := t) rfl (by constructor <;> simp [atT, xT, s16T, hdT, jnT, frT, w9T, w22T, hp]) rfl rfl rfl rfl (fun u hu => up_ne hu) (fun _ _ => rfl) ?_⟩
    have hl := i.l t
    have a0 := i.b.gr t
    have hla := hc.la
    have hsp := hc.sp
    have hwi := hc.wi
    obtain ⟨a1, a2, a3, a4, a5, a6, a7, a8, a9, a10, a11, a12, a13, a14, a15, a16, a17, a18, a19, a20, a21, a22, a23, a24, a25, a26, a27⟩ := hl
    simp [hp] at a1 a2 a3 a4 a5 a6 a7 a8 a9 a10 a11 a14 a17 a18 a19 a20 a21 a22 a23 a24 a25 a27
    simp only [Q.sT]
    clear i
    constructor <;> grind [up_eq]
  · refine ⟨g, p, S, Inv.own i (t := t) rfl (by constructor <;> simp [atT, xT, s16T, hdT, jnT, frT, w9T, w22T, hp]) rfl rfl rfl rfl (fun _ _ => rfl) (fun _ _ => rfl) ?_⟩
    have hl := i.l t
    have a0 := i.b.gr t
    have hla := hc.la
    have hsp := hc.sp
    have hwi := hc.wi
    obtain ⟨a1, a2, a3, a4, a5, a6, a7, a8, a9, a10, a11, a12, a13, a14, a15, a16, a17, a18, a19, a20, a21, a22, a23, a24, a25, a26, a27⟩ := hl
    simp [hp] at a1 a2 a3 a4 a5 a6 a7 a8 a9 a10 a11 a14 a17 a18 a19 a20 a21 a22 a23 a24 a25 a27
    simp only [Q.sT]
    clear i
    constructor <;> grind
theorem inv_26 {c : Cf} {q : Q} {g p : Int → Int} {S : Int → List En} (i : Inv c q g p S) (hc : CfOk c) {t : Int} (l : Bool) (s : Int) (hp : (q.th t).ph = 26) : ∃ g' p' S', Inv c (stQ c l s t q) g' p' S' := by
  unfold stQ
  simp only [hp, Int.reduceEq, ↓reduceIte, false_or, or_false, or_true, true_or, or_self]
  split
  · have ho := open_nz (i.l t).it.1 (i.l t).la.1
    have hm : 1 ≤ mxS 1 ((q.th t).width / 2) ∧ mxS 1 ((q.th t).width / 2) ≤ c.wi := by have := (i.l t).wd; unfold mxS; split <;> omega
    obtain ⟨k, m, e, hk⟩ := onwardQ_is c l { q with ln := up q.ln t 0 } t { q.th t with ph := 26, width := mxS 1 ((q.th t).width / 2) }
    rw [e]
    refine ⟨g, p, S, Inv.own i (t := t) rfl (by constructor <;> first | (rcases hk with h | h <;> simp [atT, xT, s16T, hdT, jnT, frT, w9T, w22T, hp, h.1]; done)) rfl rfl rfl rfl (fun u hu => up_ne hu) (fun _ _ => rfl) ?_⟩
    have hl := i.l t
    have a0 := i.b.gr t
    have hla := hc.la
    have hsp := hc.sp
    have hwi := hc.wi
    obtain ⟨a1, a2, a3, a4, a5, a6, a7, a8, a9, a10, a11, a12, a13, a14, a15, a16, a17, a18, a19, a20, a21, a22, a23, a24, a25, a26, a27⟩ := hl
    simp [hp] at a1 a2 a3 a4 a5 a6 a7 a8 a9 a10 a11 a14 a17 a18 a19 a20 a21 a22 a23 a24 a25 a27
    simp only [Q.sT]
    clear i e
    rcases hk with ⟨rfl, rfl, hk⟩ | ⟨rfl, rfl⟩ <;> constructor <;> grind [up_eq, CfOk.la]
  · refine ⟨g, p, S, Inv.own i (t := t) rfl (by constructor <;> simp [atT, xT, s16T, hdT, jnT, frT, w9T, w22T, hp]) rfl rfl rfl rfl (fun _ _ => rfl) (fun _ _ => rfl) ?_⟩
    have hl := i.l t
    have a0 := i.b.gr t
    have hla := hc.la
    have hsp := hc.sp
    have hwi := hc.wi
    obtain ⟨a1, a2, a3, a4, a5, a6, a7, a8, a9, a10, a11, a12, a13, a14, a15, a16, a17, a18, a19, a20, a21, a22, a23, a24, a25, a26, a27⟩ := hl
    simp [hp] at a1 a2 a3 a4 a5 a6 a7 a8 a9 a10 a11 a14 a17 a18 a19 a20 a21 a22 a23 a24 a25 a27
    simp only [Q.sT]
    clear i
    constructor <;> grind
theorem inv_5f {c : Cf} {q : Q} {g p : Int → Int} {S : Int → List En} (i : Inv c q g p S) (hc : CfOk c) {t : Int} (l : Bool) (s : Int) (hp : (q.th t).ph = 5) (hn : ¬ q.nd (q.th t).item (q.th t).node = 0) : ∃ g' p' S', Inv c (stQ c l s t q) g' p' S' := by
  unfold stQ
  simp only [hp, Int.reduceEq, ↓reduceIte, false_or, or_false, or_true, true_or, or_self, if_neg hn]
  · refine ⟨g, p, S, Inv.own i (t := t) rfl (by constructor <;> simp [atT, xT, s16T, hdT, jnT, frT, w9T, w22T, hp]) rfl rfl rfl rfl (fun _ _ => rfl) (fun _ _ => rfl) ?_⟩
    have hl := i.l t
    have a0 := i.b.gr t
    have hla := hc.la
    have hsp := hc.sp
    have hwi := hc.wi
    obtain ⟨a1, a2, a3, a4, a5, a6, a7, a8, a9, a10, a11, a12, a13, a14, a15, a16, a17, a18, a19, a20, a21, a22, a23, a24, a25, a26, a27⟩ := hl
    simp [hp] at a1 a2 a3 a4 a5 a6 a7 a8 a9 a10 a11 a14 a17 a18 a19 a20 a21 a22 a23 a24 a25 a27
    simp only [Q.sT]
    clear i
    constructor <;> grind [mnS, CfOk.wi]
theorem inv_6f {c : Cf} {q : Q} {g p : Int → Int} {S : Int → List En} (i : Inv c q g p S) (hc : CfOk c) {t : Int} (l : Bool) (s : Int) (hp : (q.th t).ph = 6) (hn : ¬ q.nd (q.th t).item (q.th t).node = (q.th t).x) : ∃ g' p' S', Inv c (stQ c l s t q) g' p' S' := by
  unfold stQ
  simp only [hp, Int.reduceEq, ↓reduceIte, false_or, or_false, or_true, true_or, or_self, if_neg hn]
  · refine ⟨g, p, S, Inv.own i (t := t) rfl (by constructor <;> simp [atT, xT, s16T, hdT, jnT, frT, w9T, w22T, hp]) rfl rfl rfl rfl (fun _ _ => rfl) (fun _ _ => rfl) ?_⟩
    have hl := i.l t
    have a0 := i.b.gr t
    have hla := hc.la
    have hsp := hc.sp
    have hwi := hc.wi
    obtain ⟨a1, a2, a3, a4, a5, a6, a7, a8, a9, a10, a11, a12, a13, a14, a15, a16, a17, a18, a19, a20, a21, a22, a23, a24, a25, a26, a27⟩ := hl
    simp [hp] at a1 a2 a3 a4 a5 a6 a7 a8 a9 a10 a11 a14 a17 a18 a19 a20 a21 a22 a23 a24 a25 a27
    simp only [Q.sT]
    clear i
    constructor <;> grind [mnS, CfOk.wi]
theorem inv_8f {c : Cf} {q : Q} {g p : Int → Int} {S : Int → List En} (i : Inv c q g p S) (hc : CfOk c) {t : Int} (l : Bool) (s : Int) (hp : (q.th t).ph = 8) (hn : ¬ q.nd (q.th t).item (headT (q.th t)) = firstS t) : ∃ g' p' S', Inv c (stQ c l s t q) g' p' S' := by
  unfold stQ
  simp only [hp, Int.reduceEq, ↓reduceIte, false_or, or_false, or_true, true_or, or_self, if_neg hn]
  · refine ⟨g, p, S, Inv.own i (t := t) rfl (by constructor <;> simp [atT, xT, s16T, hdT, jnT, frT, w9T, w22T, hp]) rfl rfl rfl rfl (fun _ _ => rfl) (fun _ _ => rfl) ?_⟩
    have hl := i.l t
    have a0 := i.b.gr t
    have hla := hc.la
    have hsp := hc.sp
    have hwi := hc.wi
    obtain ⟨a1, a2, a3, a4, a5, a6, a7, a8, a9, a10, a11, a12, a13, a14, a15, a16, a17, a18, a19, a20, a21, a22, a23, a24, a25, a26, a27⟩ := hl
    simp [hp] at a1 a2 a3 a4 a5 a6 a7 a8 a9 a10 a11 a14 a17 a18 a19 a20 a21 a22 a23 a24 a25 a27
    simp only [Q.sT]
    clear i
    constructor <;> grind [mnS, CfOk.wi]
theorem inv_3f {c : Cf} {q : Q} {g p : Int → Int} {S : Int → List En} (i : Inv c q g p S) (hc : CfOk c) {t : Int} (l : Bool) (s : Int) (hp : (q.th t).ph = 3) (hn : ¬ q.cl (q.th t).item = (q.th t).x) : ∃ g' p' S', Inv c (stQ c l s t q) g' p' S' := by
  unfold stQ
  simp only [hp, Int.reduceEq, ↓reduceIte, false_or, or_false, or_true, true_or, or_self, if_neg hn]
  · refine ⟨g, p, S, Inv.own i (t := t) rfl (by constructor <;> simp [atT, xT, s16T, hdT, jnT, frT, w9T, w22T, hp]) rfl rfl rfl rfl (fun _ _ => rfl) (fun _ _ => rfl) ?_⟩
    have hl := i.l t
    have a0 := i.b.gr t
    have hla := hc.la
    have hsp := hc.sp
    have hwi := hc.wi
    obtain ⟨a1, a2, a3, a4, a5, a6, a7, a8, a9, a10, a11, a12, a13, a14, a15, a16, a17, a18, a19, a20, a21, a22, a23, a24, a25, a26, a27⟩ := hl
    simp [hp] at a1 a2 a3 a4 a5 a6 a7 a8 a9 a10 a11 a14 a17 a18 a19 a20 a21 a22 a23 a24 a25 a27
    simp only [Q.sT]
    clear i
    constructor <;> grind [mnS, CfOk.wi]
theorem hd7 {h : Th} (h1 : 7 ≤ h.ph) (h2 : h.ph ≤ 10) (h3 : 0 ≤ h.at_ ∧ h.at_ < h.held.length) : hdT h = headT h :: h.held.drop (h.at_.toNat + 1) := by
  have h4 : h.at_.toNat < h.held.length := by omega
  unfold hdT headT
  rw [if_pos (by omega), List.drop_eq_getElem_cons h4, List.getD_eq_getElem?_getD, List.getElem?_eq_getElem h4]
  rfl
theorem kind3 {w : Int} (h : kindS w = 3) : w = depositedS (whoS w) := by
  unfold kindS at h
  unfold depositedS whoS
  unfold saidS at *
  grind
theorem inv_7w {c : Cf} {q : Q} {g p : Int → Int} {S : Int → List En} (i : Inv c q g p S) (hc : CfOk c) {t : Int} (l : Bool) (s : Int) (hp : (q.th t).ph = 7) (h3 : kindS (q.nd (q.th t).item (headT (q.th t))) = 3) : ∃ g' p' S', Inv c (q.sT t { q.th t with who := whoS (q.nd (q.th t).item (headT (q.th t))), ph := 9 }) g' p' S' := by
  have hh := hd7 (h := q.th t) (by omega) (by omega) ((i.l t).ga (by omega) (by omega))
  have hk := kind3 h3
  generalize whoS (q.nd (q.th t).item (headT (q.th t))) = u at *
  have hn := i.n.n1 t (headT (q.th t)) (by show _ ∈ hdT (q.th t); rw [hh]; simp) (by intro e; have h1 : frT (q.th t) = true := e.1; simp [frT, hp] at h1)
  have hu : g u = 2 := by
    have h1 : (nfQ q).nd ((nfQ q).it t) (headT (q.th t)) = depositedS u := hk
    grind [fst_dep, joi_dep, dep_inj]
  have hr := i.b.rng u (by omega)
  have hbf : bfQ (q.sT t { q.th t with who := u, ph := 9 }) = bfQ q := by
    exact (bf_eq (q := q) (t := t) (h := { q.th t with who := u, ph := 9 }) rfl).trans (BF_ext (up_id rfl) (up_id rfl) (up_id (by simp [bfQ, atT, hp])) (up_id (by simp [bfQ, xT, hp])) (up_id (by simp [bfQ, s16T, hp])) (up_id rfl) (up_id rfl) rfl rfl rfl)
  have hnf : nfQ (q.sT t { q.th t with who := u, ph := 9 }) = { nfQ q with w9 := up (nfQ q).w9 t u } := by
    exact (nf_eq (q := q) (t := t) (h := { q.th t with who := u, ph := 9 }) rfl).trans (NF_ext rfl (up_id (by simp [nfQ, hdT, hp])) (up_id (by simp [nfQ, jnT, hp])) (up_id rfl) (up_id (by simp [nfQ, frT, hp])) (by simp [w9T]) (up_id (by simp [nfQ, w22T, hp])) (up_id rfl))
  refine ⟨g, p, S, by rw [hbf]; exact i.b, ?_, fun v => ?_, i.r⟩
  · rw [hnf]
    have n := i.n
    refine { n0 := n.n0, n1 := n.n1, n2 := n.n2, n3 := n.n3, n4 := n.n4, n5 := n.n5, n6 := ?_, n7 := n.n7, n8 := n.n8, n9 := n.n9, n10 := n.n10 }
    intro v hv
    by_cases e : v = t
    · subst e
      refine ⟨headT (q.th v), ?_, ?_⟩
      · show (hdT (q.th v)).head? = _; rw [hh]; rfl
      · show _ = depositedS (up _ v u v); rw [up_eq]; exact hk
    · simp only [up_ne e] at hv ⊢; exact n.n6 v hv
  · by_cases e : v = t
    · subst e
      have hl := i.l v
      have a0 := i.b.gr v
      obtain ⟨a1, a2, a3, a4, a5, a6, a7, a8, a9, a10, a11, a12, a13, a14, a15, a16, a17, a18, a19, a20, a21, a22, a23, a24, a25, a26, a27⟩ := hl
      simp [hp] at a1 a2 a3 a4 a5 a6 a7 a8 a9 a10 a11 a14 a17 a18 a19 a20 a21 a22 a23 a24 a25 a27
      simp only [Q.sT, up_eq]
      clear i hn hh hbf hnf
      constructor <;> grind
    · simp only [Q.sT, up_ne e]; exact i.l v
theorem inv_7 {c : Cf} {q : Q} {g p : Int → Int} {S : Int → List En} (i : Inv c q g p S) (hc : CfOk c) {t : Int} (l : Bool) (s : Int) (hp : (q.th t).ph = 7) : ∃ g' p' S', Inv c (stQ c l s t q) g' p' S' := by
  unfold stQ
  simp only [hp, Int.reduceEq, ↓reduceIte, false_or, or_false, or_true, true_or, or_self]
  split
  · refine ⟨g, p, S, Inv.own i (t := t) rfl (by constructor <;> simp [atT, xT, s16T, hdT, jnT, frT, w9T, w22T, hp]) rfl rfl rfl rfl (fun _ _ => rfl) (fun _ _ => rfl) ?_⟩
    have hl := i.l t
    have a0 := i.b.gr t
    have hla := hc.la
    have hsp := hc.sp
    have hwi := hc.wi
    obtain ⟨a1, a2, a3, a4, a5, a6, a7, a8, a9, a10, a11, a12, a13, a14, a15, a16, a17, a18, a19, a20, a21, a22, a23, a24, a25, a26, a27⟩ := hl
    simp [hp] at a1 a2 a3 a4 a5 a6 a7 a8 a9 a10 a11 a14 a17 a18 a19 a20 a21 a22 a23 a24 a25 a27
    simp only [Q.sT]
    clear i
    constructor <;> grind
  · split
    · rename_i h3
      exact inv_7w i hc l s hp h3
    · exact ⟨g, p, S, i⟩
theorem g1_of {c : Cf} {t g : Int} {h : Th} {ln : Int} {bx : List En} (l : LocP c t g h ln bx) (hg : 0 ≤ g ∧ g ≤ 5) (h1 : h.ph ≠ 0 ∧ h.ph ≠ 13 ∧ h.ph ≠ 14 ∧ h.ph ≠ 15 ∧ h.ph ≠ 16 ∧ h.ph ≠ 19 ∧ h.ph ≠ 20 ∧ h.ph ≠ 23 ∧ h.ph ≠ 26) : g = 1 := by
  have := l.l0; have := l.l2; have := l.l4; have := l.l5; grind
theorem held_snoc {c : Cf} (hc : CfOk c) {t g : Int} {h : Th} {ln : Int} {bx : List En} (l : LocP c t g h ln bx) (hp : h.ph = 5) : (∀ n ∈ h.held ++ [h.node], 1 ≤ n ∧ n < p2 c.de ∧ h.stop < n) ∧ (h.held ++ [h.node]).Pairwise (· > ·) ∧ (h.held ++ [h.node]).length ≤ 16 ∧ (∀ n ∈ h.held ++ [h.node], parentS h.node < n) ∧ 0 ≤ parentS h.node ∧ parentS h.node < p2 c.de := by
  have h4 := l.c4 (by simp [hp])
  have h5 := l.hp (by omega) (by omega)
  have hd := p2_le hc.de
  have e1 : ∀ n ∈ h.held ++ [h.node], 1 ≤ n ∧ n < p2 c.de ∧ h.stop < n := by
    intro n hn
    rcases List.mem_append.1 hn with h6 | h6
    · exact h5.1 n h6
    · simp at h6; subst h6; omega
  have e2 : (h.held ++ [h.node]).Pairwise (· > ·) := by
    rw [List.pairwise_append]
    refine ⟨h5.2, by simp, fun a ha b hb => ?_⟩
    simp at hb; subst hb
    exact h4.2.2.2.2 a ha
  have hpar : parentS h.node < h.node ∧ 0 ≤ parentS h.node := by unfold parentS mxS; rw [if_neg (by omega)]; omega
  refine ⟨e1, e2, ?_, ?_, hpar.2, by omega⟩
  · refine pigeon 16 _ (fun x hx => ?_) (e2.imp fun h e => by omega)
    have := e1 x hx; omega
  · intro n hn
    rcases List.mem_append.1 hn with h6 | h6
    · have := h4.2.2.2.2 n h6; omega
    · simp at h6; subst h6; omega
theorem lG {nd : Int → Int → Int} (h : ∀ i n, 0 ≤ nd i n ∧ nd i n ≤ 200) {a b v : Int} (hv : 0 ≤ v ∧ v ≤ 200) : ∀ i n, 0 ≤ up2 nd a b v i n ∧ up2 nd a b v i n ≤ 200 := by
  intro i n; unfold up2; split
  · exact hv
  · exact h i n
theorem inv_5t {c : Cf} {q : Q} {g p : Int → Int} {S : Int → List En} (i : Inv c q g p S) (hc : CfOk c) {t : Int} (l : Bool) (s : Int) (hp : (q.th t).ph = 5) (h0 : q.nd (q.th t).item (q.th t).node = 0) : ∃ g' p' S', Inv c (stQ c l s t q) g' p' S' := by
  unfold stQ
  simp only [hp, Int.reduceEq, ↓reduceIte, false_or, or_false, or_true, true_or, or_self, if_pos h0]
  have g1 := g1_of (i.l t) (i.b.gr t) (by omega)
  have h4 := (i.l t).c4 (by simp [hp])
  have hs := held_snoc hc (i.l t) hp
  have hr := i.b.rng t (by omega)
  have hth := hc.th
  have hn := i.n.takes (a := t) (n := (q.th t).node) (by omega) h0 (by simp [nfQ, frT, hp]) (by simp [nfQ, w9T, hp]) (by simp [nfQ, w22T, hp])
  have hd0 : (nfQ q).hd t = (q.th t).held := by simp [nfQ, hdT, hp, h4.1]
  rw [hd0] at hn
  have key : ∀ k : Int, k = 4 ∨ k = 7 ∨ k = 11 ∨ k = 2 → hdT { q.th t with ph := k, held := (q.th t).held ++ [(q.th t).node], node := parentS (q.th t).node, at_ := 0 } = (q.th t).held ++ [(q.th t).node] → jnT { q.th t with ph := k, held := (q.th t).held ++ [(q.th t).node], node := parentS (q.th t).node, at_ := 0 } = 0 → (k = 4 → 1 ≤ parentS (q.th t).node) → k = 4 ∨ k = 7 → Inv c ({ q with nd := up2 q.nd (q.th t).item (q.th t).node (firstS t) }.sT t { q.th t with ph := k, held := (q.th t).held ++ [(q.th t).node], node := parentS (q.th t).node, at_ := 0 }) g p S := by
    intro k hk hd hj hk4 hk2
    have hbf : bfQ ({ q with nd := up2 q.nd (q.th t).item (q.th t).node (firstS t) }.sT t { q.th t with ph := k, held := (q.th t).held ++ [(q.th t).node], node := parentS (q.th t).node, at_ := 0 }) = bfQ q := (bf_eq (q := q) (t := t) (h := { q.th t with ph := k, held := (q.th t).held ++ [(q.th t).node], node := parentS (q.th t).node, at_ := 0 }) rfl).trans (BF_ext (up_id rfl) (up_id rfl) (up_id (by rcases hk2 with rfl | rfl <;> simp [bfQ, atT, hp])) (up_id (by rcases hk2 with rfl | rfl <;> simp [bfQ, xT, hp])) (up_id (by rcases hk2 with rfl | rfl <;> simp [bfQ, s16T, hp])) (up_id rfl) (up_id rfl) rfl rfl rfl)
    have hnf : nfQ ({ q with nd := up2 q.nd (q.th t).item (q.th t).node (firstS t) }.sT t { q.th t with ph := k, held := (q.th t).held ++ [(q.th t).node], node := parentS (q.th t).node, at_ := 0 }) = { nfQ q with nd := up2 (nfQ q).nd ((nfQ q).it t) (q.th t).node (firstS t), hd := up (nfQ q).hd t ((q.th t).held ++ [(q.th t).node]) } := (nf_eq (q := q) (t := t) (h := { q.th t with ph := k, held := (q.th t).held ++ [(q.th t).node], node := parentS (q.th t).node, at_ := 0 }) rfl).trans (NF_ext rfl (by rw [hd]) (up_id (by rw [hj]; simp [nfQ, jnT, hp])) (up_id rfl) (up_id (by rcases hk2 with rfl | rfl <;> simp [nfQ, frT, hp])) (up_id (by rcases hk2 with rfl | rfl <;> simp [nfQ, w9T, hp])) (up_id (by rcases hk2 with rfl | rfl <;> simp [nfQ, w22T, hp])) (up_id rfl))
    refine ⟨by rw [hbf]; exact i.b, by rw [hnf]; exact hn, fun v => ?_, lG i.r (by unfold firstS; omega)⟩
    by_cases e : v = t
    · subst e
      simp only [Q.sT, up_eq]
      obtain ⟨a1, a2, a3, a4, a5, a6, a7, a8, a9, a10, a11, a12, a13, a14, a15, a16, a17, a18, a19, a20, a21, a22, a23, a24, a25, a26, a27⟩ := i.l v
      have a0 := i.b.gr v
      have hla := hc.la
      have hsp := hc.sp
      have hwi := hc.wi
      simp [hp] at a1 a2 a3 a4 a5 a6 a7 a8 a9 a10 a11 a14 a17 a18 a19 a20 a21 a22 a23 a24 a25 a27
      clear i hbf hnf hn
      rcases hk2 with rfl | rfl <;> constructor <;> grind
    · simp only [Q.sT, up_ne e]; exact i.l v
  unfold takenQ
  split
  · have e : ({ q.th t with ph := 4, held := (q.th t).held ++ [(q.th t).node], node := parentS (q.th t).node } : Th) = { q.th t with ph := 4, held := (q.th t).held ++ [(q.th t).node], node := parentS (q.th t).node, at_ := 0 } := by rw [← h4.1]
    have hpar : 0 < parentS (q.th t).node := by assumption
    refine ⟨g, p, S, ?_⟩
    have := key 4 (by simp) (by simp [hdT]) (by simp [jnT]) (fun _ => by omega) (by simp)
    rw [← e] at this
    exact this
  · obtain ⟨k, e, hk, hd, hj⟩ := downQ_is { q with nd := up2 q.nd (q.th t).item (q.th t).node (firstS t) } t { q.th t with ph := 4, held := (q.th t).held ++ [(q.th t).node], node := parentS (q.th t).node, at_ := 0 } (by simp) (by simp [h4.2.1])
    rw [e]
    have hk7 : k = 7 := by
      rcases hk with h | h | h
      · exact h.1
      · exfalso; have := h.2.1; simp only [List.length_append, List.length_singleton] at this; omega
      · exfalso; have := h.2.1; simp only [List.length_append, List.length_singleton] at this; omega
    refine ⟨g, p, S, key k (by simp [hk7]) (by rw [hd]; simp) (by rw [hj]; exact h4.2.1) (by omega) (by simp [hk7])⟩
theorem inv_6j {c : Cf} {q : Q} {g p : Int → Int} {S : Int → List En} (i : Inv c q g p S) (hc : CfOk c) {t : Int} (l : Bool) (s : Int) (hp : (q.th t).ph = 6) (h0 : q.nd (q.th t).item (q.th t).node = (q.th t).x) : ∃ g' p' S', Inv c (stQ c l s t q) g' p' S' := by
  unfold stQ
  simp only [hp, Int.reduceEq, ↓reduceIte, false_or, or_false, or_true, true_or, or_self, if_pos h0]
  have g1 := g1_of (i.l t) (i.b.gr t) (by omega)
  have h4 := (i.l t).c4 (by simp [hp])
  have hr := i.b.rng t (by omega)
  have hth := hc.th
  obtain ⟨b, hb⟩ := (i.l t).x6 hp
  have hn := i.n.joins (a := t) (n := (q.th t).node) (b := b) (by omega) (by rw [← hb]; exact h0) (by simp [nfQ, jnT, hp]) (by omega)
  have hd0 : (nfQ q).hd t = (q.th t).held := by simp [nfQ, hdT, hp, h4.1]
  obtain ⟨k, e, hk, hd, hj⟩ := downQ_is { q with nd := up2 q.nd (q.th t).item (q.th t).node (joinedS t) } t { q.th t with ph := 4, stop := (q.th t).node, at_ := 0 } (by simp) (by simp; omega)
  rw [e]
  have hk2 : k = 7 ∨ k = 11 := by
    rcases hk with h | h | h
    · exact Or.inl h.1
    · exact Or.inr h.1
    · have := h.2.2; simp at this; omega
  have hbf : bfQ ({ q with nd := up2 q.nd (q.th t).item (q.th t).node (joinedS t) }.sT t { q.th t with ph := k, stop := (q.th t).node, at_ := 0 }) = bfQ q := (bf_eq (q := q) (t := t) (h := { q.th t with ph := k, stop := (q.th t).node, at_ := 0 }) rfl).trans (BF_ext (up_id rfl) (up_id rfl) (up_id (by rcases hk2 with rfl | rfl <;> simp [bfQ, atT, hp])) (up_id (by rcases hk2 with rfl | rfl <;> simp [bfQ, xT, hp])) (up_id (by rcases hk2 with rfl | rfl <;> simp [bfQ, s16T, hp])) (up_id rfl) (up_id rfl) rfl rfl rfl)
  have hnf : nfQ ({ q with nd := up2 q.nd (q.th t).item (q.th t).node (joinedS t) }.sT t { q.th t with ph := k, stop := (q.th t).node, at_ := 0 }) = { nfQ q with nd := up2 (nfQ q).nd ((nfQ q).it t) (q.th t).node (joinedS t), jn := up (nfQ q).jn t (q.th t).node, st := up (nfQ q).st t (q.th t).node } := (nf_eq (q := q) (t := t) (h := { q.th t with ph := k, stop := (q.th t).node, at_ := 0 }) rfl).trans (NF_ext rfl (up_id (hd.trans (by rw [hd0]; simp))) (by rw [show jnT { q.th t with ph := k, stop := (q.th t).node, at_ := 0 } = (q.th t).node from hj]) (up_id rfl) (up_id (by rcases hk2 with rfl | rfl <;> simp [nfQ, frT, hp])) (up_id (by rcases hk2 with rfl | rfl <;> simp [nfQ, w9T, hp])) (up_id (by rcases hk2 with rfl | rfl <;> simp [nfQ, w22T, hp])) rfl)
  refine ⟨g, p, S, by rw [hbf]; exact i.b, by rw [hnf]; exact hn, fun v => ?_, lG i.r (by unfold joinedS; omega)⟩
  by_cases e : v = t
  · subst e
    simp only [Q.sT, up_eq]
    obtain ⟨a1, a2, a3, a4, a5, a6, a7, a8, a9, a10, a11, a12, a13, a14, a15, a16, a17, a18, a19, a20, a21, a22, a23, a24, a25, a26, a27⟩ := i.l v
    have a0 := i.b.gr v
    have hla := hc.la
    have hsp := hc.sp
    have hwi := hc.wi
    simp [hp] at a1 a2 a3 a4 a5 a6 a7 a8 a9 a10 a11 a14 a17 a18 a19 a20 a21 a22 a23 a24 a25 a27
    clear i hbf hnf hn hd hj
    rcases hk2 with rfl | rfl <;> constructor <;> grind
  · simp only [Q.sT, up_ne e]; exact i.l v
theorem inv_8c {c : Cf} {q : Q} {g p : Int → Int} {S : Int → List En} (i : Inv c q g p S) (hc : CfOk c) {t : Int} (l : Bool) (s : Int) (hp : (q.th t).ph = 8) (h0 : q.nd (q.th t).item (headT (q.th t)) = firstS t) : ∃ g' p' S', Inv c (stQ c l s t q) g' p' S' := by
  unfold stQ
  simp only [hp, Int.reduceEq, ↓reduceIte, false_or, or_false, or_true, true_or, or_self, if_pos h0]
  have g1 := g1_of (i.l t) (i.b.gr t) (by omega)
  have hga := (i.l t).ga (by omega) (by omega)
  have hst := (i.l t).st (by omega) (by omega)
  have hh := hd7 (h := q.th t) (by omega) (by omega) hga
  have hn := i.n.closes (a := t) (n := headT (q.th t)) hh h0 (by simp [nfQ, frT, hp]) (by simp [nfQ, w9T, hp])
  obtain ⟨k, e, hk, hd, hj⟩ := downQ_is { q with nd := up2 q.nd (q.th t).item (headT (q.th t)) 0 } t { q.th t with ph := 8, at_ := (q.th t).at_ + 1 } (by simp; omega) (by simp; omega)
  rw [e]
  have hk2 : k = 7 ∨ k = 11 ∨ k = 2 := by omega
  have hbf : bfQ ({ q with nd := up2 q.nd (q.th t).item (headT (q.th t)) 0 }.sT t { q.th t with ph := k, at_ := (q.th t).at_ + 1 }) = bfQ q := (bf_eq (q := q) (t := t) (h := { q.th t with ph := k, at_ := (q.th t).at_ + 1 }) rfl).trans (BF_ext (up_id rfl) (up_id rfl) (up_id (by rcases hk2 with rfl | rfl | rfl <;> simp [bfQ, atT, hp])) (up_id (by rcases hk2 with rfl | rfl | rfl <;> simp [bfQ, xT, hp])) (up_id (by rcases hk2 with rfl | rfl | rfl <;> simp [bfQ, s16T, hp])) (up_id rfl) (up_id rfl) rfl rfl rfl)
  have hnf : nfQ ({ q with nd := up2 q.nd (q.th t).item (headT (q.th t)) 0 }.sT t { q.th t with ph := k, at_ := (q.th t).at_ + 1 }) = { nfQ q with nd := up2 (nfQ q).nd ((nfQ q).it t) (headT (q.th t)) 0, hd := up (nfQ q).hd t ((q.th t).held.drop ((q.th t).at_.toNat + 1)) } := (nf_eq (q := q) (t := t) (h := { q.th t with ph := k, at_ := (q.th t).at_ + 1 }) rfl).trans (NF_ext rfl (by rw [show hdT { q.th t with ph := k, at_ := (q.th t).at_ + 1 } = _ from hd, show ((q.th t).at_ + 1).toNat = (q.th t).at_.toNat + 1 by omega]) (up_id (hj.trans (by simp [nfQ, jnT, hp]))) (up_id rfl) (up_id (by rcases hk2 with rfl | rfl | rfl <;> simp [nfQ, frT, hp])) (up_id (by rcases hk2 with rfl | rfl | rfl <;> simp [nfQ, w9T, hp])) (up_id (by rcases hk2 with rfl | rfl | rfl <;> simp [nfQ, w22T, hp])) (up_id rfl))
  refine ⟨g, p, S, by rw [hbf]; exact i.b, by rw [hnf]; exact hn, fun v => ?_, lG i.r (by omega)⟩
  by_cases e : v = t
  · subst e
    simp only [Q.sT, up_eq]
    have hla := hc.la
    obtain ⟨a1, a2, a3, a4, a5, a6, a7, a8, a9, a10, a11, a12, a13, a14, a15, a16, a17, a18, a19, a20, a21, a22, a23, a24, a25, a26, a27⟩ := i.l v
    have a0 := i.b.gr v
    have hla := hc.la
    have hsp := hc.sp
    have hwi := hc.wi
    simp [hp] at a1 a2 a3 a4 a5 a6 a7 a8 a9 a10 a11 a14 a17 a18 a19 a20 a21 a22 a23 a24 a25 a27
    clear i hbf hnf hn hd hj hh
    rcases hk with ⟨rfl, hk⟩ | ⟨rfl, hk⟩ | ⟨rfl, hk⟩ <;> constructor <;> grind
  · simp only [Q.sT, up_ne e]; exact i.l v
theorem inv_10 {c : Cf} {q : Q} {g p : Int → Int} {S : Int → List En} (i : Inv c q g p S) (hc : CfOk c) {t : Int} (l : Bool) (s : Int) (hp : (q.th t).ph = 10)  : ∃ g' p' S', Inv c (stQ c l s t q) g' p' S' := by
  unfold stQ
  simp only [hp, Int.reduceEq, ↓reduceIte, false_or, or_false, or_true, true_or, or_self]
  have g1 := g1_of (i.l t) (i.b.gr t) (by omega)
  have hga := (i.l t).ga (by omega) (by omega)
  have hst := (i.l t).st (by omega) (by omega)
  have hh := hd7 (h := q.th t) (by omega) (by omega) hga
  have hn := i.n.frees (a := t) (n := headT (q.th t)) hh (by simp [nfQ, frT, hp]) (by simp [nfQ, w9T, hp])
  obtain ⟨k, e, hk, hd, hj⟩ := downQ_is { q with nd := up2 q.nd (q.th t).item (headT (q.th t)) 0 } t { q.th t with ph := 10, at_ := (q.th t).at_ + 1 } (by simp; omega) (by simp; omega)
  rw [e]
  have hk2 : k = 7 ∨ k = 11 ∨ k = 2 := by omega
  have hbf : bfQ ({ q with nd := up2 q.nd (q.th t).item (headT (q.th t)) 0 }.sT t { q.th t with ph := k, at_ := (q.th t).at_ + 1 }) = bfQ q := (bf_eq (q := q) (t := t) (h := { q.th t with ph := k, at_ := (q.th t).at_ + 1 }) rfl).trans (BF_ext (up_id rfl) (up_id rfl) (up_id (by rcases hk2 with rfl | rfl | rfl <;> simp [bfQ, atT, hp])) (up_id (by rcases hk2 with rfl | rfl | rfl <;> simp [bfQ, xT, hp])) (up_id (by rcases hk2 with rfl | rfl | rfl <;> simp [bfQ, s16T, hp])) (up_id rfl) (up_id rfl) rfl rfl rfl)
  have hnf : nfQ ({ q with nd := up2 q.nd (q.th t).item (headT (q.th t)) 0 }.sT t { q.th t with ph := k, at_ := (q.th t).at_ + 1 }) = { nfQ q with nd := up2 (nfQ q).nd ((nfQ q).it t) (headT (q.th t)) 0, hd := up (nfQ q).hd t ((q.th t).held.drop ((q.th t).at_.toNat + 1)), fr := up (nfQ q).fr t false } := (nf_eq (q := q) (t := t) (h := { q.th t with ph := k, at_ := (q.th t).at_ + 1 }) rfl).trans (NF_ext rfl (by rw [show hdT { q.th t with ph := k, at_ := (q.th t).at_ + 1 } = _ from hd, show ((q.th t).at_ + 1).toNat = (q.th t).at_.toNat + 1 by omega]) (up_id (hj.trans (by simp [nfQ, jnT, hp]))) (up_id rfl) (by rcases hk2 with rfl | rfl | rfl <;> simp [frT]) (up_id (by rcases hk2 with rfl | rfl | rfl <;> simp [nfQ, w9T, hp])) (up_id (by rcases hk2 with rfl | rfl | rfl <;> simp [nfQ, w22T, hp])) (up_id rfl))
  refine ⟨g, p, S, by rw [hbf]; exact i.b, by rw [hnf]; exact hn, fun v => ?_, lG i.r (by omega)⟩
  by_cases e : v = t
  · subst e
    simp only [Q.sT, up_eq]
    have hla := hc.la
    obtain ⟨a1, a2, a3, a4, a5, a6, a7, a8, a9, a10, a11, a12, a13, a14, a15, a16, a17, a18, a19, a20, a21, a22, a23, a24, a25, a26, a27⟩ := i.l v
    have a0 := i.b.gr v
    have hla := hc.la
    have hsp := hc.sp
    have hwi := hc.wi
    simp [hp] at a1 a2 a3 a4 a5 a6 a7 a8 a9 a10 a11 a14 a17 a18 a19 a20 a21 a22 a23 a24 a25 a27
    clear i hbf hnf hn hd hj hh
    rcases hk with ⟨rfl, hk⟩ | ⟨rfl, hk⟩ | ⟨rfl, hk⟩ <;> constructor <;> grind
  · simp only [Q.sT, up_ne e]; exact i.l v
theorem inv_9 {c : Cf} {q : Q} {g p : Int → Int} {S : Int → List En} (i : Inv c q g p S) (hc : CfOk c) {t : Int} (l : Bool) (s : Int) (hp : (q.th t).ph = 9) : ∃ g' p' S', Inv c (stQ c l s t q) g' p' S' := by
  unfold stQ
  simp only [hp, Int.reduceEq, ↓reduceIte, false_or, or_false, or_true, true_or, or_self]
  have g1 := g1_of (i.l t) (i.b.gr t) (by omega)
  have hw := (i.l t).w9 hp
  obtain ⟨⟨u1, u2, u3⟩, hn⟩ := i.n.collects (a := t) (u := (q.th t).who) (by simp [nfQ, w9T, hp]) (by omega) (by simp [nfQ, w22T, hp]) (by simp [nfQ, frT, hp])
  have hbx := (i.l (q.th t).who).b2 u1
  rw [hbx]
  have hut : (q.th t).who ≠ t := by intro e; rw [e] at u1; omega
  have hb := i.b.absorb hc.th.2 g1 u1 u3
  have hbf : bfQ (q.sT t { addK (q.th t) (q.th (q.th t).who).batch with ph := 10 }) = { bfQ q with ba := up (bfQ q).ba t ((bfQ q).ba t ++ (bfQ q).ba (q.th t).who), ki := up (bfQ q).ki t ((bfQ q).ki t ++ [⟨(q.th t).who, ((bfQ q).ba t).length⟩]) } := (bf_eq (q := q) (t := t) (h := { addK (q.th t) (q.th (q.th t).who).batch with ph := 10 }) rfl).trans (BF_ext rfl rfl (up_id (by simp [bfQ, atT, hp])) (up_id (by simp [bfQ, xT, hp])) (up_id (by simp [bfQ, s16T, hp])) (up_id rfl) (up_id rfl) rfl rfl rfl)
  have hnf : nfQ (q.sT t { addK (q.th t) (q.th (q.th t).who).batch with ph := 10 }) = { nfQ q with fr := up (nfQ q).fr t true, w9 := up (nfQ q).w9 t (-1) } := (nf_eq (q := q) (t := t) (h := { addK (q.th t) (q.th (q.th t).who).batch with ph := 10 }) rfl).trans (NF_ext rfl (up_id (by simp [nfQ, hdT, hp, addK])) (up_id (by simp [nfQ, jnT, hp, addK])) (up_id rfl) (by simp [frT]) (by simp [w9T]) (up_id (by simp [nfQ, w22T, hp])) (up_id rfl))
  have hpp : up p (q.th t).who t = p := up_id u2.symm
  refine ⟨up g (q.th t).who 3, p, _, by rw [hbf]; rw [hpp] at hb; exact hb, by rw [hnf]; exact hn, fun v => ?_, i.r⟩
  by_cases e : v = t
  · subst e
    rw [up_ne (Ne.symm hut)]
    simp only [Q.sT, up_eq, addK]
    obtain ⟨a1, a2, a3, a4, a5, a6, a7, a8, a9, a10, a11, a12, a13, a14, a15, a16, a17, a18, a19, a20, a21, a22, a23, a24, a25, a26, a27⟩ := i.l v
    have a0 := i.b.gr v
    have hla := hc.la
    have hsp := hc.sp
    have hwi := hc.wi
    simp [hp] at a1 a2 a3 a4 a5 a6 a7 a8 a9 a10 a11 a14 a17 a18 a19 a20 a21 a22 a23 a24 a25 a27
    clear i hbf hnf hn hb hpp
    constructor <;> grind
  · simp only [Q.sT, up_ne e]
    by_cases e2 : v = (q.th t).who
    · subst e2
      rw [up_eq]
      obtain ⟨a1, a2, a3, a4, a5, a6, a7, a8, a9, a10, a11, a12, a13, a14, a15, a16, a17, a18, a19, a20, a21, a22, a23, a24, a25, a26, a27⟩ := i.l (q.th t).who
      have a0 := i.b.gr (q.th t).who
      have hla := hc.la
      have hsp := hc.sp
      have hwi := hc.wi
      simp [u1] at a1 a2 a3 a4 a5 a6 a7 a8 a9 a10 a11 a14 a17 a18 a19 a20 a21 a22 a23 a24 a25 a27
      clear i hbf hnf hn hb hpp
      constructor <;> grind
    · rw [up_ne e2]; exact i.l v
theorem inv_22 {c : Cf} {q : Q} {g p : Int → Int} {S : Int → List En} (i : Inv c q g p S) (hc : CfOk c) {t : Int} (l : Bool) (s : Int) (hp : (q.th t).ph = 22) : ∃ g' p' S', Inv c (stQ c l s t q) g' p' S' := by
  unfold stQ
  simp only [hp, Int.reduceEq, ↓reduceIte, false_or, or_false, or_true, true_or, or_self]
  have g1 := g1_of (i.l t) (i.b.gr t) (by omega)
  have hw := (i.l t).w2 (by simp [hp])
  obtain ⟨⟨u1, u2, u3⟩, hn⟩ := i.n.absorbs (a := t) (u := (q.th t).who) (by simp [nfQ, w22T, hp]) (by omega) 
  have hbx := (i.l (q.th t).who).b2 u1
  rw [hbx]
  have hut : (q.th t).who ≠ t := by intro e; rw [e] at u1; omega
  have hb := i.b.absorb hc.th.2 g1 u1 u3
  have hbf : bfQ (q.sT t { addK (q.th t) (q.th (q.th t).who).batch with ph := 25 }) = { bfQ q with ba := up (bfQ q).ba t ((bfQ q).ba t ++ (bfQ q).ba (q.th t).who), ki := up (bfQ q).ki t ((bfQ q).ki t ++ [⟨(q.th t).who, ((bfQ q).ba t).length⟩]) } := (bf_eq (q := q) (t := t) (h := { addK (q.th t) (q.th (q.th t).who).batch with ph := 25 }) rfl).trans (BF_ext rfl rfl (up_id (by simp [bfQ, atT, hp])) (up_id (by simp [bfQ, xT, hp])) (up_id (by simp [bfQ, s16T, hp])) (up_id rfl) (up_id rfl) rfl rfl rfl)
  have hnf : nfQ (q.sT t { addK (q.th t) (q.th (q.th t).who).batch with ph := 25 }) = { nfQ q with w22 := up (nfQ q).w22 t (-1) } := (nf_eq (q := q) (t := t) (h := { addK (q.th t) (q.th (q.th t).who).batch with ph := 25 }) rfl).trans (NF_ext rfl (up_id (by simp [nfQ, hdT, hp, addK])) (up_id (by simp [nfQ, jnT, hp, addK])) (up_id rfl) (up_id (by simp [nfQ, frT, hp])) (up_id (by simp [nfQ, w9T, hp])) (by simp [w22T]) (up_id rfl))
  have hpp : up p (q.th t).who t = p := up_id u2.symm
  refine ⟨up g (q.th t).who 3, p, _, by rw [hbf]; rw [hpp] at hb; exact hb, by rw [hnf]; exact hn, fun v => ?_, i.r⟩
  by_cases e : v = t
  · subst e
    rw [up_ne (Ne.symm hut)]
    simp only [Q.sT, up_eq, addK]
    obtain ⟨a1, a2, a3, a4, a5, a6, a7, a8, a9, a10, a11, a12, a13, a14, a15, a16, a17, a18, a19, a20, a21, a22, a23, a24, a25, a26, a27⟩ := i.l v
    have a0 := i.b.gr v
    have hla := hc.la
    have hsp := hc.sp
    have hwi := hc.wi
    simp [hp] at a1 a2 a3 a4 a5 a6 a7 a8 a9 a10 a11 a14 a17 a18 a19 a20 a21 a22 a23 a24 a25 a27
    clear i hbf hnf hn hb hpp
    constructor <;> grind
  · simp only [Q.sT, up_ne e]
    by_cases e2 : v = (q.th t).who
    · subst e2
      rw [up_eq]
      obtain ⟨a1, a2, a3, a4, a5, a6, a7, a8, a9, a10, a11, a12, a13, a14, a15, a16, a17, a18, a19, a20, a21, a22, a23, a24, a25, a26, a27⟩ := i.l (q.th t).who
      have a0 := i.b.gr (q.th t).who
      have hla := hc.la
      have hsp := hc.sp
      have hwi := hc.wi
      simp [u1] at a1 a2 a3 a4 a5 a6 a7 a8 a9 a10 a11 a14 a17 a18 a19 a20 a21 a22 a23 a24 a25 a27
      clear i hbf hnf hn hb hpp
      constructor <;> grind
    · rw [up_ne e2]; exact i.l v
theorem inv_12 {c : Cf} {q : Q} {g p : Int → Int} {S : Int → List En} (i : Inv c q g p S) (hc : CfOk c) {t : Int} (l : Bool) (s : Int) (hp : (q.th t).ph = 12) : ∃ g' p' S', Inv c (stQ c l s t q) g' p' S' := by
  unfold stQ
  simp only [hp, Int.reduceEq, ↓reduceIte, false_or, or_false, or_true, true_or, or_self]
  have g1 := g1_of (i.l t) (i.b.gr t) (by omega)
  have hs := (i.l t).s1 (by simp [hp])
  have hr := i.b.rng t (by omega)
  have hth := hc.th
  have hj : (nfQ q).jn t = (q.th t).stop := by simp [nfQ, jnT, hp]
  obtain ⟨b, hb1, hb2, hn⟩ := i.n.deposits (a := t) (by rw [hj]; omega) (by rw [hj]; rfl) (by simp [nfQ, hdT, hp]) (by simp [nfQ, w22T, hp]) (by omega)
  have hb := i.b.give (b := b) g1
  rw [hj] at hn
  have hbf : bfQ ({ q.sT t { q.th t with ph := 13 } with nd := up2 q.nd (q.th t).item (q.th t).stop (depositedS t) } : Q) = bfQ q := (bf_eq (q := q) (t := t) (h := { q.th t with ph := 13 }) rfl).trans (BF_ext (up_id rfl) (up_id rfl) (up_id (by simp [bfQ, atT, hp])) (up_id (by simp [bfQ, xT, hp])) (up_id (by simp [bfQ, s16T, hp])) (up_id rfl) (up_id rfl) rfl rfl rfl)
  have hnf : nfQ ({ q.sT t { q.th t with ph := 13 } with nd := up2 q.nd (q.th t).item (q.th t).stop (depositedS t) } : Q) = { nfQ q with nd := up2 (nfQ q).nd ((nfQ q).it t) (q.th t).stop (depositedS t), jn := up (nfQ q).jn t 0 } := (nf_eq (q := q) (t := t) (h := { q.th t with ph := 13 }) rfl).trans (NF_ext rfl (up_id (by simp [nfQ, hdT, hp])) (by simp [jnT]) (up_id rfl) (up_id (by simp [nfQ, frT, hp])) (up_id (by simp [nfQ, w9T, hp])) (up_id (by simp [nfQ, w22T, hp])) (up_id rfl))
  refine ⟨_, _, S, by rw [hbf]; exact hb, by rw [hnf]; exact hn, fun v => ?_, lG i.r (by unfold depositedS; omega)⟩
  by_cases e : v = t
  · subst e
    simp only [Q.sT, up_eq]
    obtain ⟨a1, a2, a3, a4, a5, a6, a7, a8, a9, a10, a11, a12, a13, a14, a15, a16, a17, a18, a19, a20, a21, a22, a23, a24, a25, a26, a27⟩ := i.l v
    have a0 := i.b.gr v
    have hla := hc.la
    have hsp := hc.sp
    have hwi := hc.wi
    simp [hp] at a1 a2 a3 a4 a5 a6 a7 a8 a9 a10 a11 a14 a17 a18 a19 a20 a21 a22 a23 a24 a25 a27
    clear i hbf hnf hn hb
    constructor <;> grind
  · simp only [Q.sT, up_ne e]; exact i.l v
theorem open_inj {i l j m : Int} (hl : 0 ≤ l ∧ l ≤ 3) (hm : 0 ≤ m ∧ m ≤ 3) (h : openS i l = openS j m) : i = j := by unfold openS at h; omega
theorem inv_21 {c : Cf} {q : Q} {g p : Int → Int} {S : Int → List En} (i : Inv c q g p S) (hc : CfOk c) {t : Int} (l : Bool) (s : Int) (hp : (q.th t).ph = 21) : ∃ g' p' S', Inv c (stQ c l s t q) g' p' S' := by
  unfold stQ
  simp only [hp, Int.reduceEq, ↓reduceIte, false_or, or_false, or_true, true_or, or_self]
  have g1 := g1_of (i.l t) (i.b.gr t) (by omega)
  have hw := (i.l t).w2 (by simp [hp])
  split
  · rename_i ho
    have hz := open_nz (i.l t).it.1 (i.l t).la.1
    have lu := i.l (q.th t).who
    have h1 := lu.ll
    rw [ho] at h1
    have h2 : g (q.th t).who = 1 ∧ ((q.th (q.th t).who).ph = 19 ∨ (q.th (q.th t).who).ph = 20 ∨ (q.th (q.th t).who).ph = 23 ∨ (q.th (q.th t).who).ph = 26) := by grind
    have h3 := lu.lo h2.1 h2.2
    rw [ho] at h3
    have hit := open_inj (i.l t).la lu.la h3
    have hb := i.b.give (b := t) h2.1
    have hn := i.n.captures (a := t) (u := (q.th t).who) (by simp [nfQ, w22T, hp]) (by simp [nfQ, hdT, hp]) hw.1 (by omega) (by rcases h2.2 with h | h | h | h <;> simp [nfQ, hdT, h]) (by rcases h2.2 with h | h | h | h <;> simp [nfQ, w22T, h]) hit.symm
    have hbf : bfQ ({ q.sT t { q.th t with ph := 22 } with ln := up q.ln (q.th t).who 0 } : Q) = bfQ q := (bf_eq (q := q) (t := t) (h := { q.th t with ph := 22 }) rfl).trans (BF_ext (up_id rfl) (up_id rfl) (up_id (by simp [bfQ, atT, hp])) (up_id (by simp [bfQ, xT, hp])) (up_id (by simp [bfQ, s16T, hp])) (up_id rfl) (up_id rfl) rfl rfl rfl)
    have hnf : nfQ ({ q.sT t { q.th t with ph := 22 } with ln := up q.ln (q.th t).who 0 } : Q) = { nfQ q with w22 := up (nfQ q).w22 t (q.th t).who } := (nf_eq (q := q) (t := t) (h := { q.th t with ph := 22 }) rfl).trans (NF_ext rfl (up_id (by simp [nfQ, hdT, hp])) (up_id (by simp [nfQ, jnT, hp])) (up_id rfl) (up_id (by simp [nfQ, frT, hp])) (up_id (by simp [nfQ, w9T, hp])) (by simp [w22T]) (up_id rfl))
    refine ⟨_, _, S, by rw [hbf]; exact hb, by rw [hnf]; exact hn, fun v => ?_, i.r⟩
    by_cases e : v = t
    · subst e
      rw [up_ne (Ne.symm hw.2.2)]
      simp only [Q.sT, up_eq]
      rw [up_ne (Ne.symm hw.2.2)]
      obtain ⟨a1, a2, a3, a4, a5, a6, a7, a8, a9, a10, a11, a12, a13, a14, a15, a16, a17, a18, a19, a20, a21, a22, a23, a24, a25, a26, a27⟩ := i.l v
      have a0 := i.b.gr v
      have hla := hc.la
      have hsp := hc.sp
      have hwi := hc.wi
      simp [hp] at a1 a2 a3 a4 a5 a6 a7 a8 a9 a10 a11 a14 a17 a18 a19 a20 a21 a22 a23 a24 a25 a27
      clear i hbf hnf hn hb
      constructor <;> grind
    · simp only [Q.sT, up_ne e]
      by_cases e2 : v = (q.th t).who
      · subst e2
        rw [up_eq, up_eq]
        have hu1 := h2.1
        obtain ⟨a1, a2, a3, a4, a5, a6, a7, a8, a9, a10, a11, a12, a13, a14, a15, a16, a17, a18, a19, a20, a21, a22, a23, a24, a25, a26, a27⟩ := i.l (q.th t).who
        have a0 := i.b.gr (q.th t).who
        have hla := hc.la
        have hsp := hc.sp
        have hwi := hc.wi
        simp [hu1] at a1 a2 a3 a4 a5 a6 a7 a8 a9 a10 a11 a14 a17 a18 a19 a20 a21 a22 a23 a24 a25 a27
        clear i hbf hnf hn hb
        constructor <;> grind
      · rw [up_ne e2, up_ne e2]; exact i.l v
  · refine ⟨g, p, S, Inv.own i (t := t) rfl (by constructor <;> simp [atT, xT, s16T, hdT, jnT, frT, w9T, w22T, hp]) rfl rfl rfl rfl (fun _ _ => rfl) (fun _ _ => rfl) ?_⟩
    simp only [Q.sT]
    obtain ⟨a1, a2, a3, a4, a5, a6, a7, a8, a9, a10, a11, a12, a13, a14, a15, a16, a17, a18, a19, a20, a21, a22, a23, a24, a25, a26, a27⟩ := i.l t
    have a0 := i.b.gr t
    have hla := hc.la
    have hsp := hc.sp
    have hwi := hc.wi
    simp [hp] at a1 a2 a3 a4 a5 a6 a7 a8 a9 a10 a11 a14 a17 a18 a19 a20 a21 a22 a23 a24 a25 a27
    clear i
    constructor <;> grind
/-- One that tells its kids goes on to the next one, or ends. -/
theorem settle_inv {c : Cf} {q : Q} {g p g1 : Int → Int} {S : Int → List En} (hc : CfOk c) {t : Int} {h : Th}
    (hb : Bat c { bfQ q with at_ := up (bfQ q).at_ t h.at_, x := up (bfQ q).x t h.x, s16 := up (bfQ q).s16 t false } g1 p S) (hn : Nod (nfQ q) g p) (hg : ∀ u, g1 u = 2 ↔ g u = 2) (h5 : g1 t = 5)
    (e1 : h.batch = (q.th t).batch) (e2 : h.kids = (q.th t).kids) (e3 : h.tag = (q.th t).tag) (e4 : h.v = (q.th t).v) (e5 : h.item = (q.th t).item) (e6 : h.stop = (q.th t).stop)
    (f1 : hdT (q.th t) = []) (f2 : jnT (q.th t) = 0) (f3 : frT (q.th t) = false) (f4 : w9T (q.th t) = -1) (f5 : w22T (q.th t) = -1)
    (h0 : 0 ≤ h.at_) (ll : q.ln t = 0 ∨ q.ln t = 5) (hit : 0 ≤ h.item ∧ h.item < c.it) (hla : 0 ≤ h.layer ∧ h.layer ≤ 3) (hwd : 1 ≤ h.width ∧ h.width ≤ c.wi) (hle : 0 ≤ h.left ∧ h.left ≤ c.sp) (hhl : h.held.length ≤ 16)
    (lo : ∀ u, u ≠ t → LocP c u (g1 u) (q.th u) (q.ln u) (q.bx u)) (hr : ∀ i n, 0 ≤ q.nd i n ∧ q.nd i n ≤ 200) : ∃ g' p' S', Inv c (settleQ q t h) g' p' S' := by
  unfold settleQ
  split
  · rename_i hk
    have hbf : bfQ (q.sT t { h with ph := 15 }) = { bfQ q with at_ := up (bfQ q).at_ t h.at_, x := up (bfQ q).x t h.x, s16 := up (bfQ q).s16 t false } := (bf_eq (q := q) (t := t) (h := { h with ph := 15 }) rfl).trans (BF_ext (up_id e1) (up_id e2) (by simp [atT]) (by simp [xT]) (by simp [s16T]) (up_id (by simp [bfQ, owT, e3, e4])) (up_id e5) rfl rfl rfl)
    have hnf : nfQ (q.sT t { h with ph := 15 }) = nfQ q := (nf_eq (q := q) (t := t) (h := { h with ph := 15 }) rfl).trans (NF_ext rfl (up_id (by show _ = hdT (q.th t); rw [f1]; simp [hdT])) (up_id (by show _ = jnT (q.th t); rw [f2]; simp [jnT])) (up_id e5) (up_id (by show _ = frT (q.th t); rw [f3]; simp [frT])) (up_id (by show _ = w9T (q.th t); rw [f4]; simp [w9T])) (up_id (by show _ = w22T (q.th t); rw [f5]; simp [w22T])) (up_id e6))
    refine ⟨g1, p, S, by rw [hbf]; exact hb, by rw [hnf]; exact hn.gcongr hg fun _ _ => rfl, fun v => ?_, hr⟩
    by_cases e : v = t
    · subst e
      simp only [Q.sT, up_eq]
      constructor <;> grind
    · simp only [Q.sT, up_ne e]; exact lo v e
  · rename_i hk
    have hb2 := hb.ends h5 (by show ((q.th t).kids.length : Int) ≤ up _ t h.at_ t; rw [up_eq, ← e2]; omega)
    have hbf : bfQ ({ q.sT t { h with ph := 0 } with cm := up q.cm t false } : Q) = { bfQ q with cm := up (bfQ q).cm t false, at_ := up (up (bfQ q).at_ t h.at_) t 0, x := up (up (bfQ q).x t h.x) t 0, s16 := up (up (bfQ q).s16 t false) t false } := (bf_eq (q := q) (t := t) (h := { h with ph := 0 }) rfl).trans (BF_ext (up_id e1) (up_id e2) (by funext z; simp only [up, atT]; split <;> simp) (by funext z; simp only [up, xT]; split <;> simp) (by funext z; simp only [up, s16T]; split <;> simp) (up_id (by simp [bfQ, owT, e3, e4])) (up_id e5) rfl rfl rfl)
    have hnf : nfQ ({ q.sT t { h with ph := 0 } with cm := up q.cm t false } : Q) = nfQ q := (nf_eq (q := q) (t := t) (h := { h with ph := 0 }) rfl).trans (NF_ext rfl (up_id (by show _ = hdT (q.th t); rw [f1]; simp [hdT])) (up_id (by show _ = jnT (q.th t); rw [f2]; simp [jnT])) (up_id e5) (up_id (by show _ = frT (q.th t); rw [f3]; simp [frT])) (up_id (by show _ = w9T (q.th t); rw [f4]; simp [w9T])) (up_id (by show _ = w22T (q.th t); rw [f5]; simp [w22T])) (up_id e6))
    refine ⟨up g1 t 0, p, up S t [], by rw [hbf]; exact hb2, by rw [hnf]; exact hn.gcongr (fun u => by have h7 := hg u; unfold up; split <;> first | exact h7 | (rename_i e8; rw [e8] at h7 ⊢; omega)) fun _ _ => rfl, fun v => ?_, hr⟩
    by_cases e : v = t
    · subst e
      simp only [Q.sT, up_eq]
      constructor <;> grind
    · simp only [Q.sT, up_ne e]; exact lo v e
theorem commit_inv {c : Cf} {q : Q} {g p : Int → Int} {S : Int → List En} (i : Inv c q g p S) (hc : CfOk c) {t : Int} {h : Th} (f : Int → Int) (x : Int) (g1 : g t = 1) (hp : (q.th t).ph = 2 ∨ (q.th t).ph = 3 ∨ (q.th t).ph = 25)
    (hh : h = q.th t) : ∃ g' p' S', Inv c (commitQ c { q with cl := f } t h x) g' p' S' := by
  subst hh
  have lt := i.l t
  have hz := lt.lz g1 (by omega) (by omega) (by omega) (by omega) (by omega)
  have hb := i.b.commits g1 x
  unfold commitQ
  refine settle_inv (g := g) (p := p) (g1 := up g t 5) (S := S) hc hb i.n (fun u => ?_) up_eq rfl rfl rfl rfl rfl rfl ?_ ?_ ?_ ?_ ?_ (by simp) (Or.inl hz) lt.it lt.la lt.wd lt.le lt.hl (fun u hu => ?_) i.r
  · unfold up; split <;> simp_all
  · rcases hp with e | e | e <;> simp [hdT, e]
  · rcases hp with e | e | e <;> simp [jnT, e]
  · rcases hp with e | e | e <;> simp [frT, e]
  · rcases hp with e | e | e <;> simp [w9T, e]
  · rcases hp with e | e | e <;> simp [w22T, e]
  · rw [up_ne hu]; exact i.l u
theorem inv_3c {c : Cf} {q : Q} {g p : Int → Int} {S : Int → List En} (i : Inv c q g p S) (hc : CfOk c) {t : Int} (l : Bool) (s : Int) (hp : (q.th t).ph = 3) (h0 : q.cl (q.th t).item = (q.th t).x) : ∃ g' p' S', Inv c (stQ c l s t q) g' p' S' := by
  unfold stQ
  simp only [hp, Int.reduceEq, ↓reduceIte, false_or, or_false, or_true, true_or, or_self, if_pos h0]
  exact commit_inv i hc _ _ (g1_of (i.l t) (i.b.gr t) (by omega)) (by omega) rfl
theorem inv_2 {c : Cf} {q : Q} {g p : Int → Int} {S : Int → List En} (i : Inv c q g p S) (hc : CfOk c) {t : Int} (l : Bool) (s : Int) (hp : (q.th t).ph = 2) : ∃ g' p' S', Inv c (stQ c l s t q) g' p' S' := by
  unfold stQ
  simp only [hp, Int.reduceEq, ↓reduceIte, false_or, or_false, or_true, true_or, or_self]
  split
  · exact commit_inv i hc q.cl _ (g1_of (i.l t) (i.b.gr t) (by omega)) (by omega) rfl
  · refine ⟨g, p, S, Inv.own i (t := t) rfl (by constructor <;> simp [atT, xT, s16T, hdT, jnT, frT, w9T, w22T, hp]) rfl rfl rfl rfl (fun _ _ => rfl) (fun _ _ => rfl) ?_⟩
    simp only [Q.sT]
    obtain ⟨a1, a2, a3, a4, a5, a6, a7, a8, a9, a10, a11, a12, a13, a14, a15, a16, a17, a18, a19, a20, a21, a22, a23, a24, a25, a26, a27⟩ := i.l t
    have a0 := i.b.gr t
    have hla := hc.la
    have hsp := hc.sp
    have hwi := hc.wi
    simp [hp] at a1 a2 a3 a4 a5 a6 a7 a8 a9 a10 a11 a14 a17 a18 a19 a20 a21 a22 a23 a24 a25 a27
    clear i
    constructor <;> grind
theorem inv_25 {c : Cf} {q : Q} {g p : Int → Int} {S : Int → List En} (i : Inv c q g p S) (hc : CfOk c) {t : Int} (l : Bool) (s : Int) (hp : (q.th t).ph = 25) : ∃ g' p' S', Inv c (stQ c l s t q) g' p' S' := by
  unfold stQ
  simp only [hp, Int.reduceEq, ↓reduceIte, false_or, or_false, or_true, true_or, or_self]
  split
  · exact commit_inv i hc q.cl _ (g1_of (i.l t) (i.b.gr t) (by omega)) (by omega) rfl
  · obtain ⟨k, m, e, hk⟩ := onwardQ_is c l q t (q.th t)
    rw [e]
    refine ⟨g, p, S, Inv.own i (t := t) rfl (by rcases hk with h | h <;> constructor <;> simp [atT, xT, s16T, hdT, jnT, frT, w9T, w22T, hp, h.1]) rfl rfl rfl rfl (fun _ _ => rfl) (fun _ _ => rfl) ?_⟩
    simp only [Q.sT]
    obtain ⟨a1, a2, a3, a4, a5, a6, a7, a8, a9, a10, a11, a12, a13, a14, a15, a16, a17, a18, a19, a20, a21, a22, a23, a24, a25, a26, a27⟩ := i.l t
    have a0 := i.b.gr t
    have hla := hc.la
    have hsp := hc.sp
    have hwi := hc.wi
    simp [hp] at a1 a2 a3 a4 a5 a6 a7 a8 a9 a10 a11 a14 a17 a18 a19 a20 a21 a22 a23 a24 a25 a27
    clear i e
    rcases hk with ⟨rfl, rfl, hk⟩ | ⟨rfl, rfl⟩ <;> constructor <;> grind
theorem inv_14 {c : Cf} {q : Q} {g p : Int → Int} {S : Int → List En} (i : Inv c q g p S) (hc : CfOk c) {t : Int} (l : Bool) (s : Int) (hp : (q.th t).ph = 14) : ∃ g' p' S', Inv c (stQ c l s t q) g' p' S' := by
  unfold stQ
  simp only [hp, Int.reduceEq, ↓reduceIte, false_or, or_false, or_true, true_or, or_self]
  have lt := i.l t
  have g4 : g t = 4 := by have h1 := lt.l1; have h2 := lt.l2; have h3 := lt.l5; have h4 := lt.l0; have := i.b.gr t; grind
  have hb := i.b.fetches g4
  have ll := lt.ll
  refine settle_inv (g := g) (p := p) (g1 := up g t 5) (S := S) hc hb i.n (fun u => ?_) up_eq rfl rfl rfl rfl rfl rfl (by simp [hdT, hp]) (by simp [jnT, hp]) (by simp [frT, hp]) (by simp [w9T, hp]) (by simp [w22T, hp]) (by simp) (by omega) lt.it lt.la lt.wd lt.le lt.hl (fun u hu => ?_) i.r
  · unfold up; split <;> simp_all
  · rw [up_ne hu]; exact i.l u
theorem inv_15 {c : Cf} {q : Q} {g p : Int → Int} {S : Int → List En} (i : Inv c q g p S) (hc : CfOk c) {t : Int} (l : Bool) (s : Int) (hp : (q.th t).ph = 15) : ∃ g' p' S', Inv c (stQ c l s t q) g' p' S' := by
  unfold stQ
  simp only [hp, Int.reduceEq, ↓reduceIte, false_or, or_false, or_true, true_or, or_self]
  have lt := i.l t
  have g5 : g t = 5 := by have h1 := lt.l1; have h2 := lt.l2; have h3 := lt.l4; have h4 := lt.l0; have := i.b.gr t; grind
  have h5 := lt.l5 g5
  have ea : (bfQ q).at_ t = (q.th t).at_ := by simp [bfQ, atT, hp]
  have ex : (bfQ q).x t = (q.th t).x := by simp [bfQ, xT, hp]
  have ek : kidB (bfQ q) t = kidT (q.th t) := by unfold kidB kidT; rw [ea]; rfl
  have hb := i.b.shares g5 (by rw [ea]; exact h5.2.2)
  rw [ek, ex] at hb
  have hbf : bfQ ({ q.sT t { q.th t with ph := 16 } with rs := up q.rs (kidT (q.th t)).t (allS ((q.th t).batch.take (kidT (q.th t)).ah.toNat) (q.th t).x c.lo c.hi) } : Q) = { bfQ q with s16 := up (bfQ q).s16 t true, rs := up (bfQ q).rs (kidT (q.th t)).t (allS ((q.th t).batch.take (kidT (q.th t)).ah.toNat) (q.th t).x c.lo c.hi) } := (bf_eq (q := q) (t := t) (h := { q.th t with ph := 16 }) rfl).trans (BF_ext (up_id rfl) (up_id rfl) (up_id (by simp [bfQ, atT, hp])) (up_id (by simp [bfQ, xT, hp])) (by simp [s16T]) (up_id rfl) (up_id rfl) rfl rfl rfl)
  have hnf : nfQ ({ q.sT t { q.th t with ph := 16 } with rs := up q.rs (kidT (q.th t)).t (allS ((q.th t).batch.take (kidT (q.th t)).ah.toNat) (q.th t).x c.lo c.hi) } : Q) = nfQ q := (nf_eq (q := q) (t := t) (h := { q.th t with ph := 16 }) rfl).trans (NF_ext rfl (up_id (by simp [nfQ, hdT, hp])) (up_id (by simp [nfQ, jnT, hp])) (up_id rfl) (up_id (by simp [nfQ, frT, hp])) (up_id (by simp [nfQ, w9T, hp])) (up_id (by simp [nfQ, w22T, hp])) (up_id rfl))
  refine ⟨g, p, S, by rw [hbf]; exact hb, by rw [hnf]; exact i.n, fun v => ?_, i.r⟩
  by_cases e : v = t
  · subst e
    simp only [Q.sT, up_eq]
    obtain ⟨a1, a2, a3, a4, a5, a6, a7, a8, a9, a10, a11, a12, a13, a14, a15, a16, a17, a18, a19, a20, a21, a22, a23, a24, a25, a26, a27⟩ := i.l v
    have a0 := i.b.gr v
    have hla := hc.la
    have hsp := hc.sp
    have hwi := hc.wi
    simp [hp] at a1 a2 a3 a4 a5 a6 a7 a8 a9 a10 a11 a14 a17 a18 a19 a20 a21 a22 a23 a24 a25 a27
    clear i hbf hnf hb lt
    constructor <;> grind
  · simp only [Q.sT, up_ne e]; exact i.l v
theorem inv_16 {c : Cf} {q : Q} {g p : Int → Int} {S : Int → List En} (i : Inv c q g p S) (hc : CfOk c) {t : Int} (l : Bool) (s : Int) (hp : (q.th t).ph = 16) : ∃ g' p' S', Inv c (stQ c l s t q) g' p' S' := by
  unfold stQ
  simp only [hp, Int.reduceEq, ↓reduceIte, false_or, or_false, or_true, true_or, or_self]
  have lt := i.l t
  have g5 : g t = 5 := by have h1 := lt.l1; have h2 := lt.l2; have h3 := lt.l4; have h4 := lt.l0; have := i.b.gr t; grind
  have h5 := lt.l5 g5
  have ea : (bfQ q).at_ t = (q.th t).at_ := by simp [bfQ, atT, hp]
  have ex : (bfQ q).x t = (q.th t).x := by simp [bfQ, xT, hp]
  have ek : kidB (bfQ q) t = kidT (q.th t) := by unfold kidB kidT; rw [ea]; rfl
  have hk := i.b.kid g5 (by rw [ea]; exact h5.2.2)
  rw [ek] at hk
  obtain ⟨S', hb⟩ := i.b.tells (u := (kidT (q.th t)).t) g5 (by simp [bfQ, s16T, hp]) (by rw [ek])
  have hut : t ≠ (kidT (q.th t)).t := by intro e; rw [← e] at hk; omega
  rw [ea] at hb
  have ll := lt.ll
  refine settle_inv (g := g) (p := p) (g1 := up g (kidT (q.th t)).t 4) (S := S') hc ?_ i.n (fun u => ?_) (by rw [up_ne hut]; exact g5) rfl rfl rfl rfl rfl rfl (by simp [hdT, hp]) (by simp [jnT, hp]) (by simp [frT, hp]) (by simp [w9T, hp]) (by simp [w22T, hp]) (by simp; omega) (by simp only []; rw [up_ne hut]; omega) lt.it lt.la lt.wd lt.le lt.hl (fun u hu => ?_) i.r
  · have ex2 : up (bfQ q).x t (q.th t).x = (bfQ q).x := up_id ex.symm
    have e3 : (bfQ { q with ln := up q.ln (kidT (q.th t)).t 5 }) = bfQ q := rfl
    rw [e3]
    simp only []
    rw [ex2]
    exact hb
  · unfold up; split
    · rename_i e; rw [e]; omega
    · rfl
  · by_cases e2 : u = (kidT (q.th t)).t
    · subst e2
      simp only []
      rw [up_eq, up_eq]
      have hu1 := hk.1
      obtain ⟨a1, a2, a3, a4, a5, a6, a7, a8, a9, a10, a11, a12, a13, a14, a15, a16, a17, a18, a19, a20, a21, a22, a23, a24, a25, a26, a27⟩ := i.l (kidT (q.th t)).t
      have a0 := i.b.gr (kidT (q.th t)).t
      have hla := hc.la
      have hsp := hc.sp
      have hwi := hc.wi
      simp [hu1] at a1 a2 a3 a4 a5 a6 a7 a8 a9 a10 a11 a14 a17 a18 a19 a20 a21 a22 a23 a24 a25 a27
      clear i hb lt
      constructor <;> grind
    · simp only []
      rw [up_ne e2, up_ne e2]; exact i.l u
theorem leaf_rng {d t : Int} (hd : 0 < d ∧ d ≤ 4) (ht : 0 ≤ t) : 1 ≤ leafS d t ∧ leafS d t < p2 d := by
  unfold leafS
  rw [if_neg (by omega)]
  have h1 : d = 1 ∨ d = 2 ∨ d = 3 ∨ d = 4 := by omega
  rcases h1 with rfl | rfl | rfl | rfl <;> simp [p2] <;> omega
/-- An op begins. -/
theorem inv_begin {c : Cf} {q : Q} {g p : Int → Int} {S : Int → List En} (i : Inv c q g p S) (hc : CfOk c) {t item tag v now : Int} (h0 : (q.th t).ph = 0) (ht : 0 ≤ t ∧ t < c.th) (hi : 0 ≤ item ∧ item < c.it) : ∃ g' p' S', Inv c (q.sT t (beginS c t (q.th t) item tag v now)) g' p' S' := by
  have g0 := (i.l t).l0.2 h0
  have hb := i.b.begins g0 ht ⟨t, tag, v⟩ rfl item
  have hn := i.n.anew (a := t) (i := item) (s := 0) (by omega) (by simp [nfQ, hdT, h0]) (by simp [nfQ, jnT, h0]) (by simp [nfQ, w22T, h0]) (by simp [nfQ, w9T, h0])
  have hbf : bfQ (q.sT t (beginS c t (q.th t) item tag v now)) = { bfQ q with ba := up (bfQ q).ba t [⟨t, tag, v⟩], ki := up (bfQ q).ki t [], ow := up (bfQ q).ow t ⟨t, tag, v⟩, it := up (bfQ q).it t item } := (bf_eq (q := q) (t := t) (h := beginS c t (q.th t) item tag v now) rfl).trans (BF_ext rfl rfl (up_id (by simp [bfQ, atT, h0, beginS])) (up_id (by simp [bfQ, xT, h0, beginS])) (up_id (by simp [bfQ, s16T, h0, beginS])) rfl rfl rfl rfl rfl)
  have hnf : nfQ (q.sT t (beginS c t (q.th t) item tag v now)) = { nfQ q with it := up (nfQ q).it t item, st := up (nfQ q).st t 0 } := (nf_eq (q := q) (t := t) (h := beginS c t (q.th t) item tag v now) rfl).trans (NF_ext rfl (up_id (by simp [nfQ, hdT, h0, beginS])) (up_id (by simp [nfQ, jnT, h0, beginS])) rfl (up_id (by simp [nfQ, frT, h0, beginS])) (up_id (by simp [nfQ, w9T, h0, beginS])) (up_id (by simp [nfQ, w22T, h0, beginS])) rfl)
  refine ⟨up g t 1, p, _, by rw [hbf]; exact hb, by rw [hnf]; exact hn.gcongr (fun u => by unfold up; split <;> first | exact Iff.rfl | (rename_i e8; rw [e8]; omega)) fun _ _ => rfl, fun u => ?_, i.r⟩
  · by_cases e : u = t
    · subst e
      have hlf := leaf_rng (d := c.de) (t := u)
      have hde := hc.de
      have hsp := hc.sp
      obtain ⟨a1, a2, a3, a4, a5, a6, a7, a8, a9, a10, a11, a12, a13, a14, a15, a16, a17, a18, a19, a20, a21, a22, a23, a24, a25, a26, a27⟩ := i.l u
      clear hb hn hbf hnf i
      simp only [Q.sT, up_eq, beginS, th0]
      constructor <;> grind
    · simp only [Q.sT, up_ne e]; exact i.l u
theorem inv_step {c : Cf} {q : Q} {g p : Int → Int} {S : Int → List En} (i : Inv c q g p S) (hc : CfOk c) {t : Int} (l : Bool) (s : Int) (hp : (q.th t).ph ≠ 0) : ∃ g' p' S', Inv c (stQ c l s t q) g' p' S' := by
  have h := (i.l t).lp
  have h27 : (q.th t).ph = 1 ∨ (q.th t).ph = 2 ∨ (q.th t).ph = 3 ∨ (q.th t).ph = 4 ∨ (q.th t).ph = 5 ∨ (q.th t).ph = 6 ∨ (q.th t).ph = 7 ∨ (q.th t).ph = 8 ∨ (q.th t).ph = 9 ∨ (q.th t).ph = 10 ∨ (q.th t).ph = 11 ∨ (q.th t).ph = 12 ∨ (q.th t).ph = 13 ∨ (q.th t).ph = 14 ∨ (q.th t).ph = 15 ∨ (q.th t).ph = 16 ∨ (q.th t).ph = 17 ∨ (q.th t).ph = 18 ∨ (q.th t).ph = 19 ∨ (q.th t).ph = 20 ∨ (q.th t).ph = 21 ∨ (q.th t).ph = 22 ∨ (q.th t).ph = 23 ∨ (q.th t).ph = 24 ∨ (q.th t).ph = 25 ∨ (q.th t).ph = 26 := by omega
  rcases h27 with e | e | e | e | e | e | e | e | e | e | e | e | e | e | e | e | e | e | e | e | e | e | e | e | e | e
  · exact inv_1 i hc l s e
  · exact inv_2 i hc l s e
  · by_cases h0 : q.cl (q.th t).item = (q.th t).x
    · exact inv_3c i hc l s e h0
    · exact inv_3f i hc l s e h0
  · exact inv_4 i hc l s e
  · by_cases h0 : q.nd (q.th t).item (q.th t).node = 0
    · exact inv_5t i hc l s e h0
    · exact inv_5f i hc l s e h0
  · by_cases h0 : q.nd (q.th t).item (q.th t).node = (q.th t).x
    · exact inv_6j i hc l s e h0
    · exact inv_6f i hc l s e h0
  · exact inv_7 i hc l s e
  · by_cases h0 : q.nd (q.th t).item (headT (q.th t)) = firstS t
    · exact inv_8c i hc l s e h0
    · exact inv_8f i hc l s e h0
  · exact inv_9 i hc l s e
  · exact inv_10 i hc l s e
  · exact inv_11 i hc l s e
  · exact inv_12 i hc l s e
  · exact inv_13 i hc l s e
  · exact inv_14 i hc l s e
  · exact inv_15 i hc l s e
  · exact inv_16 i hc l s e
  · exact inv_17 i hc l s e
  · exact inv_18 i hc l s e
  · exact inv_19 i hc l s e
  · exact inv_20 i hc l s e
  · exact inv_21 i hc l s e
  · exact inv_22 i hc l s e
  · exact inv_23 i hc l s e
  · exact inv_24 i hc l s e
  · exact inv_25 i hc l s e
  · exact inv_26 i hc l s e
/-- A thread that is idle, or waits. -/
def blq (q : Q) (t : Int) : Prop :=
  (q.th t).ph = 0 ∨ ((q.th t).ph = 13 ∧ q.ln t ≠ 5) ∨ ((q.th t).ph = 4 ∧ kindS (q.nd (q.th t).item (q.th t).node) ≠ 1 ∧ kindS (q.nd (q.th t).item (q.th t).node) ≠ 0) ∨
    ((q.th t).ph = 7 ∧ q.nd (q.th t).item (headT (q.th t)) ≠ firstS t ∧ kindS (q.nd (q.th t).item (headT (q.th t))) ≠ 3)
theorem kind_dep {u : Int} (h : 0 ≤ u ∧ u < 16) : kindS (depositedS u) = 3 := by unfold kindS saidS depositedS; grind
theorem kind_0 : kindS 0 = 0 := by decide
theorem kind_z {w : Int} (h : kindS w = 0) : w = 0 := by unfold kindS saidS at h; grind
theorem no_7 {c : Cf} {q : Q} {g p : Int → Int} {S : Int → List En} (i : Inv c q g p S) (hc : CfOk c) (hb : ∀ t, blq q t) : ∀ (m : Nat) (t : Int), (q.th t).ph = 7 → 16 - (m : Int) ≤ headT (q.th t) → False := by
  intro m
  induction m with
  | zero =>
    intro t hp hm
    have l := i.l t
    have hga := l.ga (by omega) (by omega)
    have hh := hd7 (h := q.th t) (by omega) (by omega) hga
    have h1 := (l.hp (by omega) (by omega)).1 (headT (q.th t)) (by
      have h4 : (q.th t).at_.toNat < (q.th t).held.length := by omega
      unfold headT
      rw [List.getD_eq_getElem?_getD, List.getElem?_eq_getElem h4]
      exact List.getElem_mem h4)
    have := p2_le hc.de
    omega
  | succ m ih =>
    intro t hp hm
    have l := i.l t
    have hga := l.ga (by omega) (by omega)
    have hh := hd7 (h := q.th t) (by omega) (by omega) hga
    have hbt : q.nd (q.th t).item (headT (q.th t)) ≠ firstS t ∧ kindS (q.nd (q.th t).item (headT (q.th t))) ≠ 3 := by
      rcases hb t with h | h | h | h
      · omega
      · omega
      · omega
      · exact h.2
    have hn := i.n.n1 t (headT (q.th t)) (by show _ ∈ hdT (q.th t); rw [hh]; simp) (by intro e; have h1 : frT (q.th t) = true := e.1; simp [frT, hp] at h1)
    have hnd : (nfQ q).nd ((nfQ q).it t) (headT (q.th t)) = q.nd (q.th t).item (headT (q.th t)) := rfl
    rw [hnd] at hn
    rcases hn with h | ⟨u, h1, h2, h3⟩ | ⟨u, h1, h2, h3⟩
    · exact hbt.1 h
    · have h2 : jnT (q.th u) = headT (q.th t) := h2
      have lu := i.l u
      have hz := i.n.n10 t (headT (q.th t)) (by show _ ∈ hdT (q.th t); rw [hh]; simp)
      have hpu : 7 ≤ (q.th u).ph ∧ (q.th u).ph ≤ 12 ∧ (q.th u).stop = headT (q.th t) := by
        unfold jnT at h2
        split at h2
        · omega
        · omega
      have hu7 : (q.th u).ph = 7 := by
        rcases hb u with h | h | h | h <;> omega
      have hgu := lu.ga (by omega) (by omega)
      have h5 := (lu.hp (by omega) (by omega)).1 (headT (q.th u)) (by
        have h4 : (q.th u).at_.toNat < (q.th u).held.length := by omega
        unfold headT
        rw [List.getD_eq_getElem?_getD, List.getElem?_eq_getElem h4]
        exact List.getElem_mem h4)
      exact ih u hu7 (by omega)
    · have := i.b.rng u (by omega)
      have := hc.th
      rw [h1] at hbt
      exact hbt.2 (kind_dep (by omega))
theorem no_4 {c : Cf} {q : Q} {g p : Int → Int} {S : Int → List En} (i : Inv c q g p S) (hc : CfOk c) (hb : ∀ t, blq q t) : ∀ (m : Nat) (t : Int), (q.th t).ph = 4 → (q.th t).node ≤ m → False := by
  intro m
  induction m with
  | zero =>
    intro t hp hm
    have := (i.l t).c4 (by omega)
    omega
  | succ m ih =>
    intro t hp hm
    have hbt : kindS (q.nd (q.th t).item (q.th t).node) ≠ 0 := by
      rcases hb t with h | h | h | h
      · omega
      · omega
      · exact h.2.2
      · omega
    obtain ⟨u, h1, h2⟩ := i.n.n2 (q.th t).item (q.th t).node (by intro e; have e : q.nd (q.th t).item (q.th t).node = 0 := e; rw [e] at hbt; exact hbt kind_0)
    have h1 : (q.th t).node ∈ hdT (q.th u) := h1
    have hpu : 4 ≤ (q.th u).ph ∧ (q.th u).ph ≤ 10 ∧ (q.th t).node ∈ (q.th u).held := by
      unfold hdT at h1
      split at h1
      · exact ⟨by omega, by omega, List.mem_of_mem_drop h1⟩
      · simp at h1
    have hu4 : (q.th u).ph = 4 := by
      rcases hb u with h | h | h | h
      · omega
      · omega
      · omega
      · exact (no_7 i hc hb 16 u h.1 (by
          have lu := i.l u
          have hgu := lu.ga (by omega) (by omega)
          have h5 := (lu.hp (by omega) (by omega)).1 (headT (q.th u)) (by
            have h4 : (q.th u).at_.toNat < (q.th u).held.length := by omega
            unfold headT
            rw [List.getD_eq_getElem?_getD, List.getElem?_eq_getElem h4]
            exact List.getElem_mem h4)
          omega)).elim
    have h6 := ((i.l u).c4 (by omega)).2.2.2.2 (q.th t).node hpu.2.2
    exact ih u hu4 (by omega)
theorem only_13 {c : Cf} {q : Q} {g p : Int → Int} {S : Int → List En} (i : Inv c q g p S) (hc : CfOk c) (hb : ∀ t, blq q t) (t : Int) : (q.th t).ph = 0 ∨ ((q.th t).ph = 13 ∧ q.ln t ≠ 5) := by
  rcases hb t with h | h | h | h
  · exact Or.inl h
  · exact Or.inr h
  · exact (no_4 i hc hb (q.th t).node.toNat t h.1 (by have := (i.l t).c4 (by omega); omega)).elim
  · exact (no_7 i hc hb 16 t h.1 (by
      have lu := i.l t
      have hgu := lu.ga (by omega) (by omega)
      have h5 := (lu.hp (by omega) (by omega)).1 (headT (q.th t)) (by
        have h4 : (q.th t).at_.toNat < (q.th t).held.length := by omega
        unfold headT
        rw [List.getD_eq_getElem?_getD, List.getElem?_eq_getElem h4]
        exact List.getElem_mem h4)
      omega)).elim
theorem only_k {c : Cf} {q : Q} {g p : Int → Int} {S : Int → List En} (i : Inv c q g p S) (hc : CfOk c) (hb : ∀ t, blq q t) {t : Int} (h : (q.th t).ph ≠ 0) : g t = 3 := by
  have h13 := only_13 i hc hb
  have ht : (q.th t).ph = 13 ∧ q.ln t ≠ 5 := by rcases h13 t with h1 | h1; exact absurd h1 h; exact h1
  have l := i.l t
  have h23 : g t = 2 ∨ g t = 3 := by
    have h1 := l.l1; have h2 := l.l0; have h3 := l.l4; have h4 := l.l5; have := i.b.gr t
    grind
  rcases h23 with h2 | h3
  · exfalso
    rcases i.n.n5 t h2 with ⟨h4, h5⟩ | ⟨h4, _⟩
    · have h4 : w22T (q.th (p t)) = t := h4
      unfold w22T at h4
      have := h13 (p t)
      split at h4 <;> omega
    · have h4 : (q.th t).stop ∈ hdT (q.th (p t)) := h4
      unfold hdT at h4
      have := h13 (p t)
      split at h4
      · omega
      · simp at h4
  · exact h3
theorem no_dead {c : Cf} {q : Q} {g p : Int → Int} {S : Int → List En} (i : Inv c q g p S) (hc : CfOk c) (hb : ∀ t, blq q t) (t : Int) : (q.th t).ph = 0 := by
  have key : ∀ (m : Nat) (t : Int), (q.th t).ph ≠ 0 → 17 - (m : Int) ≤ (q.th t).batch.length → False := by
    intro m
    induction m with
    | zero =>
      intro t hp hm
      have := (i.b.bl t).1
      have e : (bfQ q).ba t = (q.th t).batch := rfl
      rw [e] at this
      omega
    | succ m ih =>
      intro t hp hm
      have g3 := only_k i hc hb hp
      obtain ⟨k, h1, h2⟩ := i.b.par t g3
      have gp : g (p t) ≠ 0 := by intro e; unfold kiG at h1; rw [if_pos e] at h1; simp at h1
      have hpp : (q.th (p t)).ph ≠ 0 := fun e => gp ((i.l (p t)).l0.2 e)
      have gp3 := only_k i hc hb hpp
      obtain ⟨r, h3, h4⟩ := i.b.tree (p t) (by simp [gp3])
      have hat := i.b.at0 (p t) (by omega)
      unfold kiG at h1
      rw [if_neg gp, hat] at h1
      have h5 := (Seg.len (fun v hv => by
        obtain ⟨r', h6, _⟩ := i.b.tree v (by simp [hv])
        rw [h6]; simp) _ _ _ h4).2 k (by simpa using h1)
      rw [h2] at h5
      have h7 : (q.th (p t)).batch.length = r.length + 1 := by
        have : (bfQ q).ba (p t) = (q.th (p t)).batch := rfl
        rw [← this, h3]; simp
      have h8 : ((bfQ q).ba t).length = (q.th t).batch.length := rfl
      exact ih (p t) hpp (by omega)
  apply Classical.byContradiction
  intro h
  exact key 17 t h (by omega)
/-- How many nodes lie from a node up to the top. -/
def levS (n : Int) : Int := if n < 1 then 0 else if n < 2 then 1 else if n < 4 then 2 else if n < 8 then 3 else 4
theorem lev_par {n : Int} (h : 1 ≤ n ∧ n < 16) : levS (parentS n) = levS n - 1 ∧ 1 ≤ levS n := by
  unfold parentS mxS levS
  rw [if_neg (show ¬ n < 0 by omega)]
  constructor <;> (repeat' split) <;> omega
/-- What of a thread's way is left: own steps, and what it may cost others. -/
def fnl (c : Cf) (h : Th) : Int := 12 + (c.la - h.layer) * (c.sp + 14)
def gth (h : Th) : Int := 14 + 15 * (h.held.length - h.at_)
def phi0 (c : Cf) (h : Th) : Int :=
  if h.ph = 0 then 0
  else if h.ph = 15 then 2 * (h.kids.length - h.at_)
  else if h.ph = 16 then 2 * (h.kids.length - h.at_) - 1
  else 2 * h.kids.length +
    (if h.ph = 1 then 18 + 27 * c.de + c.la * (c.sp + 14)
    else if h.ph = 2 then 12
    else if h.ph = 3 then 11
    else if h.ph = 4 then 17 + 15 * h.held.length + 27 * levS h.node
    else if h.ph = 5 ∨ h.ph = 6 then 16 + 15 * h.held.length + 27 * levS h.node
    else if h.ph = 7 then gth h
    else if h.ph = 8 ∨ h.ph = 9 then gth h - 1
    else if h.ph = 10 then gth h - 4
    else if h.ph = 11 then 14
    else if h.ph = 12 then 13
    else if h.ph = 13 then 2
    else if h.ph = 14 then 1
    else if h.ph = 17 then fnl c h + c.sp + 13
    else if h.ph = 18 then fnl c h + c.sp + 12
    else if h.ph = 19 then fnl c h + c.sp + 11
    else if h.ph = 20 then fnl c h + c.sp + 10
    else if h.ph = 21 then fnl c h + c.sp + 9
    else if h.ph = 22 ∨ h.ph = 24 then fnl c h + c.sp + 8
    else if h.ph = 23 then fnl c h + h.left + 2
    else fnl c h + 1)
/-- Does a thread lean on a word that is another one by now? -/
def stl (q : Q) (t : Int) (h : Th) : Int :=
  if (h.ph = 3 ∧ q.cl h.item ≠ h.x) ∨ (h.ph = 5 ∧ q.nd h.item h.node ≠ 0) ∨ (h.ph = 6 ∧ q.nd h.item h.node ≠ h.x) ∨ (h.ph = 8 ∧ q.nd h.item (headT h) ≠ firstS t) then 2 else 0
def phi (c : Cf) (q : Q) (t : Int) : Int := phi0 c (q.th t) + stl q t (q.th t)
theorem stl_le (q : Q) (t : Int) (h : Th) : 0 ≤ stl q t h ∧ stl q t h ≤ 2 := by unfold stl; split <;> omega
/-- A step goes on, at little cost to others, or none. -/
def Drop (c : Cf) (q q' : Q) (t : Int) : Prop := (phi c q' t + 1 ≤ phi c q t ∧ q'.cl = q.cl ∧ q'.nd = q.nd) ∨ phi c q' t + 11 ≤ phi c q t
theorem phi_17 {c : Cf} {q : Q} {g p : Int → Int} {S : Int → List En} (i : Inv c q g p S) (hc : CfOk c) {t : Int} (s : Int) (hp : (q.th t).ph = 17) : Drop c q (stQ c false s t q) t := by
  unfold stQ
  simp only [hp, Int.reduceEq, ↓reduceIte, false_or, or_false, or_true, true_or, or_self]
  left; refine ⟨?_, rfl, rfl⟩
  simp [phi, phi0, stl, Q.sT, up_eq, hp, fnl, gth]
  omega
theorem phi_18 {c : Cf} {q : Q} {g p : Int → Int} {S : Int → List En} (i : Inv c q g p S) (hc : CfOk c) {t : Int} (s : Int) (hp : (q.th t).ph = 18) : Drop c q (stQ c false s t q) t := by
  unfold stQ
  simp only [hp, Int.reduceEq, ↓reduceIte, false_or, or_false, or_true, true_or, or_self]
  left; refine ⟨?_, rfl, rfl⟩
  simp [phi, phi0, stl, Q.sT, up_eq, hp, fnl, gth]
  omega
theorem phi_11 {c : Cf} {q : Q} {g p : Int → Int} {S : Int → List En} (i : Inv c q g p S) (hc : CfOk c) {t : Int} (s : Int) (hp : (q.th t).ph = 11) : Drop c q (stQ c false s t q) t := by
  unfold stQ
  simp only [hp, Int.reduceEq, ↓reduceIte, false_or, or_false, or_true, true_or, or_self]
  left; refine ⟨?_, rfl, rfl⟩
  simp [phi, phi0, stl, Q.sT, up_eq, hp, fnl, gth]
  omega
theorem phi_24 {c : Cf} {q : Q} {g p : Int → Int} {S : Int → List En} (i : Inv c q g p S) (hc : CfOk c) {t : Int} (s : Int) (hp : (q.th t).ph = 24) : Drop c q (stQ c false s t q) t := by
  unfold stQ
  simp only [hp, Int.reduceEq, ↓reduceIte, false_or, or_false, or_true, true_or, or_self]
  left; refine ⟨?_, rfl, rfl⟩
  simp [phi, phi0, stl, Q.sT, up_eq, hp, fnl, gth]
  omega
theorem phi_19 {c : Cf} {q : Q} {g p : Int → Int} {S : Int → List En} (i : Inv c q g p S) (hc : CfOk c) {t : Int} (s : Int) (hp : (q.th t).ph = 19) : Drop c q (stQ c false s t q) t := by
  unfold stQ
  simp only [hp, Int.reduceEq, ↓reduceIte, false_or, or_false, or_true, true_or, or_self]
  have hsp := hc.sp
  split
  · left; refine ⟨?_, rfl, rfl⟩
    simp [phi, phi0, stl, Q.sT, up_eq, hp, fnl, gth]
    omega
  · left; refine ⟨?_, rfl, rfl⟩
    simp [phi, phi0, stl, Q.sT, up_eq, hp, fnl, gth]
    omega
theorem phi_20 {c : Cf} {q : Q} {g p : Int → Int} {S : Int → List En} (i : Inv c q g p S) (hc : CfOk c) {t : Int} (s : Int) (hp : (q.th t).ph = 20) : Drop c q (stQ c false s t q) t := by
  unfold stQ
  simp only [hp, Int.reduceEq, ↓reduceIte, false_or, or_false, or_true, true_or, or_self]
  have hf : 0 ≤ (c.la - (q.th t).layer) * (c.sp + 14) := Int.mul_nonneg (by have := (i.l t).lf (by omega); omega) (by have := hc.sp; omega)
  have hsp := hc.sp
  split
  · left; refine ⟨?_, rfl, rfl⟩
    simp [phi, phi0, stl, Q.sT, up_eq, hp, fnl, gth]
    omega
  · left; refine ⟨?_, rfl, rfl⟩
    simp [phi, phi0, stl, Q.sT, up_eq, hp, fnl, gth]
    omega
theorem phi_21 {c : Cf} {q : Q} {g p : Int → Int} {S : Int → List En} (i : Inv c q g p S) (hc : CfOk c) {t : Int} (s : Int) (hp : (q.th t).ph = 21) : Drop c q (stQ c false s t q) t := by
  unfold stQ
  simp only [hp, Int.reduceEq, ↓reduceIte, false_or, or_false, or_true, true_or, or_self]
  have hf : 0 ≤ (c.la - (q.th t).layer) * (c.sp + 14) := Int.mul_nonneg (by have := (i.l t).lf (by omega); omega) (by have := hc.sp; omega)
  have hsp := hc.sp
  have hw := ((i.l t).w2 (by omega)).2.2
  split
  · left; refine ⟨?_, rfl, rfl⟩
    simp [phi, phi0, stl, Q.sT, up_eq, hp, fnl, gth]
    omega
  · left; refine ⟨?_, rfl, rfl⟩
    simp [phi, phi0, stl, Q.sT, up_eq, hp, fnl, gth]
    omega
theorem phi_22 {c : Cf} {q : Q} {g p : Int → Int} {S : Int → List En} (i : Inv c q g p S) (hc : CfOk c) {t : Int} (s : Int) (hp : (q.th t).ph = 22) : Drop c q (stQ c false s t q) t := by
  unfold stQ
  simp only [hp, Int.reduceEq, ↓reduceIte, false_or, or_false, or_true, true_or, or_self]
  have hf : 0 ≤ (c.la - (q.th t).layer) * (c.sp + 14) := Int.mul_nonneg (by have := (i.l t).lf (by omega); omega) (by have := hc.sp; omega)
  have hsp := hc.sp
  left; refine ⟨?_, rfl, rfl⟩
  simp [phi, phi0, stl, Q.sT, up_eq, hp, fnl, gth, addK]
  omega
theorem phi_23 {c : Cf} {q : Q} {g p : Int → Int} {S : Int → List En} (i : Inv c q g p S) (hc : CfOk c) {t : Int} (s : Int) (hp : (q.th t).ph = 23) : Drop c q (stQ c false s t q) t := by
  unfold stQ
  simp only [hp, Int.reduceEq, ↓reduceIte, false_or, or_false, or_true, true_or, or_self]
  have hf : 0 ≤ (c.la - (q.th t).layer) * (c.sp + 14) := Int.mul_nonneg (by have := (i.l t).lf (by omega); omega) (by have := hc.sp; omega)
  have hsp := hc.sp
  split
  · left; refine ⟨?_, rfl, rfl⟩
    simp [phi, phi0, stl, Q.sT, up_eq, hp, fnl, gth]
    have := (i.l t).le
    omega
  · split
    · left; refine ⟨?_, rfl, rfl⟩
      simp [phi, phi0, stl, Q.sT, up_eq, hp, fnl, gth]
      omega
    · left; refine ⟨?_, rfl, rfl⟩
      simp [phi, phi0, stl, Q.sT, up_eq, hp, fnl, gth]
      have := (i.l t).le
      omega
theorem phi_on {c : Cf} {q : Q} {t : Int} {h : Th} (h1 : 1 ≤ h.layer ∧ h.layer ≤ c.la) (hsp : 0 ≤ c.sp) : phi c (onwardQ c false q t h) t + 1 ≤ 2 * h.kids.length + fnl c h + 1 ∧ (onwardQ c false q t h).cl = q.cl ∧ (onwardQ c false q t h).nd = q.nd := by
  unfold onwardQ
  split
  · refine ⟨?_, rfl, rfl⟩
    have e : (c.la - h.layer) * (c.sp + 14) = (c.la - (h.layer + 1)) * (c.sp + 14) + (c.sp + 14) := by
      rw [show c.la - h.layer = (c.la - (h.layer + 1)) + 1 by omega, Int.add_mul, Int.one_mul]
    simp [phi, phi0, stl, Q.sT, up_eq, fnl]
    omega
  · refine ⟨?_, rfl, rfl⟩
    have hf : 0 ≤ (c.la - h.layer) * (c.sp + 14) := Int.mul_nonneg (by omega) (by omega)
    simp [phi, phi0, stl, Q.sT, up_eq, fnl]
    omega
theorem phi_26 {c : Cf} {q : Q} {g p : Int → Int} {S : Int → List En} (i : Inv c q g p S) (hc : CfOk c) {t : Int} (s : Int) (hp : (q.th t).ph = 26) : Drop c q (stQ c false s t q) t := by
  unfold stQ
  simp only [hp, Int.reduceEq, ↓reduceIte, false_or, or_false, or_true, true_or, or_self]
  have hf : 0 ≤ (c.la - (q.th t).layer) * (c.sp + 14) := Int.mul_nonneg (by have := (i.l t).lf (by omega); omega) (by have := hc.sp; omega)
  have hsp := hc.sp
  split
  · obtain ⟨h1, h2, h3⟩ := phi_on (c := c) (q := { q with ln := up q.ln t 0 }) (t := t) (h := { q.th t with ph := 26, width := mxS 1 ((q.th t).width / 2) }) ((i.l t).lf (by omega)) hsp.1
    left; refine ⟨?_, h2, h3⟩
    have : phi c q t = 2 * (q.th t).kids.length + fnl c (q.th t) + 1 := by simp [phi, phi0, stl, hp]; omega
    rw [this]; exact h1
  · left; refine ⟨?_, rfl, rfl⟩
    simp [phi, phi0, stl, Q.sT, up_eq, hp, fnl, gth]
    omega
theorem phi_down {c : Cf} {q : Q} {t : Int} {h : Th} (h0 : 0 ≤ h.at_ ∧ h.at_ ≤ h.held.length) : phi c (downQ q t h) t ≤ 2 * h.kids.length + gth h := by
  unfold downQ
  split
  · simp [phi, phi0, stl, Q.sT, up_eq, gth]
  · split
    · simp [phi, phi0, stl, Q.sT, up_eq, gth]; omega
    · simp [phi, phi0, stl, Q.sT, up_eq, gth]; omega
theorem phi_set {c : Cf} {q : Q} {t : Int} {h : Th} (h0 : 0 ≤ h.at_ ∧ h.at_ ≤ h.kids.length) : phi c (settleQ q t h) t ≤ 2 * (h.kids.length - h.at_) := by
  unfold settleQ
  split
  · simp [phi, phi0, stl, Q.sT, up_eq]
  · simp [phi, phi0, stl, Q.sT, up_eq]; omega
theorem set_cn (q : Q) (t : Int) (h : Th) : (settleQ q t h).cl = q.cl ∧ (settleQ q t h).nd = q.nd := by unfold settleQ; split <;> exact ⟨rfl, rfl⟩
theorem phi_com {c : Cf} {q : Q} {t : Int} {h : Th} (x : Int) : phi c (commitQ c q t h x) t ≤ 2 * h.kids.length ∧ (commitQ c q t h x).cl = q.cl ∧ (commitQ c q t h x).nd = q.nd := by
  unfold commitQ
  refine ⟨?_, (set_cn _ _ _).1, (set_cn _ _ _).2⟩
  have := phi_set (c := c) (q := { q with cm := setC q.cm h.batch, P := setP q.P h.batch x c.lo c.hi }) (t := t) (h := { h with x := x, at_ := 0 }) (by simp)
  simpa using this
theorem phi_25 {c : Cf} {q : Q} {g p : Int → Int} {S : Int → List En} (i : Inv c q g p S) (hc : CfOk c) {t : Int} (s : Int) (hp : (q.th t).ph = 25) : Drop c q (stQ c false s t q) t := by
  unfold stQ
  simp only [hp, Int.reduceEq, ↓reduceIte, false_or, or_false, or_true, true_or, or_self]
  have hf : 0 ≤ (c.la - (q.th t).layer) * (c.sp + 14) := Int.mul_nonneg (by have := (i.l t).lf (by omega); omega) (by have := hc.sp; omega)
  have hsp := hc.sp
  split
  · obtain ⟨h1, h2, h3⟩ := phi_com (c := c) (q := q) (t := t) (h := q.th t) (q.cl (q.th t).item)
    left; refine ⟨?_, h2, h3⟩
    have : phi c q t = 2 * (q.th t).kids.length + fnl c (q.th t) + 1 := by simp [phi, phi0, stl, hp]; omega
    unfold fnl at this
    omega
  · obtain ⟨h1, h2, h3⟩ := phi_on (c := c) (q := q) (t := t) (h := q.th t) ((i.l t).lf (by omega)) hsp.1
    left; refine ⟨?_, h2, h3⟩
    have : phi c q t = 2 * (q.th t).kids.length + fnl c (q.th t) + 1 := by simp [phi, phi0, stl, hp]; omega
    rw [this]; exact h1
theorem phi_2 {c : Cf} {q : Q} {g p : Int → Int} {S : Int → List En} (i : Inv c q g p S) (hc : CfOk c) {t : Int} (s : Int) (hp : (q.th t).ph = 2) : Drop c q (stQ c false s t q) t := by
  unfold stQ
  simp only [hp, Int.reduceEq, ↓reduceIte, false_or, or_false, or_true, true_or, or_self]
  split
  · obtain ⟨h1, h2, h3⟩ := phi_com (c := c) (q := q) (t := t) (h := q.th t) (q.cl (q.th t).item)
    left; refine ⟨?_, h2, h3⟩
    have : phi c q t = 2 * (q.th t).kids.length + 12 := by simp [phi, phi0, stl, hp]
    omega
  · left; refine ⟨?_, rfl, rfl⟩
    simp [phi, phi0, stl, Q.sT, up_eq, hp, fnl, gth]
    omega
theorem phi_3 {c : Cf} {q : Q} {g p : Int → Int} {S : Int → List En} (i : Inv c q g p S) (hc : CfOk c) {t : Int} (s : Int) (hp : (q.th t).ph = 3) : Drop c q (stQ c false s t q) t := by
  unfold stQ
  simp only [hp, Int.reduceEq, ↓reduceIte, false_or, or_false, or_true, true_or, or_self]
  split
  · rename_i h
    obtain ⟨h1, h2, h3⟩ := phi_com (c := c) (q := { q with cl := up q.cl (q.th t).item (q.th t).y }) (t := t) (h := q.th t) (q.th t).x
    right
    have : phi c q t = 2 * (q.th t).kids.length + 11 := by simp [phi, phi0, stl, hp, h]
    omega
  · rename_i h
    left; refine ⟨?_, rfl, rfl⟩
    simp [phi, phi0, stl, Q.sT, up_eq, hp, h]
    omega
theorem phi_14 {c : Cf} {q : Q} {g p : Int → Int} {S : Int → List En} (i : Inv c q g p S) (hc : CfOk c) {t : Int} (s : Int) (hp : (q.th t).ph = 14) : Drop c q (stQ c false s t q) t := by
  unfold stQ
  simp only [hp, Int.reduceEq, ↓reduceIte, false_or, or_false, or_true, true_or, or_self]
  left; refine ⟨?_, (set_cn _ _ _).1, (set_cn _ _ _).2⟩
  have := phi_set (c := c) (q := q) (t := t) (h := { q.th t with x := q.rs t, at_ := 0 }) (by simp)
  have h2 : phi c q t = 2 * (q.th t).kids.length + 1 := by simp [phi, phi0, stl, hp]
  simp only [hp] at this
  rw [h2]
  have e : (0 : Int) ≤ 0 := by omega
  simp only [Int.sub_zero] at this
  omega
theorem phi_15 {c : Cf} {q : Q} {g p : Int → Int} {S : Int → List En} (i : Inv c q g p S) (hc : CfOk c) {t : Int} (s : Int) (hp : (q.th t).ph = 15) : Drop c q (stQ c false s t q) t := by
  unfold stQ
  simp only [hp, Int.reduceEq, ↓reduceIte, false_or, or_false, or_true, true_or, or_self]
  have l := i.l t
  have g5 : g t = 5 := by have h1 := l.l1; have h2 := l.l2; have h3 := l.l4; have h4 := l.l0; have := i.b.gr t; grind
  have h5 := (l.l5 g5).2
  left; refine ⟨?_, rfl, rfl⟩
  simp [phi, phi0, stl, Q.sT, up_eq, hp]
theorem phi_16 {c : Cf} {q : Q} {g p : Int → Int} {S : Int → List En} (i : Inv c q g p S) (hc : CfOk c) {t : Int} (s : Int) (hp : (q.th t).ph = 16) : Drop c q (stQ c false s t q) t := by
  unfold stQ
  simp only [hp, Int.reduceEq, ↓reduceIte, false_or, or_false, or_true, true_or, or_self]
  have l := i.l t
  have g5 : g t = 5 := by have h1 := l.l1; have h2 := l.l2; have h3 := l.l4; have h4 := l.l0; have := i.b.gr t; grind
  have h5 := (l.l5 g5).2
  left; refine ⟨?_, (set_cn _ _ _).1, (set_cn _ _ _).2⟩
  have := phi_set (c := c) (q := { q with ln := up q.ln (kidT (q.th t)).t 5 }) (t := t) (h := { q.th t with at_ := (q.th t).at_ + 1 }) (by simp; omega)
  have h2 : phi c q t = 2 * ((q.th t).kids.length - (q.th t).at_) - 1 := by simp [phi, phi0, stl, hp]
  simp only [hp] at this
  rw [h2]
  omega
theorem phi_1 {c : Cf} {q : Q} {g p : Int → Int} {S : Int → List En} (i : Inv c q g p S) (hc : CfOk c) {t : Int} (s : Int) (hp : (q.th t).ph = 1) : Drop c q (stQ c false s t q) t := by
  unfold stQ
  simp only [hp, Int.reduceEq, ↓reduceIte, false_or, or_false, or_true, true_or, or_self]
  have h1 := (i.l t).c1 hp
  have hsp := hc.sp
  have hla := hc.la
  have hde := hc.de
  have hf : 0 ≤ c.la * (c.sp + 14) := Int.mul_nonneg hla.1 (by omega)
  have hlev : 0 < c.de → levS (q.th t).node ≤ c.de := fun hd => by
    have h2 := h1.2.2.2.2 hd
    have h3 : c.de = 1 ∨ c.de = 2 ∨ c.de = 3 ∨ c.de = 4 := by omega
    unfold levS
    rcases h3 with e | e | e | e <;> simp [e, p2] at h2 ⊢ <;> (repeat' split) <;> omega
  have hph : phi c q t = 2 * (q.th t).kids.length + (18 + 27 * c.de + c.la * (c.sp + 14)) := by simp [phi, phi0, stl, hp]
  rw [show startQ c { q with ln := up q.ln t 0 } t (q.th t) = startQ c { q with ln := up q.ln t 0 } t (q.th t) from rfl]
  unfold startQ
  split
  · rename_i h2
    left; refine ⟨?_, rfl, rfl⟩
    rw [hph]
    simp [phi, phi0, stl, Q.sT, up_eq, h1.1]
    have := hlev h2.2
    omega
  · split
    · rename_i h2
      left; refine ⟨?_, rfl, rfl⟩
      rw [hph]
      simp [phi, phi0, stl, Q.sT, up_eq, fnl]
      have e : c.la * (c.sp + 14) = (c.la - 1) * (c.sp + 14) + (c.sp + 14) := by rw [Int.sub_mul, Int.one_mul]; omega
      omega
    · left; refine ⟨?_, rfl, rfl⟩
      rw [hph]
      simp [phi, phi0, stl, Q.sT, up_eq]
      omega
theorem phi_13 {c : Cf} {q : Q} {g p : Int → Int} {S : Int → List En} (i : Inv c q g p S) (hc : CfOk c) {t : Int} (s : Int) (hp : (q.th t).ph = 13) : blq q t ∨ Drop c q (stQ c false s t q) t := by
  unfold stQ
  simp only [hp, Int.reduceEq, ↓reduceIte, false_or, or_false, or_true, true_or, or_self]
  split
  · right; left; refine ⟨?_, rfl, rfl⟩
    simp [phi, phi0, stl, Q.sT, up_eq, hp]
    omega
  · rename_i h
    exact Or.inl (Or.inr (Or.inl ⟨hp, h⟩))
theorem phi_4 {c : Cf} {q : Q} {g p : Int → Int} {S : Int → List En} (i : Inv c q g p S) (hc : CfOk c) {t : Int} (s : Int) (hp : (q.th t).ph = 4) : blq q t ∨ Drop c q (stQ c false s t q) t := by
  unfold stQ
  simp only [hp, Int.reduceEq, ↓reduceIte, false_or, or_false, or_true, true_or, or_self]
  split
  · rename_i h
    right; left; refine ⟨?_, rfl, rfl⟩
    simp [phi, phi0, stl, Q.sT, up_eq, hp]
    omega
  · rename_i h1
    split
    · rename_i h
      right; left; refine ⟨?_, rfl, rfl⟩
      simp [phi, phi0, stl, Q.sT, up_eq, hp, kind_z h]
      omega
    · rename_i h2
      exact Or.inl (Or.inr (Or.inr (Or.inl ⟨hp, h1, h2⟩)))
theorem phi_5 {c : Cf} {q : Q} {g p : Int → Int} {S : Int → List En} (i : Inv c q g p S) (hc : CfOk c) {t : Int} (s : Int) (hp : (q.th t).ph = 5) : Drop c q (stQ c false s t q) t := by
  unfold stQ
  simp only [hp, Int.reduceEq, ↓reduceIte, false_or, or_false, or_true, true_or, or_self]
  have h4 := (i.l t).c4 (by omega)
  have hl := lev_par (n := (q.th t).node) (by have := p2_le hc.de; omega)
  split
  · rename_i h
    right
    have hph : phi c q t = 2 * (q.th t).kids.length + (16 + 15 * (q.th t).held.length + 27 * levS (q.th t).node) := by simp [phi, phi0, stl, hp, h]
    rw [hph]
    unfold takenQ
    split
    · simp [phi, phi0, stl, Q.sT, up_eq]
      omega
    · have := phi_down (c := c) (q := { q with nd := up2 q.nd (q.th t).item (q.th t).node (firstS t) }) (t := t) (h := { q.th t with ph := 4, held := (q.th t).held ++ [(q.th t).node], node := parentS (q.th t).node, at_ := 0 }) (by simp; omega)
      simp [gth] at this
      simp only [] 
      omega
  · rename_i h
    left; refine ⟨?_, rfl, rfl⟩
    simp [phi, phi0, stl, Q.sT, up_eq, hp, h]
    omega
theorem phi_6 {c : Cf} {q : Q} {g p : Int → Int} {S : Int → List En} (i : Inv c q g p S) (hc : CfOk c) {t : Int} (s : Int) (hp : (q.th t).ph = 6) : Drop c q (stQ c false s t q) t := by
  unfold stQ
  simp only [hp, Int.reduceEq, ↓reduceIte, false_or, or_false, or_true, true_or, or_self]
  have h4 := (i.l t).c4 (by omega)
  have hl := lev_par (n := (q.th t).node) (by have := p2_le hc.de; omega)
  split
  · rename_i h
    right
    have hph : phi c q t = 2 * (q.th t).kids.length + (16 + 15 * (q.th t).held.length + 27 * levS (q.th t).node) := by simp [phi, phi0, stl, hp, h]
    rw [hph]
    have := phi_down (c := c) (q := { q with nd := up2 q.nd (q.th t).item (q.th t).node (joinedS t) }) (t := t) (h := { q.th t with ph := 4, stop := (q.th t).node, at_ := 0 }) (by simp)
    simp [gth] at this
    omega
  · rename_i h
    left; refine ⟨?_, rfl, rfl⟩
    simp [phi, phi0, stl, Q.sT, up_eq, hp, h]
    omega
theorem phi_7 {c : Cf} {q : Q} {g p : Int → Int} {S : Int → List En} (i : Inv c q g p S) (hc : CfOk c) {t : Int} (s : Int) (hp : (q.th t).ph = 7) : blq q t ∨ Drop c q (stQ c false s t q) t := by
  unfold stQ
  simp only [hp, Int.reduceEq, ↓reduceIte, false_or, or_false, or_true, true_or, or_self]
  split
  · rename_i h
    right; left; refine ⟨?_, rfl, rfl⟩
    have hh : headT ({ q.th t with ph := 8 } : Th) = headT (q.th t) := rfl
    simp [phi, phi0, stl, Q.sT, up_eq, hp, hh, h, gth]
    omega
  · rename_i h1
    split
    · right; left; refine ⟨?_, rfl, rfl⟩
      simp [phi, phi0, stl, Q.sT, up_eq, hp, gth]
      omega
    · rename_i h2
      exact Or.inl (Or.inr (Or.inr (Or.inr ⟨hp, h1, h2⟩)))
theorem phi_8 {c : Cf} {q : Q} {g p : Int → Int} {S : Int → List En} (i : Inv c q g p S) (hc : CfOk c) {t : Int} (s : Int) (hp : (q.th t).ph = 8) : Drop c q (stQ c false s t q) t := by
  unfold stQ
  simp only [hp, Int.reduceEq, ↓reduceIte, false_or, or_false, or_true, true_or, or_self]
  have hga := (i.l t).ga (by omega) (by omega)
  split
  · rename_i h
    right
    have hph : phi c q t = 2 * (q.th t).kids.length + (gth (q.th t) - 1) := by simp [phi, phi0, stl, hp, h]
    rw [hph]
    have := phi_down (c := c) (q := { q with nd := up2 q.nd (q.th t).item (headT (q.th t)) 0 }) (t := t) (h := { q.th t with ph := 8, at_ := (q.th t).at_ + 1 }) (by simp; omega)
    simp only [gth] at this ⊢
    omega
  · rename_i h
    left; refine ⟨?_, rfl, rfl⟩
    simp [phi, phi0, stl, Q.sT, up_eq, hp, h, gth]
    omega
theorem phi_9 {c : Cf} {q : Q} {g p : Int → Int} {S : Int → List En} (i : Inv c q g p S) (hc : CfOk c) {t : Int} (s : Int) (hp : (q.th t).ph = 9) : Drop c q (stQ c false s t q) t := by
  unfold stQ
  simp only [hp, Int.reduceEq, ↓reduceIte, false_or, or_false, or_true, true_or, or_self]
  left; refine ⟨?_, rfl, rfl⟩
  simp [phi, phi0, stl, Q.sT, up_eq, hp, addK, gth]
  omega
theorem phi_10 {c : Cf} {q : Q} {g p : Int → Int} {S : Int → List En} (i : Inv c q g p S) (hc : CfOk c) {t : Int} (s : Int) (hp : (q.th t).ph = 10) : Drop c q (stQ c false s t q) t := by
  unfold stQ
  simp only [hp, Int.reduceEq, ↓reduceIte, false_or, or_false, or_true, true_or, or_self]
  have hga := (i.l t).ga (by omega) (by omega)
  right
  have hph : phi c q t = 2 * (q.th t).kids.length + (gth (q.th t) - 4) := by simp [phi, phi0, stl, hp]
  rw [hph]
  have := phi_down (c := c) (q := { q with nd := up2 q.nd (q.th t).item (headT (q.th t)) 0 }) (t := t) (h := { q.th t with ph := 10, at_ := (q.th t).at_ + 1 }) (by simp; omega)
  simp only [gth] at this ⊢
  omega
theorem phi_12 {c : Cf} {q : Q} {g p : Int → Int} {S : Int → List En} (i : Inv c q g p S) (hc : CfOk c) {t : Int} (s : Int) (hp : (q.th t).ph = 12) : Drop c q (stQ c false s t q) t := by
  unfold stQ
  simp only [hp, Int.reduceEq, ↓reduceIte, false_or, or_false, or_true, true_or, or_self]
  right
  simp [phi, phi0, stl, Q.sT, up_eq, hp]
  omega
theorem phi_step {c : Cf} {q : Q} {g p : Int → Int} {S : Int → List En} (i : Inv c q g p S) (hc : CfOk c) {t : Int} (s : Int) (hp : (q.th t).ph ≠ 0) : blq q t ∨ Drop c q (stQ c false s t q) t := by
  have h := (i.l t).lp
  have h27 : (q.th t).ph = 1 ∨ (q.th t).ph = 2 ∨ (q.th t).ph = 3 ∨ (q.th t).ph = 4 ∨ (q.th t).ph = 5 ∨ (q.th t).ph = 6 ∨ (q.th t).ph = 7 ∨ (q.th t).ph = 8 ∨ (q.th t).ph = 9 ∨ (q.th t).ph = 10 ∨ (q.th t).ph = 11 ∨ (q.th t).ph = 12 ∨ (q.th t).ph = 13 ∨ (q.th t).ph = 14 ∨ (q.th t).ph = 15 ∨ (q.th t).ph = 16 ∨ (q.th t).ph = 17 ∨ (q.th t).ph = 18 ∨ (q.th t).ph = 19 ∨ (q.th t).ph = 20 ∨ (q.th t).ph = 21 ∨ (q.th t).ph = 22 ∨ (q.th t).ph = 23 ∨ (q.th t).ph = 24 ∨ (q.th t).ph = 25 ∨ (q.th t).ph = 26 := by omega
  rcases h27 with e | e | e | e | e | e | e | e | e | e | e | e | e | e | e | e | e | e | e | e | e | e | e | e | e | e
  · exact Or.inr (phi_1 i hc s e)
  · exact Or.inr (phi_2 i hc s e)
  · exact Or.inr (phi_3 i hc s e)
  · exact phi_4 i hc s e
  · exact Or.inr (phi_5 i hc s e)
  · exact Or.inr (phi_6 i hc s e)
  · exact phi_7 i hc s e
  · exact Or.inr (phi_8 i hc s e)
  · exact Or.inr (phi_9 i hc s e)
  · exact Or.inr (phi_10 i hc s e)
  · exact Or.inr (phi_11 i hc s e)
  · exact Or.inr (phi_12 i hc s e)
  · exact phi_13 i hc s e
  · exact Or.inr (phi_14 i hc s e)
  · exact Or.inr (phi_15 i hc s e)
  · exact Or.inr (phi_16 i hc s e)
  · exact Or.inr (phi_17 i hc s e)
  · exact Or.inr (phi_18 i hc s e)
  · exact Or.inr (phi_19 i hc s e)
  · exact Or.inr (phi_20 i hc s e)
  · exact Or.inr (phi_21 i hc s e)
  · exact Or.inr (phi_22 i hc s e)
  · exact Or.inr (phi_23 i hc s e)
  · exact Or.inr (phi_24 i hc s e)
  · exact Or.inr (phi_25 i hc s e)
  · exact Or.inr (phi_26 i hc s e)
end Go.Proofs.YtgbkjnikcnjbkaaGreat.Top
namespace Go.Proofs.YtgbkjnikcnjbkaaGreatW.PrintWords
open Go.RowKit
set_option linter.unusedSimpArgs false
set_option linter.unusedVariables false
/-- A fact that the walk's simp doesn't look into. -/
structure Aside0 (p : Prop) : Prop where mk :: (out : p)
/-- The world is the old one, some orders having been drawn. -/
structure Drawn0 (w w' : World) : Prop where mk :: (out : ∃ n, w' = w.drewN n)
theorem Drawn0.refl (w : World) : Drawn0 w w := ⟨⟨0, rfl⟩⟩
theorem Drawn0.step {w w' : World} (h : Drawn0 w w') (n : Nat) : Drawn0 w (w'.drewN n) := by
  obtain ⟨m, rfl⟩ := h
  exact ⟨⟨m + n, World.drewN_drewN ..⟩⟩
theorem Drawn0.below {w w' : World} (h : Drawn0 w w') : Below w.heap.size w w' := by
  obtain ⟨n, rfl⟩ := h
  induction n with
  | zero => exact Below.refl _ _
  | succ n ih => rw [← World.drew_drewN]; exact ih.drew
theorem below_then {B : Nat} {w w1 w2 : World} (h : Below B w w1) (hB : B ≤ w1.heap.size) (k : Below w1.heap.size w1 w2) : Below B w w2 :=
  h.trans ⟨k.os, k.tape, k.output, k.size, fun i hi => k.block i (Nat.lt_of_lt_of_le hi hB)⟩
theorem pw_below_grown {B : Nat} {w w1 : World} (h : Below B w w1) (row : Option Nat) (hB : B ≤ w1.heap.size) {w2 : World} (hg : w1.grownBy w2 row) (hr : ∀ k, row = some k → B ≤ k) : Below B w w2 := h.grown hg hB hr
theorem below_step {w W w2 : World} (h : Below w.heap.size w W) (k : Below W.heap.size W w2) : Below w.heap.size w w2 := below_then h h.size k
theorem below_drew1 {base : Nat} {w W : World} (h : Below base w W) : Below base w W.drew := h.drew
end Go.Proofs.YtgbkjnikcnjbkaaGreatW.PrintWords
namespace Go.Proofs.YtgbkjnikcnjbkaaGreatW.PrintLast
section
section
variable {P : Program} {ops : Array Oper} {Q : Exit → Act → World → Prop} {md : Region.Mode} {S : World → Prop} {ds : List Nat}
/-- Operation d waits for operation i, by a chain of at most 'fuel' edges. -/
def Region.reachB (md : Region.Mode) (ops : Array Oper) (i : Nat) : Nat → Nat → Bool
  | 0, _ => false
  | fuel + 1, d => match ops[d]? with
    | some o => o.after.any fun e => Region.binds md e && (e.on == i || Region.reachB md ops i fuel e.on)
    | none => false
/-- What is listed is closed under the edges. -/
def Region.closedB (md : Region.Mode) (ops : Array Oper) (listed : Array Bool) : Bool :=
  (List.range ops.size).all fun j => !listed.getD j false || match ops[j]? with
    | some o => o.after.all fun e => !Region.binds md e || listed.getD e.on false
    | none => true
/-- Each of ds that has not come up yet waits for number i. -/
def Region.lastB (md : Region.Mode) (ops : Array Oper) (listed : Array Bool) (ds : List Nat) (i : Nat) : Bool :=
  ds.all fun d => listed.getD d true || Region.reachB md ops i ops.size d
def ListedClosed (md : Region.Mode) (ops : Array Oper) (listed : Array Bool) : Prop :=
  ∀ j oj, ops[j]? = some oj → listed.getD j false = true → ∀ e ∈ oj.after, Region.binds md e = true → listed.getD e.on false = true
theorem Region.closedB_spec {listed : Array Bool} (h : Region.closedB md ops listed = true) : ListedClosed md ops listed := by
  intro j oj hj hl e he hb
  have hlt : j < ops.size := (Array.getElem?_eq_some_iff.1 hj).1
  have h1 := List.all_eq_true.1 h j (List.mem_range.2 hlt)
  simp only [hl, hj, Bool.not_true, Bool.false_or] at h1
  have h2 := Array.all_eq_true_iff_forall_mem.1 h1 e he
  simpa [hb] using h2
theorem ListedClosed.set {listed : Array Bool} {i : Nat} (h : ListedClosed md ops listed) (hi : i ∈ Region.ready md ops listed) : ListedClosed md ops (listed.setIfInBounds i true) := by
  obtain ⟨_, oi, hoi, hall⟩ := mem_ready.1 hi
  intro j oj hj hl e he hb
  by_cases hij : i = j
  · subst hij
    have : oj = oi := Option.some.inj (hj.symm.trans hoi)
    subst this
    exact getD_set_true (hall e he hb)
  · rw [getD_set_ne false hij] at hl
    exact getD_set_true (h j oj hj hl e he hb)
theorem Region.reach_listed {listed : Array Bool} {i : Nat} (hc : ListedClosed md ops listed) : ∀ (fuel d : Nat), Region.reachB md ops i fuel d = true → listed.getD d false = true → listed.getD i false = true
  | 0, _, h, _ => by simp [Region.reachB] at h
  | fuel + 1, d, h, hl => by
    unfold Region.reachB at h
    cases ho : ops[d]? with
    | none => rw [ho] at h; simp at h
    | some o =>
      rw [ho] at h
      obtain ⟨e, he, h1⟩ := Array.any_eq_true'.1 h
      simp only [Bool.and_eq_true, Bool.or_eq_true, beq_iff_eq] at h1
      have hle := hc d o ho hl e he h1.1
      rcases h1.2 with h2 | h2
      · rw [← h2]; exact hle
      · exact Region.reach_listed hc fuel e.on h2 hle
/-- What waits for i cannot come up before i is listed. -/
theorem Region.reach_not_ready {listed : Array Bool} {i d fuel : Nat} (hc : ListedClosed md ops listed) (hr : Region.reachB md ops i fuel d = true) (hun : listed.getD i true = false) : d ∉ Region.ready md ops listed := by
  intro hd
  obtain ⟨_, o, ho, hall⟩ := mem_ready.1 hd
  have hi : listed.getD i false = true := by
    cases fuel with
    | zero => simp [Region.reachB] at hr
    | succ n =>
      unfold Region.reachB at hr
      rw [ho] at hr
      obtain ⟨e, he, h1⟩ := Array.any_eq_true'.1 hr
      simp only [Bool.and_eq_true, Bool.or_eq_true, beq_iff_eq] at h1
      have hle := hall e he h1.1
      rcases h1.2 with h2 | h2
      · rw [← h2]; exact hle
      · exact Region.reach_listed hc n e.on h2 hle
  rcases Nat.lt_or_ge i listed.size with h' | h'
  · simp [h'] at hun hi
    rw [hun] at hi
    cases hi
  · simp [Array.getElem?_eq_none h'] at hun
/-- Whatever order is picked from here on, AND 'S' HOLDS BEHIND EVERY OPERATION THAT IS CARRIED OUT, those of ds apart. -/
def wpAnyLast (P : Program) (md : Region.Mode) (ops : Array Oper) (Q : Exit → Act → World → Prop) (S : World → Prop) (ds : List Nat) : Nat → Array Bool → Act → World → Prop
  | 0, listed, a, w => Region.ready md ops listed = [] ∧ Q .normal a w
  | fuel + 1, listed, a, w =>
    (Region.ready md ops listed = [] → Q .normal a w) ∧
    ∀ i ∈ Region.ready md ops listed, wpOp P ops Q i (fun a' w' => (i ∉ ds → S w → S w') ∧ wpAnyLast P md ops Q S ds fuel (listed.setIfInBounds i true) a' w') a w
theorem wpAny_of_last : ∀ (fuel : Nat) (listed : Array Bool) (a : Act) (w : World), wpAnyLast P md ops Q S ds fuel listed a w → wpAny P md ops Q fuel listed a w
  | 0, _, _, _, h => h
  | fuel + 1, _, _, _, h => ⟨h.1, fun i hi => wpOp_mono (fun a' w' h' => wpAny_of_last fuel _ a' w' h'.2) (h.2 i hi)⟩
theorem wpAnyLast_first {i : Nat} {oi : Oper} {v : Value} (hi : ops[i]? = some oi) (hsel : ∀ (j : Nat) (o : Oper) cs b, ops[j]? = some o → o.op ≠ .select cs b)
    (hQ : ∀ c a w, Q (.panic c) (a.put oi.dst v) w → Q (.panic c) a w) (n : Nat) :
    ∀ (fuel : Nat) (listed : Array Bool) (a : Act) (w : World),
      (∀ j oj, ops[j]? = some oj → j ≠ i → listed.getD j true = false → (∀ e ∈ oj.after, Region.binds md e = true → e.on ≠ i) → oi.apart ops oj = true) →
      ListedClosed md ops listed → (∀ d ∈ ds, listed.getD d true = false → Region.reachB md ops i n d = true) →
      i ∈ Region.ready md ops listed → YieldsIf P ops S oi v a → S w →
      wpAnyLast P md ops Q S ds fuel (listed.setIfInBounds i true) (a.put oi.dst v) w → wpAnyLast P md ops Q S ds (fuel + 1) listed a w := by
  intro fuel
  induction fuel with
  | zero =>
    intro listed a w _ _ _ hr hy hS H
    refine ⟨fun h => (by rw [h] at hr; cases hr), fun j hj => ?_⟩
    by_cases hji : j = i
    · subst hji; exact hy.wpOp hi hS ⟨fun _ h => h, H⟩
    · have := ready_mono hj hji
      rw [H.1] at this
      cases this
  | succ fuel ih =>
    intro listed a w hfree hc hd hr hy hS H
    refine ⟨fun h => (by rw [h] at hr; cases hr), fun j hj => ?_⟩
    by_cases hji : j = i
    · subst hji; exact hy.wpOp hi hS ⟨fun _ h => h, H⟩
    · have h1 := H.2 j (ready_mono hj hji)
      obtain ⟨hjun, oj, hoj, hall⟩ := mem_ready.1 hj
      have hiun := (mem_ready.1 hr).1
      have hnot : ∀ e ∈ oj.after, Region.binds md e = true → e.on ≠ i := fun e he hb heq => by
        have h1 := hall e he hb
        rw [heq] at h1
        rcases Nat.lt_or_ge i listed.size with h' | h'
        · simp [h'] at hiun h1; rw [hiun] at h1; cases h1
        · simp [Array.getElem?_eq_none h'] at h1
      have hjd : j ∉ ds := fun hm => Region.reach_not_ready hc (hd j hm hjun) hiun hj
      have h2 := wpOp_putIf hoj (hfree j oj hoj hji hjun hnot) (fun cs b => hsel i oi cs b hi) (fun cs b => hsel j oj cs b hoj) hQ hy h1
      have hfree' : ∀ k ok, ops[k]? = some ok → k ≠ i → (listed.setIfInBounds j true).getD k true = false →
          (∀ e ∈ ok.after, Region.binds md e = true → e.on ≠ i) → oi.apart ops ok = true := fun k ok hk hki hun hno => by
        refine hfree k ok hk hki ?_ hno
        by_cases hjk : j = k
        · subst hjk; exact hjun
        · rw [getD_set_ne true hjk] at hun; exact hun
      have hd' : ∀ d ∈ ds, (listed.setIfInBounds j true).getD d true = false → Region.reachB md ops i n d = true := fun d hm hun => by
        refine hd d hm ?_
        by_cases hjk : j = d
        · subst hjk; exact hjun
        · rw [getD_set_ne true hjk] at hun; exact hun
      refine wpOp_mono (fun a' w' h3 => ⟨h3.2.1, ih (listed.setIfInBounds j true) a' w' hfree' (hc.set hj) hd' (ready_mono hr (Ne.symm hji)) h3.1 (h3.2.1 hjd hS) ?_⟩) h2
      rw [Array.setIfInBounds_comm _ _ hji]
      exact h3.2.2
/-- Take number 'i' first, which yields whatever the world: no S is asked for, nor that anything waits for it. -/
theorem wpAnyLast_any {i : Nat} {oi : Oper} {v : Value} (hi : ops[i]? = some oi) (hsel : ∀ (j : Nat) (o : Oper) cs b, ops[j]? = some o → o.op ≠ .select cs b)
    (hQ : ∀ c a w, Q (.panic c) (a.put oi.dst v) w → Q (.panic c) a w) :
    ∀ (fuel : Nat) (listed : Array Bool) (a : Act) (w : World),
      (∀ j oj, ops[j]? = some oj → j ≠ i → listed.getD j true = false → (∀ e ∈ oj.after, Region.binds md e = true → e.on ≠ i) → oi.apart ops oj = true) →
      i ∈ Region.ready md ops listed → Yields P ops oi v a →
      wpAnyLast P md ops Q S ds fuel (listed.setIfInBounds i true) (a.put oi.dst v) w → wpAnyLast P md ops Q S ds (fuel + 1) listed a w := by
  intro fuel
  induction fuel with
  | zero =>
    intro listed a w _ hr hy H
    refine ⟨fun h => (by rw [h] at hr; cases hr), fun j hj => ?_⟩
    by_cases hji : j = i
    · subst hji; exact (hy.yieldsIf (S := fun _ => True)).wpOp hi trivial ⟨fun _ h => h, H⟩
    · have := ready_mono hj hji
      rw [H.1] at this
      cases this
  | succ fuel ih =>
    intro listed a w hfree hr hy H
    refine ⟨fun h => (by rw [h] at hr; cases hr), fun j hj => ?_⟩
    by_cases hji : j = i
    · subst hji; exact (hy.yieldsIf (S := fun _ => True)).wpOp hi trivial ⟨fun _ h => h, H⟩
    · have h1 := H.2 j (ready_mono hj hji)
      obtain ⟨hjun, oj, hoj, hall⟩ := mem_ready.1 hj
      have hiun := (mem_ready.1 hr).1
      have hnot : ∀ e ∈ oj.after, Region.binds md e = true → e.on ≠ i := fun e he hb heq => by
        have h1 := hall e he hb
        rw [heq] at h1
        rcases Nat.lt_or_ge i listed.size with h' | h'
        · simp [h'] at hiun h1; rw [hiun] at h1; cases h1
        · simp [Array.getElem?_eq_none h'] at h1
      have h2 := wpOp_put hoj (hfree j oj hoj hji hjun hnot) (fun cs b => hsel i oi cs b hi) (fun cs b => hsel j oj cs b hoj) hQ hy h1
      have hfree' : ∀ k ok, ops[k]? = some ok → k ≠ i → (listed.setIfInBounds j true).getD k true = false →
          (∀ e ∈ ok.after, Region.binds md e = true → e.on ≠ i) → oi.apart ops ok = true := fun k ok hk hki hun hno => by
        refine hfree k ok hk hki ?_ hno
        by_cases hjk : j = k
        · subst hjk; exact hjun
        · rw [getD_set_ne true hjk] at hun; exact hun
      refine wpOp_mono (fun a' w' h3 => ⟨h3.2.1, ih (listed.setIfInBounds j true) a' w' hfree' (ready_mono hr (Ne.symm hji)) h3.1 ?_⟩) h2
      rw [Array.setIfInBounds_comm _ _ hji]
      exact h3.2.2
/-- Take number 'i' first. -/
theorem wpAnyLast_take {i : Nat} {oi : Oper} {v : Value} {fuel : Nat} {listed : Array Bool} {a : Act} {w : World} (hi : ops[i]? = some oi)
    (hs : Region.noSelect ops = true) (hf : Region.free md ops listed i = true) (hr : (Region.ready md ops listed).contains i = true)
    (hc : Region.closedB md ops listed = true) (hl : Region.lastB md ops listed ds i = true)
    (hQ : ∀ c a w, Q (.panic c) (a.put oi.dst v) w → Q (.panic c) a w) (hy : YieldsIf P ops S oi v a) (hS : S w)
    (h : wpAnyLast P md ops Q S ds fuel (listed.setIfInBounds i true) (a.put oi.dst v) w) : wpAnyLast P md ops Q S ds (fuel + 1) listed a w :=
  wpAnyLast_first hi (Region.noSelect_spec hs) hQ ops.size fuel listed a w (Region.free_spec hi hf) (Region.closedB_spec hc)
    (fun d hm hun => by have := List.all_eq_true.1 hl d hm; rw [hun] at this; simpa using this) (by simpa using hr) hy hS h
theorem wpAnyLast_all {rs : List Nat} {fuel : Nat} {listed : Array Bool} {a : Act} {w : World} (hr : Region.ready md ops listed = rs) (hne : rs ≠ [])
    (h : ∀ i ∈ rs, wpOp P ops Q i (fun a' w' => (i ∉ ds → S w → S w') ∧ wpAnyLast P md ops Q S ds fuel (listed.setIfInBounds i true) a' w') a w) : wpAnyLast P md ops Q S ds (fuel + 1) listed a w :=
  ⟨fun h0 => absurd (hr ▸ h0) hne, hr ▸ h⟩
theorem wpAnyLast_done {listed : Array Bool} {a : Act} {w : World} (hr : Region.ready md ops listed = []) (h : Q .normal a w) :
    ∀ fuel, wpAnyLast P md ops Q S ds fuel listed a w
  | 0 => ⟨hr, h⟩
  | _ + 1 => ⟨fun _ => h, by rw [hr]; simp⟩
theorem wp_region_last {id : Nat} {a : Act} {w : World} (hm : P.follows .mixedOrders = true)
    (h : wpAnyLast P .any ops Q S ds ops.size (Array.replicate ops.size false) a { w with drawn := w.drawn + 1 }) : (Code.region id ops true).wp P Q a w :=
  wp_region_any hm (wpAny_of_last _ _ _ _ h)
end
section
variable {P : Program} {ops : Array Oper} {Q : Exit → Act → World → Prop} {md : Region.Mode} {S : World → Prop} {ds : List Nat}
def AllReadyL (P : Program) (md : Region.Mode) (ops : Array Oper) (Q : Exit → Act → World → Prop) (S : World → Prop) (ds : List Nat) (fuel : Nat) (listed : Array Bool) (a : Act) (w : World) (rs : List Nat) : Prop :=
  ∀ i ∈ rs, wpOp P ops Q i (fun a' w' => (i ∉ ds → S w → S w') ∧ wpAnyLast P md ops Q S ds fuel (listed.setIfInBounds i true) a' w') a w
theorem AllReadyL.nil {fuel : Nat} {listed : Array Bool} {a : Act} {w : World} : AllReadyL P md ops Q S ds fuel listed a w [] := fun _ h => by cases h
theorem AllReadyL.cons {fuel : Nat} {listed : Array Bool} {a : Act} {w : World} {i : Nat} {o : Oper} {rs : List Nat} (ho : ops[i]? = some o) (hd : i ∉ ds)
    (h : ∀ K' : Act → World → Prop, Shut (∀ a w, S w → (S w → wpAnyLast P md ops Q S ds fuel (listed.setIfInBounds i true) a w) → K' a w) → if Region.wanted o (yielded ops a.tmps) = true then Oper.wp P o a w K' Q else K' (a.put o.dst undef) w)
    (hs : AllReadyL P md ops Q S ds fuel listed a w rs) : AllReadyL P md ops Q S ds fuel listed a w (i :: rs) := fun j hj => by
  rcases List.mem_cons.1 hj with rfl | hj
  · exact wpOp_step ho (fun K' hK => h K' (fun a w hS hW => hK a w ⟨fun _ _ => hS, hW hS⟩))
  · exact hs j hj
/-- Behind an operation of ds nothing is shown. -/
theorem AllReadyL.cons_last {fuel : Nat} {listed : Array Bool} {a : Act} {w : World} {i : Nat} {o : Oper} {rs : List Nat} (ho : ops[i]? = some o) (hd : i ∈ ds)
    (h : ∀ K' : Act → World → Prop, Shut (∀ a w, wpAnyLast P md ops Q S ds fuel (listed.setIfInBounds i true) a w → K' a w) → if Region.wanted o (yielded ops a.tmps) = true then Oper.wp P o a w K' Q else K' (a.put o.dst undef) w)
    (hs : AllReadyL P md ops Q S ds fuel listed a w rs) : AllReadyL P md ops Q S ds fuel listed a w (i :: rs) := fun j hj => by
  rcases List.mem_cons.1 hj with rfl | hj
  · exact wpOp_step ho (fun K' hK => h K' (fun a w hW => hK a w ⟨fun hn => absurd hd hn, hW⟩))
  · exact hs j hj
theorem wpAnyLast_ready {rs : List Nat} {fuel : Nat} {listed : Array Bool} {a : Act} {w : World} (hr : Region.ready md ops listed = rs) (hne : rs ≠ [])
    (h : AllReadyL P md ops Q S ds fuel listed a w rs) : wpAnyLast P md ops Q S ds (fuel + 1) listed a w := wpAnyLast_all hr hne h
/-- THE SAME STEPS WITH WHAT HAS COME UP WRITTEN OUT (a literal array of Bools) and one check a step: quicker, and what is printed stays short. -/
theorem start_ {id n : Nat} {a : Act} {w : World} (l : Array Bool) (hm : P.follows .mixedOrders = true) (hn : ops.size = n) (hl : Array.replicate n false = l) (hS : S w.drew)
    (h : S w.drew → wpAnyLast P .any ops Q S ds n l a w.drew) : (Code.region id ops true).wp P Q a w := by
  subst hn
  subst hl
  exact wp_region_last hm (h hS)
def takeB (md : Region.Mode) (ops : Array Oper) (ds : List Nat) (l l' : Array Bool) (i : Nat) : Bool :=
  Region.noSelect ops && Region.free md ops l i && (Region.ready md ops l).contains i && Region.closedB md ops l && Region.lastB md ops l ds i && (l.setIfInBounds i true == l')
theorem take_ {i : Nat} {N : Option Tmp} {oi : Oper} {v : Value} {fuel : Nat} {l : Array Bool} {a : Act} {w : World} (l' : Array Bool) (hi : ops[i]? = some oi) (hN : oi.dst = N) (hc : takeB md ops ds l l' i = true)
    (hQ : ∀ c a w, Q (.panic c) (a.put oi.dst v) w → Q (.panic c) a w) (hy : YieldsIf P ops S oi v a) (hS : S w) {a' : Act} (ha : a.put N v = a')
    (h : wpAnyLast P md ops Q S ds fuel l' a' w) : wpAnyLast P md ops Q S ds (fuel + 1) l a w := by
  subst ha
  subst hN
  simp only [takeB, Bool.and_eq_true, beq_iff_eq] at hc
  obtain ⟨⟨⟨⟨⟨h1, h2⟩, h3⟩, h4⟩, h5⟩, h6⟩ := hc
  subst h6
  exact wpAnyLast_take hi h1 h2 h3 h4 h5 hQ hy hS h
def anyB (md : Region.Mode) (ops : Array Oper) (l l' : Array Bool) (i : Nat) : Bool :=
  Region.noSelect ops && Region.free md ops l i && (Region.ready md ops l).contains i && (l.setIfInBounds i true == l')
/-- An operation that yields in every world (a move, a number, an address): taken first wherever it may come up, behind a store too. -/
theorem pure_ {i : Nat} {N : Option Tmp} {oi : Oper} {v : Value} {fuel : Nat} {l : Array Bool} {a : Act} {w : World} (l' : Array Bool) (hi : ops[i]? = some oi) (hN : oi.dst = N) (hc : anyB md ops l l' i = true)
    (hQ : ∀ c a w, Q (.panic c) (a.put oi.dst v) w → Q (.panic c) a w) (hy : Yields P ops oi v a) {a' : Act} (ha : a.put N v = a')
    (h : wpAnyLast P md ops Q S ds fuel l' a' w) : wpAnyLast P md ops Q S ds (fuel + 1) l a w := by
  subst ha
  subst hN
  simp only [anyB, Bool.and_eq_true, beq_iff_eq] at hc
  obtain ⟨⟨⟨h1, h2⟩, h3⟩, h6⟩ := hc
  subst h6
  exact wpAnyLast_any hi (Region.noSelect_spec h1) hQ fuel l a w (Region.free_spec hi h2) (by simpa using h3) hy h
def readyB (md : Region.Mode) (ops : Array Oper) (l l' : Array Bool) (i : Nat) : Bool := (Region.ready md ops l == [i]) && (l.setIfInBounds i true == l')
/-- One operation alone may come up now (a call, a build, an append ..): it is run, S is shown behind it. -/
theorem one_ {i : Nat} {N : Option Tmp} {oi : Oper} {fuel : Nat} {l : Array Bool} {a : Act} {w : World} (l' : Array Bool) (hi : ops[i]? = some oi) (hN : oi.dst = N) (hc : readyB md ops l l' i = true) (hd : i ∉ ds)
    (h : ∀ K : Act → World → Prop, Shut (∀ a' w', S w' → (S w' → wpAnyLast P md ops Q S ds fuel l' a' w') → K a' w') → if Region.wanted oi (yielded ops a.tmps) = true then Oper.wp P oi a w K Q else K (a.put N undef) w) :
    wpAnyLast P md ops Q S ds (fuel + 1) l a w := by
  subst hN
  simp only [readyB, Bool.and_eq_true, beq_iff_eq] at hc
  obtain ⟨h1, h2⟩ := hc
  subst h2
  exact wpAnyLast_ready h1 (by simp) (AllReadyL.cons hi hd (fun K hK => h K hK) AllReadyL.nil)
/-- The same for one of ds: nothing is shown behind it. -/
theorem last_ {i : Nat} {N : Option Tmp} {oi : Oper} {fuel : Nat} {l : Array Bool} {a : Act} {w : World} (l' : Array Bool) (hi : ops[i]? = some oi) (hN : oi.dst = N) (hc : readyB md ops l l' i = true) (hd : i ∈ ds)
    (h : ∀ K : Act → World → Prop, Shut (∀ a' w', wpAnyLast P md ops Q S ds fuel l' a' w' → K a' w') → if Region.wanted oi (yielded ops a.tmps) = true then Oper.wp P oi a w K Q else K (a.put N undef) w) :
    wpAnyLast P md ops Q S ds (fuel + 1) l a w := by
  subst hN
  simp only [readyB, Bool.and_eq_true, beq_iff_eq] at hc
  obtain ⟨h1, h2⟩ := hc
  subst h2
  exact wpAnyLast_ready h1 (by simp) (AllReadyL.cons_last hi hd (fun K hK => h K hK) AllReadyL.nil)
theorem done_ {l : Array Bool} {a : Act} {w : World} {n : Nat} (hr : (Region.ready md ops l == []) = true) (h : Q .normal a w) : wpAnyLast P md ops Q S ds n l a w := wpAnyLast_done (by simpa using hr) h n
theorem two_ {i j : Nat} {Ni Nj : Option Tmp} {oi oj : Oper} {fuel : Nat} {l : Array Bool} {a : Act} {w : World} (li lj : Array Bool) (hi : ops[i]? = some oi) (hj : ops[j]? = some oj) (hNi : oi.dst = Ni) (hNj : oj.dst = Nj)
    (hc : (Region.ready md ops l == [i, j] && l.setIfInBounds i true == li && l.setIfInBounds j true == lj) = true) (hdi : i ∉ ds) (hdj : j ∉ ds)
    (h1 : ∀ K : Act → World → Prop, Shut (∀ a' w', S w' → (S w' → wpAnyLast P md ops Q S ds fuel li a' w') → K a' w') → if Region.wanted oi (yielded ops a.tmps) = true then Oper.wp P oi a w K Q else K (a.put Ni undef) w)
    (h2 : ∀ K : Act → World → Prop, Shut (∀ a' w', S w' → (S w' → wpAnyLast P md ops Q S ds fuel lj a' w') → K a' w') → if Region.wanted oj (yielded ops a.tmps) = true then Oper.wp P oj a w K Q else K (a.put Nj undef) w) :
    wpAnyLast P md ops Q S ds (fuel + 1) l a w := by
  subst hNi
  subst hNj
  simp only [Bool.and_eq_true, beq_iff_eq] at hc
  obtain ⟨⟨h3, h4⟩, h5⟩ := hc
  subst h4
  subst h5
  exact wpAnyLast_ready h3 (by simp) (AllReadyL.cons hi hdi (fun K hK => h1 K hK) (AllReadyL.cons hj hdj (fun K hK => h2 K hK) AllReadyL.nil))
theorem enters_ {f : FuncId} {fn : Func} (hf : P.funcs[f]? = some fn) (hname : (fn.name == "runtime.NumGoroutine") = false) (hb : fn.body.isSome = true) (args : Array Value) (w : World) : (callFunc f args).run P w = .ok (.enter f args) w := by
  have h1 : fn.name ≠ "runtime.NumGoroutine" := by simpa using hname
  obtain ⟨c, hc⟩ := Option.isSome_iff_exists.1 hb
  simp [callFunc, hf, h1, hc]
/-- A call in a plain region, az an arm of go_wp2_with ('hd' first: it fails at once at another operation). -/
theorem goesL_ {rest : List Oper} {oi : Oper} {a : Act} {w : World} (N : Option Tmp) (hd : oi.dst = N) (hg : oi.guard = none) {f : FuncId} {fn : Func} {az : Array Operand} {ts : Array TypeId} (hf : P.funcs[f]? = some fn) (hname : (fn.name == "runtime.NumGoroutine") = false) (hb : fn.body.isSome = true) (args : Array Value)
    (hop : oi.op = .call { callee := .value (.func f), args := az, argTypes := ts }) (hargs : az.map a.eval = args)
    (h : Calls P f args w fun e w' => ∃ v, e = .returned v ∧ wpList P ops Q rest (a.put N v) w') : wpList P ops Q (oi :: rest) a w := by
  refine wpList_plain hg fun K hK => ?_
  have he := enters_ hf hname hb args w
  have hrun : (execOp a.eval oi).run P w = .ok (.enter f args) w := by
    unfold execOp
    simp [hop, resolve, Deferred.ofValue, invoke, Act.eval, hargs, he]
  unfold Oper.wp
  rw [hrun, Oper.upon_enter]
  refine h.mono fun e w'' hh => ?_
  obtain ⟨v, rfl, hk⟩ := hh
  subst hd
  exact hK _ _ hk
theorem i64_w (n : Int) : IntKind.i64.wrap n = Go.RowKit.wrap64 n := by unfold Go.RowKit.wrap64; exact IntKind.wrap_i64 n
end
end
end Go.Proofs.YtgbkjnikcnjbkaaGreatW.PrintLast
namespace Go.Proofs.YtgbkjnikcnjbkaaGreatW.PrintMore
open Go.RowKit Go.Proofs.YtgbkjnikcnjbkaaGreatW.PrintWords
/-- 'max' and 'min' of two whole numbers. -/
theorem max2_int (k k' : IntKind) (x y : Int) : Builtin.max2 (.int k x) (.int k' y) = pure (.int k (if x < y then y else x)) := by simp only [Builtin.max2, gt_iff_lt]
theorem min2_int (k k' : IntKind) (x y : Int) : Builtin.min2 (.int k x) (.int k' y) = pure (.int k (if y < x then y else x)) := by simp only [Builtin.min2]
theorem max_two (ats : Array TypeId) (ty : TypeId) (a b : Value) : Builtin.max_ ats ty #[a, b] = (Builtin.max2 a b >>= fun s => pure s) := by simp only [Builtin.max_, List.foldlM_cons, List.foldlM_nil]
theorem min_two (ats : Array TypeId) (ty : TypeId) (a b : Value) : Builtin.min_ ats ty #[a, b] = (Builtin.min2 a b >>= fun s => pure s) := by simp only [Builtin.min_, List.foldlM_cons, List.foldlM_nil]
theorem max_three (ats : Array TypeId) (ty : TypeId) (a b c : Value) : Builtin.max_ ats ty #[a, b, c] = (Builtin.max2 a b >>= fun s => Builtin.max2 s c >>= fun s => pure s) := by simp only [Builtin.max_, List.foldlM_cons, List.foldlM_nil]
theorem min_three (ats : Array TypeId) (ty : TypeId) (a b c : Value) : Builtin.min_ ats ty #[a, b, c] = (Builtin.min2 a b >>= fun s => Builtin.min2 s c >>= fun s => pure s) := by simp only [Builtin.min_, List.foldlM_cons, List.foldlM_nil]
theorem max_four (ats : Array TypeId) (ty : TypeId) (a b c d : Value) : Builtin.max_ ats ty #[a, b, c, d] = (Builtin.max2 a b >>= fun s => Builtin.max2 s c >>= fun s => Builtin.max2 s d >>= fun s => pure s) := by simp only [Builtin.max_, List.foldlM_cons, List.foldlM_nil]
theorem min_four (ats : Array TypeId) (ty : TypeId) (a b c d : Value) : Builtin.min_ ats ty #[a, b, c, d] = (Builtin.min2 a b >>= fun s => Builtin.min2 s c >>= fun s => Builtin.min2 s d >>= fun s => pure s) := by simp only [Builtin.min_, List.foldlM_cons, List.foldlM_nil]
end Go.Proofs.YtgbkjnikcnjbkaaGreatW.PrintMore
namespace Go.Proofs.YtgbkjnikcnjbkaaGreatW.PrintWords
open Go.RowKit
section
variable {P : Program} {ops : Array Oper} {rest : List Oper} {o : Oper} {a : Act} {Q : Exit → Act → World → Prop} {W : World}
/-- The operation is a call of this function (a cheap look ahead of a dear step). -/
theorem gate_callee {f : FuncId} {az : Array Operand} {ts : Array TypeId} (_ho : o.op = .call { callee := .value (.func f), args := az, argTypes := ts }) (h : wpList P ops Q (o :: rest) a W) : wpList P ops Q (o :: rest) a W := h
end
end Go.Proofs.YtgbkjnikcnjbkaaGreatW.PrintWords
namespace Go.Proofs.YtgbkjnikcnjbkaaGreatW.PrintWords
open Go.RowKit
end Go.Proofs.YtgbkjnikcnjbkaaGreatW.PrintWords
namespace Go.Proofs.YtgbkjnikcnjbkaaGreat.Top
open Go Go.Proofs.YtgbkjnikcnjbkaaGreatW.PrintMore Go.Proofs.YtgbkjnikcnjbkaaGreatW.PrintWords Go.RowKit
set_option linter.unusedSimpArgs false
set_option linter.unusedVariables false
set_option maxRecDepth 100000
abbrev I (x : Int) : Value := .int .i64 x
def Cf.cells (c : Cf) : Array Value := #[I c.th, I c.it, I c.be, I c.de, I c.la, I c.wi, I c.sp, I c.wa, .bool c.bo, I c.lo, I c.hi, I c.ini]
theorem bal (W : World) (o : Obj) : Below W.heap.size W (W.alloc o) := (Below.refl W.heap.size W).alloc (Nat.le_refl _) o
/-- A box of cells. -/
structure Bc (b : Nat) (cs : Array Value) (W : World) : Prop where
  lt : b < W.heap.size
  e : ∀ i (h : i < cs.size), W.cell? ⟨b, i, none⟩ = some cs[i]
  z : ∀ i, W.frozen? ⟨b, i, none⟩ = false
theorem Bc.step {b : Nat} {cs : Array Value} {W W2 : World} (h : Bc b cs W) (hb : Below W.heap.size W W2) : Bc b cs W2 :=
  ⟨Nat.lt_of_lt_of_le h.lt hb.size, fun i hi => (hb.cell (p := ⟨b, i, none⟩) h.lt).trans (h.e i hi), fun i => (hb.frozen (p := ⟨b, i, none⟩) h.lt).trans (h.z i)⟩
theorem Bc.new (W : World) (cs : Array Value) (t : TypeId) : Bc W.heap.size cs (W.alloc (.cells cs t)) := by
  refine ⟨by simp, fun i hi => ?_, fun i => ?_⟩
  · unfold World.cell?
    rw [heap_alloc_new]
    simp [hi]
  · unfold World.frozen?
    rw [heap_alloc_new]
    simp
/-- A box whose cells are all laid anew. -/
theorem Bc.all {b : Nat} {cs : Array Value} {W : World} (h : Bc b cs W) (ds : List Value) (hd : ds.length = cs.size) : Bc b ds.toArray (W.setCells b 0 ds) := by
  have hs : ∀ (l : List Value) (o : Nat) (W : World), (W.setCells b o l).heap.size = W.heap.size := by
    intro l
    induction l with
    | nil => exact fun _ _ => rfl
    | cons v r ih => exact fun o W => (ih (o + 1) _).trans (by simp)
  refine ⟨by rw [hs]; exact h.lt, fun i hi => ?_, fun i => (World.frozen?_setCells b ds 0 W ⟨b, i, none⟩).trans (h.z i)⟩
  have h1 := World.cell?_setCells_in b ds 0 W (fun j hj => by rw [Nat.zero_add, h.e j (by omega)]; rfl) i (by simpa using hi)
  rw [Nat.zero_add] at h1
  simpa using h1
theorem Bc.far {b : Nat} {cs : Array Value} {W : World} (h : Bc b cs W) {x : Nat} (hx : x ≠ b) (o : Nat) (ds : List Value) : Bc b cs (W.setCells x o ds) := by
  have hs : ∀ (l : List Value) (o : Nat) (W : World), (W.setCells x o l).heap.size = W.heap.size := by
    intro l
    induction l with
    | nil => exact fun _ _ => rfl
    | cons v r ih => exact fun o W => (ih (o + 1) _).trans (by simp)
  exact ⟨by rw [hs]; exact h.lt, fun i hi => (World.cell?_setCells_out x ds o W ⟨b, i, none⟩ (fun e _ => absurd e.symm hx)).trans (h.e i hi), fun i => (World.frozen?_setCells x ds o W ⟨b, i, none⟩).trans (h.z i)⟩
theorem below_cells {n : Nat} {w0 : World} {x : Nat} (hx : n ≤ x) (cs : List Value) : ∀ (o : Nat) (w : World), Below n w0 w → Below n w0 (w.setCells x o cs) := by
  induction cs with
  | nil => exact fun _ _ h => h
  | cons v r ih => exact fun o w h => ih (o + 1) _ (h.setCell (p := ⟨x, o, none⟩) hx v)
theorem nodes_is (c : Cf) (hd : 0 ≤ c.de ∧ c.de ≤ 4) (w : World) : Calls Tryz.prog 62 #[.agg c.cells] w fun e w' => e = .returned (I (p2 c.de - 1)) ∧ Below w.heap.size w w' := by
  have hb := (Below.refl w.heap.size w).alloc (Nat.le_refl _) (.cells c.cells 23)
  obtain ⟨th, it, be, de, la, wi, sp, wa, bo, lo, hi, ini⟩ := c
  unfold Cf.cells at *
  dsimp only at *
  obtain rfl | rfl | rfl | rfl | rfl : de = 0 ∨ de = 1 ∨ de = 2 ∨ de = 3 ∨ de = 4 := by omega
  all_goals
    go_enter Tryz.func62, Tryz.ntmps62
    go_wp2
    go_ret
    exact ⟨by first | rfl | (unfold p2; rfl) | simp [p2], hb⟩
theorem of_is (c : Cf) (h : CfOk c) (w : World) : Calls Tryz.prog 46 #[.agg c.cells] w fun e w' => e = .returned (.agg #[I 1, I (p2 c.de), I (blockS c), I (linesS c)]) ∧ Below w.heap.size w w' := by
  have hb := (Below.refl w.heap.size w).alloc (Nat.le_refl _) (.cells c.cells 23)
  have hn := fun w => nodes_is c h.de w
  have k1 := p2_le h.de
  have k2 := mul_le_of h.la.1 h.la.2 (show 0 ≤ c.wi by have := h.wi; omega) h.wi.2
  have k3 := block_le h
  have k4 := lines_le h
  obtain ⟨th, it, be, de, la, wi, sp, wa, bo, lo, hi, ini⟩ := c
  unfold Cf.cells blockS linesS blockS at *
  dsimp only at *
  obtain ⟨nd, hnd⟩ : ∃ x, p2 de = x := ⟨_, rfl⟩
  rw [hnd] at hn k1 k3 k4 ⊢
  obtain ⟨lw, hlw⟩ : ∃ x, la * wi = x := ⟨_, rfl⟩
  rw [hlw] at k2 k3 k4 ⊢
  obtain ⟨ib, hib⟩ : ∃ x, it * (nd + lw) = x := ⟨_, rfl⟩
  rw [hib] at k4 ⊢
  have e1 : IntKind.i64.wrap (1 + (nd - 1)) = nd := by rw [Go.IntKind.wrap_i64]; omega
  have e2 : IntKind.i64.wrap lw = lw := by rw [Go.IntKind.wrap_i64]; omega
  have e3 : IntKind.i64.wrap (nd + lw) = nd + lw := by rw [Go.IntKind.wrap_i64]; omega
  have e4 : IntKind.i64.wrap ib = ib := by rw [Go.IntKind.wrap_i64]; omega
  have HB := Aside0.mk hb
  have HN := Aside0.mk hn
  clear hnd hb hn k1 k2 k3 k4 h
  go_enter Tryz.func46, Tryz.ntmps46
  go_upto_region 1 with (fail)
  have b0 := Aside0.mk ((Bc.new w #[I th, I it, I be, I de, I la, I wi, I sp, I wa, .bool bo, I lo, I hi, I ini] 23).step (bal _ (.cells #[I 0, I 0, I 0, I 0] 103)))
  have b1 := Aside0.mk (Bc.new (w.alloc (.cells #[I th, I it, I be, I de, I la, I wi, I sp, I wa, .bool bo, I lo, I hi, I ini] 23)) #[I 0, I 0, I 0, I 0] 103)
  have tb := Aside0.mk (below_step HB.out (bal (w.alloc (.cells #[I th, I it, I be, I de, I la, I wi, I sp, I wa, .bool bo, I lo, I hi, I ini] 23)) (.cells #[I 0, I 0, I 0, I 0] 103)))
  simp only [World.size_alloc] at b1
  generalize (w.alloc (.cells #[I th, I it, I be, I de, I la, I wi, I sp, I wa, .bool bo, I lo, I hi, I ini] 23)).alloc (.cells #[I 0, I 0, I 0, I 0] 103) = W0 at b0 b1 tb ⊢
  generalize hz1 : w.heap.size + 1 = g1 at b1 ⊢
  generalize hz0 : w.heap.size = g0 at b0 ⊢
  have gg := Aside0.mk (And.intro hz0 hz1)
  clear hz0 hz1 HB
  have y0 := b0.out.e
  go_upto_region 2 with (first | (go_at_call 62; (with_reducible refine (HN.out _).mono ?_); rintro e w1 ⟨rfl, hb1⟩; have HB1 := Aside0.mk hb1; clear hb1))
  clear y0
  have bk := Aside0.mk (HB1.out.alloc HB1.out.size (.cells #[I 1, I nd, I 0, I 0] 103))
  have b2 := Aside0.mk (Bc.new w1 #[I 1, I nd, I 0, I 0] 103)
  have l2 := Aside0.mk (Nat.lt_of_lt_of_le b1.out.lt HB1.out.size)
  replace b0 := Aside0.mk (b0.out.step bk.out)
  replace b1 := Aside0.mk (b1.out.step bk.out)
  replace tb := Aside0.mk (below_step tb.out bk.out)
  generalize w1.alloc (.cells #[I 1, I nd, I 0, I 0] 103) = W2 at b0 b1 b2 tb ⊢
  generalize w1.heap.size = g2 at b2 l2 ⊢
  have y0 := b0.out.e
  have y1 := b1.out.e
  have z1 := b1.out.z
  have y2 := b2.out.e
  have z2 := b2.out.z
  have n02 : g0 ≠ g2 := by have := gg.out; have := l2.out; omega
  have n12 : g1 ≠ g2 := by have := l2.out; omega
  have n20 := Ne.symm n02
  have n21 := Ne.symm n12
  clear bk HB1
  go_wp2
  have hf := (b1.out.far n21 2 [I (nd + lw), I ib]).all [I 1, I nd, I (nd + lw), I ib] rfl
  have hbl := below_cells (show w.heap.size ≤ g1 by have := gg.out; omega) [I 1, I nd, I (nd + lw), I ib] 0 _ (below_cells (show w.heap.size ≤ g2 by have := gg.out; have := l2.out; omega) [I (nd + lw), I ib] 2 _ tb.out)
  have yf := hf.e
  refine bodyPost_ret (v := .agg #[I 1, I nd, I (nd + lw), I ib]) ?_ rfl ⟨rfl, hbl⟩
  simp only [World.setCells] at yf
  simp [results, Tryz.results46, go_sem, yf]
end Go.Proofs.YtgbkjnikcnjbkaaGreat.Top
namespace Go.Proofs.YtgbkjnikcnjbkaaGreat.Top
open Go Go.Proofs.YtgbkjnikcnjbkaaGreatW.PrintLast Go.Proofs.YtgbkjnikcnjbkaaGreatW.PrintMore Go.Proofs.YtgbkjnikcnjbkaaGreatW.PrintWords Go.RowKit
set_option linter.unusedSimpArgs false
set_option linter.unusedVariables false
theorem word_is (k n : Int) (hk : 0 ≤ k ∧ k ≤ 7) (hn : -1 ≤ n ∧ n ≤ 1000) (w : World) : Calls Tryz.prog 116 #[.agg #[I k, I n]] w fun e w' => e = .returned (I (8 * (n + 1) + k)) ∧ Below w.heap.size w w' := by
  have hb := Aside0.mk (bal w (.cells #[I k, I n] 188))
  have e1 : IntKind.i64.wrap (n + 1) = n + 1 := by rw [Go.IntKind.wrap_i64]; omega
  have e2 : IntKind.i64.wrap (8 * (n + 1)) = 8 * (n + 1) := by rw [Go.IntKind.wrap_i64]; omega
  have e3 : IntKind.i64.wrap (8 * (n + 1) + k) = 8 * (n + 1) + k := by rw [Go.IntKind.wrap_i64]; omega
  clear hk hn
  go_enter Tryz.func116, Tryz.ntmps116
  go_wp2
  go_ret
  exact ⟨rfl, hb.out⟩
theorem first_is (n : Int) (hn : -1 ≤ n ∧ n ≤ 1000) (w : World) : Calls Tryz.prog 92 #[I n] w fun e w' => e = .returned (I (8 * (n + 1) + 1)) ∧ Below w.heap.size w w' := by
  have HW := Aside0.mk (fun w => word_is 1 n (by omega) hn w)
  clear hn
  go_enter Tryz.func92, Tryz.ntmps92
  go_wp2_with (first | (go_at_call 116; (with_reducible refine (HW.out _).mono ?_); rintro e w1 ⟨rfl, hb1⟩; have HB1 := Aside0.mk hb1; clear hb1))
  go_ret
  exact ⟨rfl, HB1.out⟩
theorem joined_is (n : Int) (hn : -1 ≤ n ∧ n ≤ 1000) (w : World) : Calls Tryz.prog 97 #[I n] w fun e w' => e = .returned (I (8 * (n + 1) + 2)) ∧ Below w.heap.size w w' := by
  have HW := Aside0.mk (fun w => word_is 2 n (by omega) hn w)
  clear hn
  go_enter Tryz.func97, Tryz.ntmps97
  go_wp2_with (first | (go_at_call 116; (with_reducible refine (HW.out _).mono ?_); rintro e w1 ⟨rfl, hb1⟩; have HB1 := Aside0.mk hb1; clear hb1))
  go_ret
  exact ⟨rfl, HB1.out⟩
theorem deposited_is (n : Int) (hn : -1 ≤ n ∧ n ≤ 1000) (w : World) : Calls Tryz.prog 145 #[I n] w fun e w' => e = .returned (I (8 * (n + 1) + 3)) ∧ Below w.heap.size w w' := by
  have HW := Aside0.mk (fun w => word_is 3 n (by omega) hn w)
  clear hn
  go_enter Tryz.func145, Tryz.ntmps145
  go_wp2_with (first | (go_at_call 116; (with_reducible refine (HW.out _).mono ?_); rintro e w1 ⟨rfl, hb1⟩; have HB1 := Aside0.mk hb1; clear hb1))
  go_ret
  exact ⟨rfl, HB1.out⟩
theorem told_is (w : World) : Calls Tryz.prog 106 #[] w fun e w' => e = .returned (I 5) ∧ Below w.heap.size w w' := by
  have HW := Aside0.mk (fun w => word_is 5 (-1) (by omega) (by omega) w)
  go_enter Tryz.func106, Tryz.ntmps106
  go_wp2_with (first | (go_at_call 116; (with_reducible refine (HW.out _).mono ?_); rintro e w1 ⟨rfl, hb1⟩; have HB1 := Aside0.mk hb1; clear hb1))
  go_ret
  exact ⟨rfl, HB1.out⟩
theorem open_is (item layer : Int) (hi : 0 ≤ item ∧ item ≤ 3) (hl : 0 ≤ layer ∧ layer ≤ 15) (w : World) : Calls Tryz.prog 100 #[I item, I layer] w fun e w' => e = .returned (I (8 * (item * 16 + layer + 1) + 4)) ∧ Below w.heap.size w w' := by
  have HW := Aside0.mk (fun w => word_is 4 (item * 16 + layer) (by omega) (by omega) w)
  obtain rfl | rfl | rfl | rfl : item = 0 ∨ item = 1 ∨ item = 2 ∨ item = 3 := by omega
  all_goals
    have e1 : IntKind.i64.wrap layer = layer := by rw [Go.IntKind.wrap_i64]; omega
    have e2 : IntKind.i64.wrap (16 + layer) = 16 + layer := by rw [Go.IntKind.wrap_i64]; omega
    have e3 : IntKind.i64.wrap (32 + layer) = 32 + layer := by rw [Go.IntKind.wrap_i64]; omega
    have e4 : IntKind.i64.wrap (48 + layer) = 48 + layer := by rw [Go.IntKind.wrap_i64]; omega
    simp at HW
    clear hi hl
    go_enter Tryz.func100, Tryz.ntmps100
    go_wp2_with (first | (go_at_call 116; (with_reducible refine (HW.out _).mono ?_); rintro e w1 ⟨rfl, hb1⟩; have HB1 := Aside0.mk hb1; clear hb1))
    go_ret
    exact ⟨by simp, HB1.out⟩
theorem busy_is (ph it tg v : Int) (b k h : Value) (s n a l lf wd wo x y un : Int) (w : World) : Calls Tryz.prog 32 #[.agg #[I ph, I it, I tg, I v, b, k, h, I s, I n, I a, I l, I lf, I wd, I wo, I x, I y, I un]] w fun e w' => e = .returned (.bool (ph != 0)) ∧ Below w.heap.size w w' := by
  have hb := Aside0.mk (bal w (.cells #[I ph, I it, I tg, I v, b, k, h, I s, I n, I a, I l, I lf, I wd, I wo, I x, I y, I un] 84))
  go_enter Tryz.func32, Tryz.ntmps32
  go_wp2
  go_ret
  exact ⟨rfl, hb.out⟩
/-- A list of whole numbers that can be read, by blocks of S. -/
structure Rd (S : Nat → Prop) (V : Value) (xs : List Int) (w : World) : Prop where
  r : ∃ A c, V = .slice A xs.length c ∧ xs.length ≤ c ∧ (0 < xs.length → ∃ b o, A = some ⟨b, o, none⟩ ∧ S b ∧ b < w.heap.size ∧ ∀ i, i < xs.length → w.cell? ⟨b, o + i, none⟩ = some (I (xs.getD i 0)))
  s : ∀ k, S k → k < w.heap.size
def atS (xs : List Int) (i : Int) : Int × Int := if 0 ≤ i ∧ i < xs.length then (xs.getD i.toNat 0, 0) else (0, 30)
theorem at_is (S : Nat → Prop) (V : Value) (xs : List Int) (i : Int) (w : World) (h : Rd S V xs w) : Calls Tryz.prog 43 #[V, I i] w fun e w' => e = .returned (.tuple #[I (atS xs i).1, I (atS xs i).2]) ∧ Below w.heap.size w w' := by
  obtain ⟨A, c, rfl, hc, hr⟩ := h.r
  unfold atS
  have hb := Aside0.mk (Below.refl w.heap.size w)
  by_cases h1 : 0 ≤ i ∧ i < xs.length
  · rw [if_pos h1]
    obtain ⟨b, o, rfl, _, hlt, hcell⟩ := hr (by omega)
    have hx := hcell i.toNat (by omega)
    obtain ⟨x, hxx⟩ : ∃ x, xs.getD i.toNat 0 = x := ⟨_, rfl⟩
    rw [hxx] at hx ⊢
    obtain ⟨h2, h3⟩ := h1
    have h4 : ¬ i < 0 := by omega
    have h5 : ¬ i ≥ (xs.length : Int) := by omega
    clear hcell hr h hxx
    generalize xs.length = n at *
    go_enter Tryz.func43, Tryz.ntmps43
    go_wp2
    refine bodyPost_ret (v := .tuple #[I x, I 0]) (by simp [results, Tryz.results43, go_sem]) rfl ⟨rfl, hb.out⟩
  · rw [if_neg h1]
    clear hr h hc
    by_cases h2 : i < 0
    · clear h1
      go_enter Tryz.func43, Tryz.ntmps43
      go_wp2
      refine bodyPost_ret (v := .tuple #[I 0, I 30]) (by simp [results, Tryz.results43, go_sem]) rfl ⟨rfl, hb.out⟩
    · have h3 : i ≥ (xs.length : Int) := by omega
      clear h1
      go_enter Tryz.func43, Tryz.ntmps43
      go_wp2
      refine bodyPost_ret (v := .tuple #[I 0, I 30]) (by simp [results, Tryz.results43, go_sem]) rfl ⟨rfl, hb.out⟩
/-- A slice of n elements, of these cells together, that can be read by blocks of S. -/
structure RL (S : Nat → Prop) (V : Value) (n : Nat) (cs : List Value) (w : World) : Prop where
  r : ∃ A c, V = .slice A n c ∧ n ≤ c ∧ (0 < cs.length → ∃ b o, A = some ⟨b, o, none⟩ ∧ S b ∧ ∀ i v, cs[i]? = some v → w.cell? ⟨b, o + i, none⟩ = some v)
  s : ∀ k, S k → k < w.heap.size
theorem own_empty (e sz base : Nat) (w : World) (hb : base ≤ w.heap.size) : (w.alloc (.cells #[] e)).ownsRow base e sz (.slice (some ⟨w.heap.size, 0, none⟩) 0 0) 0 [] := by
  refine ⟨by simp, .inr ⟨w.heap.size, 0, #[], rfl, hb, heap_alloc_new w _, Nat.le_refl _, Nat.zero_le _, by simp, by simp⟩⟩
theorem wp_append_by {P : Program} {w w' : World} {ops : Array Oper} {rest : List Oper} {o : Oper} {a : Act} {Q : Exit → Act → World → Prop} (hgd : o.guard = none) (s x : Operand) (t : TypeId)
    (ho : o.op = .call { callee := .builtin .append, args := #[s, x], argTypes := #[t, t] }) (v u r : Value) (hs : a.eval s = v) (hx : a.eval x = u)
    (hrun : (Builtin.append_ #[t, t] o.type #[v, u]).run P w = .ok r w') (h : wpList P ops Q rest (a.put o.dst r) w') : wpList P ops Q (o :: rest) a w := by
  refine wpList_plain hgd fun K hK => ?_
  unfold Oper.wp
  simp only [execOp, ho, resolve, invoke, builtin, Sem.run_bind, Sem.run_pure, Result.andThen_ok, List.map_toArray, List.map_cons, List.map_nil, hs, hx, hrun]
  exact hK _ _ h
theorem append_clone (ts e sz bytes : Nat) (z : Value) (hz1 : z.cells.size = sz) (h0 : 0 < sz) (ht : Tryz.prog.underlying ts = some (.slice e)) (hinfo : (Tryz.prog.info? e).map (fun i => (i.zero, i.size, i.bytes)) = some (some z, sz, bytes)) (w : World) (a : Addr) (n c : Nat) (cs : List Value) (hl : cs.length = n * sz)
    (hR : ∀ j u, cs[j]? = some u → (w.alloc (.cells #[] e)).cell? (a.add j) = some u) (hone : ∀ u, u ∈ cs → u.oneCell' = true) (hmax : n ≤ maxLen) (hb : n * bytes ≤ 140737488355328) :
    ∃ v' w', (Builtin.append_ #[ts, ts] ts #[.slice (some ⟨w.heap.size, 0, none⟩) 0 0, .slice (some a) n c]).run Tryz.prog (w.alloc (.cells #[] e)) = .ok v' w' ∧ w'.ownsRow w.heap.size e sz v' n cs ∧ Below w.heap.size w w' := by
  obtain ⟨i, hi, hzz⟩ := Option.map_eq_some_iff.1 hinfo
  simp only [Prod.mk.injEq] at hzz
  obtain ⟨hz0, hs1, hs2⟩ := hzz
  have b1 : Below w.heap.size w (w.alloc (.cells #[] e)) := bal w _
  obtain ⟨v', w', h1, h2, h3, _⟩ := run_append_own (P := Tryz.prog) (w.alloc (.cells #[] e)) w.heap.size ts ts e i z sz bytes ht hi hz0 hs1 hs2 hz1 h0 _ 0 [] (own_empty e sz w.heap.size w (Nat.le_refl _)) a n c cs hl hR hone
    (by omega) (by rw [Nat.zero_add]; exact hb) (by simp)
  rw [List.nil_append, Nat.zero_add] at h2
  exact ⟨v', w', h1, h2, pw_below_grown b1 _ (by simp) h3 (fun k hk => by simp [Value.ownBlock] at hk; omega)⟩
/-- What Clone leaves. -/
def Cloned (ty sz n : Nat) (cs : List Value) (w : World) (e : Ending) (w' : World) : Prop := ∃ v', e = .returned v' ∧ w'.ownsRow w.heap.size ty sz v' n cs ∧ Below w.heap.size w w'
theorem info3 : (Tryz.prog.info? 3).map (fun i => (i.zero, i.size, i.bytes)) = some (some (.int .i64 0), 1, 8) := by kernel_rfl
theorem clone_ints (S : Nat → Prop) (V : Value) (n : Nat) (cs : List Value) (w : World) (hR : RL S V n cs w) (hl : cs.length = n * 1) (hone : ∀ u, u ∈ cs → u.oneCell' = true) (hb : n ≤ 1000000000) :
    Calls Tryz.prog 37 #[V] w (Cloned 3 1 n cs w) := by
  obtain ⟨A, c, rfl, hc, hr⟩ := hR.r
  cases A with
  | none =>
    obtain rfl : cs = [] := by
      rcases Nat.eq_zero_or_pos cs.length with h0 | h0
      · exact List.eq_nil_of_length_eq_zero h0
      · obtain ⟨b, o, e, _⟩ := hr h0; cases e
    obtain rfl : n = 0 := by simp at hl; omega
    have hq := Lib.run_eql_slice_nil (P := Tryz.prog) w 24 3 none 0 c 0 0 Tryz.underlying24
    clear hr hl hone hR hc
    go_enter Tryz.func37, Tryz.ntmps37
    go_wp2
    go_ret
    exact ⟨_, rfl, ⟨rfl, .inl ⟨rfl, rfl⟩⟩, Below.refl _ _⟩
  | some a =>
    obtain ⟨v', w', hrun, h1, h3⟩ := append_clone 24 3 1 8 (.int .i64 0) rfl (by decide) Tryz.underlying24 info3 w a n c cs hl
      (fun j u hj => by
        have hj1 : j < cs.length := (List.getElem?_eq_some_iff.mp hj).1
        obtain ⟨b, o, e, hS, hcell⟩ := hr (by omega)
        cases e
        rw [Go.WideShapes.add_plain]
        exact ((bal w (.cells #[] 3)).cell (p := ⟨b, o + j, none⟩) (hR.s b hS)).trans (hcell j u hj))
      hone (by unfold maxLen; omega) (by omega)
    have hrun := Aside0.mk hrun
    have h1 := Aside0.mk h1
    have hq := Lib.run_eql_slice_nil (P := Tryz.prog) w 24 3 (some a) n c 0 0 Tryz.underlying24
    clear hr hl hone hR hc
    go_enter Tryz.func37, Tryz.ntmps37
    go_wp2_with (first | (at_builtin; refine wp_append_by rfl _ _ 24 rfl _ _ _ rfl rfl hrun.out ?_))
    go_ret
    exact ⟨v', rfl, h1.out, h3⟩
theorem info141 : (Tryz.prog.info? 141).map (fun i => (i.zero, i.size, i.bytes)) = some (some (.agg #[.int .i64 0, .int .i64 0, .int .i64 0]), 3, 24) := by kernel_rfl
theorem clone_ents (S : Nat → Prop) (V : Value) (n : Nat) (cs : List Value) (w : World) (hR : RL S V n cs w) (hl : cs.length = n * 3) (hone : ∀ u, u ∈ cs → u.oneCell' = true) (hb : n ≤ 1000000000) :
    Calls Tryz.prog 133 #[V] w (Cloned 141 3 n cs w) := by
  obtain ⟨A, c, rfl, hc, hr⟩ := hR.r
  cases A with
  | none =>
    obtain rfl : cs = [] := by
      rcases Nat.eq_zero_or_pos cs.length with h0 | h0
      · exact List.eq_nil_of_length_eq_zero h0
      · obtain ⟨b, o, e, _⟩ := hr h0; cases e
    obtain rfl : n = 0 := by simp at hl; omega
    have hq := Lib.run_eql_slice_nil (P := Tryz.prog) w 81 141 none 0 c 0 0 Tryz.underlying81
    clear hr hl hone hR hc
    go_enter Tryz.func133, Tryz.ntmps133
    go_wp2
    go_ret
    exact ⟨_, rfl, ⟨rfl, .inl ⟨rfl, rfl⟩⟩, Below.refl _ _⟩
  | some a =>
    obtain ⟨v', w', hrun, h1, h3⟩ := append_clone 81 141 3 24 (.agg #[.int .i64 0, .int .i64 0, .int .i64 0]) rfl (by decide) Tryz.underlying81 info141 w a n c cs hl
      (fun j u hj => by
        have hj1 : j < cs.length := (List.getElem?_eq_some_iff.mp hj).1
        obtain ⟨b, o, e, hS, hcell⟩ := hr (by omega)
        cases e
        rw [Go.WideShapes.add_plain]
        exact ((bal w (.cells #[] 141)).cell (p := ⟨b, o + j, none⟩) (hR.s b hS)).trans (hcell j u hj))
      hone (by unfold maxLen; omega) (by omega)
    have hrun := Aside0.mk hrun
    have h1 := Aside0.mk h1
    have hq := Lib.run_eql_slice_nil (P := Tryz.prog) w 81 141 (some a) n c 0 0 Tryz.underlying81
    clear hr hl hone hR hc
    go_enter Tryz.func133, Tryz.ntmps133
    go_wp2_with (first | (at_builtin; refine wp_append_by rfl _ _ 81 rfl _ _ _ rfl rfl hrun.out ?_))
    go_ret
    exact ⟨v', rfl, h1.out, h3⟩
theorem info81 : (Tryz.prog.info? 81).map (fun i => (i.zero, i.size, i.bytes)) = some (some (.slice none 0 0), 1, 24) := by kernel_rfl
theorem clone_boxes (S : Nat → Prop) (V : Value) (n : Nat) (cs : List Value) (w : World) (hR : RL S V n cs w) (hl : cs.length = n * 1) (hone : ∀ u, u ∈ cs → u.oneCell' = true) (hb : n ≤ 1000000000) :
    Calls Tryz.prog 154 #[V] w (Cloned 81 1 n cs w) := by
  obtain ⟨A, c, rfl, hc, hr⟩ := hR.r
  cases A with
  | none =>
    obtain rfl : cs = [] := by
      rcases Nat.eq_zero_or_pos cs.length with h0 | h0
      · exact List.eq_nil_of_length_eq_zero h0
      · obtain ⟨b, o, e, _⟩ := hr h0; cases e
    obtain rfl : n = 0 := by simp at hl; omega
    have hq := Lib.run_eql_slice_nil (P := Tryz.prog) w 30 81 none 0 c 0 0 Tryz.underlying30
    clear hr hl hone hR hc
    go_enter Tryz.func154, Tryz.ntmps154
    go_wp2
    go_ret
    exact ⟨_, rfl, ⟨rfl, .inl ⟨rfl, rfl⟩⟩, Below.refl _ _⟩
  | some a =>
    obtain ⟨v', w', hrun, h1, h3⟩ := append_clone 30 81 1 24 (.slice none 0 0) rfl (by decide) Tryz.underlying30 info81 w a n c cs hl
      (fun j u hj => by
        have hj1 : j < cs.length := (List.getElem?_eq_some_iff.mp hj).1
        obtain ⟨b, o, e, hS, hcell⟩ := hr (by omega)
        cases e
        rw [Go.WideShapes.add_plain]
        exact ((bal w (.cells #[] 81)).cell (p := ⟨b, o + j, none⟩) (hR.s b hS)).trans (hcell j u hj))
      hone (by unfold maxLen; omega) (by omega)
    have hrun := Aside0.mk hrun
    have h1 := Aside0.mk h1
    have hq := Lib.run_eql_slice_nil (P := Tryz.prog) w 30 81 (some a) n c 0 0 Tryz.underlying30
    clear hr hl hone hR hc
    go_enter Tryz.func154, Tryz.ntmps154
    go_wp2_with (first | (at_builtin; refine wp_append_by rfl _ _ 30 rfl _ _ _ rfl rfl hrun.out ?_))
    go_ret
    exact ⟨v', rfl, h1.out, h3⟩
section
/-- A block of a call's own: its number, what it is. -/
abbrev Bxs := List (Nat × Obj)
def Bk (x : Nat × Obj) (W : World) : Prop := W.heap[x.1]? = some x.2
abbrev Ce (t : TypeId) (cs : Array Value) : Obj := .cells cs t (0, 0)
theorem Bk.lt {x : Nat × Obj} {W : World} (h : Bk x W) : x.1 < W.heap.size := (Array.getElem?_eq_some_iff.1 h).1
theorem Bk.step {x : Nat × Obj} {W W2 : World} (h : Bk x W) (hb : W2.heap[x.1]? = W.heap[x.1]?) : Bk x W2 := hb.trans h
theorem Bk.put {b : Nat} {t : TypeId} {cs : Array Value} {W : World} (h : Bk (b, Ce t cs) W) (i : Nat) (v : Value) : Bk (b, Ce t (cs.setIfInBounds i v)) (W.setCell ⟨b, i, none⟩ v) := heap_setCell_same W b i cs t v h
/-- Boxes, all unlike. -/
def Bs : Bxs → World → Prop
  | [], _ => True
  | x :: r, W => Bk x W ∧ (∀ y, y ∈ r → y.1 ≠ x.1) ∧ Bs r W
theorem Bs.get : ∀ {l : Bxs} {W : World}, Bs l W → ∀ (k : Nat) {x : Nat × Obj}, l[k]? = some x → Bk x W
  | [], _, _, _, _, h => by simp at h
  | x :: r, W, hb, 0, y, h => by simp at h; subst h; exact hb.1
  | x :: r, W, hb, k + 1, y, h => Bs.get hb.2.2 k (by simpa using h)
theorem Bs.mem {l : Bxs} {W : World} (h : Bs l W) (x : Nat × Obj) (hx : x ∈ l) : x.1 < W.heap.size := by
  obtain ⟨k, hk⟩ := List.getElem?_of_mem hx
  exact (h.get k hk).lt
theorem Bs.keep : ∀ {l : Bxs} {W W2 : World}, Bs l W → (∀ x, x ∈ l → W2.heap[x.1]? = W.heap[x.1]?) → Bs l W2
  | [], _, _, _, _ => trivial
  | x :: r, W, W2, h, hb => ⟨h.1.step (hb x (List.mem_cons_self ..)), h.2.1, Bs.keep h.2.2 fun y hy => hb y (List.mem_cons_of_mem _ hy)⟩
theorem Bs.step {l : Bxs} {W W2 : World} (h : Bs l W) (hb : Below W.heap.size W W2) : Bs l W2 := h.keep fun x hx => hb.block x.1 (h.mem x hx)
theorem Bs.new {l : Bxs} {W : World} (h : Bs l W) (o : Obj) : Bs ((W.heap.size, o) :: l) (W.alloc o) :=
  ⟨heap_alloc_new W _, fun y hy => Nat.ne_of_lt (h.mem y hy), h.step (bal W _)⟩
/-- One block is another now; the rest are as they were. -/
theorem Bs.swap : ∀ {l : Bxs} {W W2 : World}, Bs l W → ∀ (k : Nat) {x : Nat × Obj}, l[k]? = some x → ∀ (y : Nat × Obj), Bk y W2 → (y.1 = x.1 ∨ W.heap.size ≤ y.1) → (∀ j, j < W.heap.size → j ≠ x.1 → W2.heap[j]? = W.heap[j]?) → Bs (l.set k y) W2
  | [], _, _, _, k, _, h, _, _, _, _ => by simp at h
  | z :: r, W, W2, hb, 0, x, h, y, hy, hn, hk => by
    simp at h; subst h
    refine ⟨hy, fun u hu => ?_, hb.2.2.keep fun u hu => hk _ (hb.2.2.mem u hu) (hb.2.1 u hu)⟩
    rcases hn with e | e
    · rw [e]; exact hb.2.1 u hu
    · exact Nat.ne_of_lt (Nat.lt_of_lt_of_le (hb.2.2.mem u hu) e)
  | z :: r, W, W2, hb, k + 1, x, h, y, hy, hn, hk => by
    have h' : r[k]? = some x := by simpa using h
    have hm : x ∈ r := List.mem_of_getElem? h'
    have hne := hb.2.1 x hm
    refine ⟨hb.1.step (hk _ hb.1.lt (Ne.symm hne)), fun u hu => ?_, Bs.swap hb.2.2 k h' y hy hn hk⟩
    rcases List.mem_or_eq_of_mem_set hu with h1 | rfl
    · exact hb.2.1 u h1
    · rcases hn with e | e
      · rw [e]; exact hne
      · exact Ne.symm (Nat.ne_of_lt (Nat.lt_of_lt_of_le hb.1.lt e))
/-- What may become of a world: the boxes of O may be written, others are as they were. -/
structure Ext (O : List Nat) (W : World) (O' : List Nat) (W' : World) : Prop where
  size : W.heap.size ≤ W'.heap.size
  own : ∀ k, k ∈ O' → k ∈ O ∨ W.heap.size ≤ k
  block : ∀ k, k ∉ O → k < W.heap.size → W'.heap[k]? = W.heap[k]?
theorem Ext.refl (O : List Nat) (W : World) : Ext O W O W := ⟨Nat.le_refl _, fun _ h => .inl h, fun _ _ _ => rfl⟩
theorem Ext.trans {O O' O'' : List Nat} {W W' W'' : World} (h : Ext O W O' W') (g : Ext O' W' O'' W'') : Ext O W O'' W'' := by
  refine ⟨Nat.le_trans h.size g.size, fun k hk => ?_, fun k hk hl => ?_⟩
  · rcases g.own k hk with h1 | h1
    · exact h.own k h1
    · exact .inr (Nat.le_trans h.size h1)
  · rw [g.block k (fun h1 => ?_) (Nat.lt_of_lt_of_le hl h.size), h.block k hk hl]
    rcases h.own k h1 with h2 | h2
    · exact hk h2
    · exact absurd hl (Nat.not_lt.2 h2)
theorem Ext.below {O : List Nat} {W W' : World} (h : Below W.heap.size W W') : Ext O W O W' := ⟨h.size, fun _ h => .inl h, fun k _ hl => h.block k hl⟩
theorem Ext.alloc (O : List Nat) (W : World) (o : Obj) : Ext O W (W.heap.size :: O) (W.alloc o) :=
  ⟨by simp, fun k hk => (List.mem_cons.1 hk).elim (fun e => .inr (Nat.le_of_eq e.symm)) .inl, fun k _ hl => (bal W o).block k hl⟩
/-- Known in this world, and in all that come of it. -/
def Kn (P : List Nat → World → Prop) (O : List Nat) (W : World) : Prop := ∀ O' W', Ext O W O' W' → P O' W'
theorem Kn.here {P : List Nat → World → Prop} {O : List Nat} {W : World} (h : Kn P O W) : P O W := h O W (Ext.refl O W)
theorem Kn.step {P : List Nat → World → Prop} {O O' : List Nat} {W W' : World} (h : Kn P O W) (g : Ext O W O' W') : Kn P O' W' := fun O'' W'' k => h O'' W'' (g.trans k)
theorem Kn.and {P Q : List Nat → World → Prop} {O : List Nat} {W : World} (h : Kn Q O W) (g : Kn P O W) : Kn (fun O W => Q O W ∧ P O W) O W := fun O' W' k => ⟨h O' W' k, g O' W' k⟩
theorem Kn.top (O : List Nat) (W : World) : Kn (fun _ _ => True) O W := fun _ _ _ => trivial
/-- What a call may not lean on: its caller's boxes, and its own. -/
def Av (L : Nat → Prop) (O : List Nat) : Nat → Prop := fun k => L k ∨ k ∈ O
def Cx (L : Nat → Prop) (W : World) : Prop := ∀ k, L k → k < W.heap.size
structure Kb (w0 : World) (L : Nat → Prop) (l : Bxs) (P : List Nat → World → Prop) (W : World) : Prop where
  bs : Bs l W
  own : ∀ x, x ∈ l → w0.heap.size ≤ x.1
  below : Below w0.heap.size w0 W
  kn : Kn P (l.map Prod.fst) W
  cx0 : Cx L w0
section
variable {w0 W W' : World} {L : Nat → Prop} {l : Bxs} {P Q : List Nat → World → Prop}
theorem Kb.start (cx : Cx L w0) (h : Kn P [] w0) : Kb w0 L [] P w0 := ⟨trivial, fun _ h => (by cases h), Below.refl _ _, h, cx⟩
theorem Kb.cx (h : Kb w0 L l P W) : Cx (Av L (l.map Prod.fst)) W := fun k hk => hk.elim (fun h1 => Nat.lt_of_lt_of_le (h.cx0 k h1) h.below.size) fun h1 => by
  obtain ⟨x, hx, rfl⟩ := List.mem_map.1 h1
  exact h.bs.mem x hx
theorem Kb.call (h : Kb w0 L l P W) (hb : Below W.heap.size W W') : Kb w0 L l P W' := ⟨h.bs.step hb, h.own, below_step h.below hb, h.kn.step (Ext.below hb), h.cx0⟩
theorem Kb.drew (h : Kb w0 L l P W) : Kb w0 L l P W.drew := h.call (below_drew1 (Below.refl _ W))
theorem Kb.alloc (h : Kb w0 L l P W) (o : Obj) : Kb w0 L ((W.heap.size, o) :: l) P (W.alloc o) :=
  ⟨h.bs.new o, fun x hx => (List.mem_cons.1 hx).elim (fun e => e ▸ h.below.size) (h.own x), below_step h.below (bal W _), h.kn.step (Ext.alloc _ W _), h.cx0⟩
/-- A new block that a call has made becomes one's own. -/
theorem Kb.adopt (h : Kb w0 L l P W) (hb : Below W.heap.size W W') (x : Nat × Obj) (hx : W.heap.size ≤ x.1) (bk : Bk x W') : Kb w0 L (x :: l) P W' := by
  refine ⟨⟨bk, fun y hy => Nat.ne_of_lt (Nat.lt_of_lt_of_le (h.bs.mem y hy) hx), h.bs.step hb⟩, fun y hy => (List.mem_cons.1 hy).elim (fun e => e ▸ Nat.le_trans h.below.size hx) (h.own y), below_step h.below hb, h.kn.step ⟨hb.size, fun k hk => ?_, fun k _ hl => hb.block k hl⟩, h.cx0⟩
  rcases List.mem_cons.1 hk with rfl | h1
  · exact .inr hx
  · exact .inl h1
/-- One block is another now. -/
theorem Kb.swap (h : Kb w0 L l P W) (k : Nat) {x : Nat × Obj} (hk : l[k]? = some x) (y : Nat × Obj) (hy : Bk y W') (hn : y.1 = x.1 ∨ W.heap.size ≤ y.1) (hkeep : ∀ j, j < W.heap.size → j ≠ x.1 → W'.heap[j]? = W.heap[j]?) (hs : W.heap.size ≤ W'.heap.size) (ho : W'.os = W.os ∧ W'.tape = W.tape ∧ W'.output = W.output) : Kb w0 L (l.set k y) P W' := by
  have hm : x ∈ l := List.mem_of_getElem? hk
  have hx := h.own x hm
  refine ⟨h.bs.swap k hk y hy hn hkeep, fun z hz => ?_, ⟨ho.1.trans h.below.os, ho.2.1.trans h.below.tape, ho.2.2.trans h.below.output, Nat.le_trans h.below.size hs, fun j hj => ?_⟩, h.kn.step ⟨hs, fun j hj => ?_, fun j hj hl => ?_⟩, h.cx0⟩
  · rcases List.mem_or_eq_of_mem_set hz with h1 | rfl
    · exact h.own z h1
    · rcases hn with e | e
      · rw [e]; exact hx
      · exact Nat.le_trans h.below.size e
  · rw [hkeep j (Nat.lt_of_lt_of_le hj h.below.size) (fun e => by subst e; exact absurd hj (Nat.not_lt.2 hx)), h.below.block j hj]
  · obtain ⟨z, hz, rfl⟩ := List.mem_map.1 hj
    rcases List.mem_or_eq_of_mem_set hz with h1 | rfl
    · exact .inl (List.mem_map.2 ⟨z, h1, rfl⟩)
    · rcases hn with e | e
      · exact .inl (e ▸ List.mem_map.2 ⟨x, hm, rfl⟩)
      · exact .inr e
  · exact hkeep j hl (fun e => hj (e ▸ List.mem_map.2 ⟨x, hm, rfl⟩))
theorem Kb.put (h : Kb w0 L l P W) (k : Nat) {b : Nat} {t : TypeId} {cs : Array Value} (hk : l[k]? = some (b, Ce t cs)) (i : Nat) (v : Value) : Kb w0 L (l.set k (b, Ce t (cs.setIfInBounds i v))) P (W.setCell ⟨b, i, none⟩ v) :=
  h.swap k hk _ ((h.bs.get k hk).put i v) (.inl rfl) (fun j _ hj => Below.heap_setCell W ⟨b, i, none⟩ v j hj) (by simp) ⟨rfl, rfl, rfl⟩
/-- One's own block is turned into something else. -/
theorem Kb.turn (h : Kb w0 L l P W) (k : Nat) {b : Nat} {o : Obj} (hk : l[k]? = some (b, o)) (o' : Obj) : Kb w0 L (l.set k (b, o')) P (W.putObj b o') := by
  have hlt := (h.bs.get k hk).lt
  refine h.swap k hk (b, o') ?_ (.inl rfl) (fun j hj hne => ?_) ?_ ⟨rfl, rfl, rfl⟩
  · show (W.putObj b o').heap[b]? = some o'
    simp only [World.putObj]
    rw [Array.getElem?_setIfInBounds_self_of_lt hlt]
  · show (W.putObj b o').heap[j]? = W.heap[j]?
    simp only [World.putObj]
    exact Array.getElem?_setIfInBounds_ne (Ne.symm hne)
  · simp [World.putObj]
/-- A block is one's own no more; what lies there can be read. -/
theorem Kb.leave (h : Kb w0 L l P W) (k : Nat) : Kb w0 L (l.eraseIdx k) P W := by
  have hsub : ∀ x, x ∈ l.eraseIdx k → x ∈ l := fun x hx => (List.eraseIdx_sublist l k).mem hx
  refine ⟨?_, fun x hx => h.own x (hsub x hx), h.below, fun O W' g => h.kn O W' ⟨g.size, fun j hj => (g.own j hj).imp (fun h1 => ?_) id, fun j hj hl => g.block j (fun h1 => hj ?_) hl⟩, h.cx0⟩
  · have key : ∀ (l : Bxs) (k : Nat), Bs l W → Bs (l.eraseIdx k) W := by
      intro l
      induction l with
      | nil => intro k _; simp; trivial
      | cons x r ih =>
        intro k hb
        cases k with
        | zero => simpa using hb.2.2
        | succ k => exact ⟨hb.1, fun y hy => hb.2.1 y ((List.eraseIdx_sublist r k).mem hy), ih k hb.2.2⟩
    exact key l k h.bs
  · obtain ⟨x, hx, rfl⟩ := List.mem_map.1 h1
    exact List.mem_map.2 ⟨x, hsub x hx, rfl⟩
  · obtain ⟨x, hx, rfl⟩ := List.mem_map.1 h1
    exact List.mem_map.2 ⟨x, hsub x hx, rfl⟩
def putL (cs : Array Value) : Nat → List Value → Array Value
  | _, [] => cs
  | o, v :: r => putL (cs.setIfInBounds o v) (o + 1) r
theorem list_set_set {α : Type} (l : List α) (k : Nat) (a b : α) : (l.set k a).set k b = l.set k b := by
  exact List.ext_getElem? fun j => by
    simp only [List.getElem?_set, List.length_set]
    split <;> rfl
theorem list_set_same {α : Type} (l : List α) (k : Nat) {a : α} (h : l[k]? = some a) : l.set k a = l := by
  exact List.ext_getElem? fun j => by
    rw [List.getElem?_set]
    split
    · rename_i e; subst e; rw [if_pos (List.getElem?_eq_some_iff.1 h).1, h]
    · rfl
theorem Kb.puts (k : Nat) {b : Nat} {t : TypeId} (vs : List Value) : ∀ {l : Bxs} {W : World} (cs : Array Value) (o : Nat), Kb w0 L l P W → l[k]? = some (b, Ce t cs) → Kb w0 L (l.set k (b, Ce t (putL cs o vs))) P (W.setCells b o vs) := by
  induction vs with
  | nil => intro l W cs o h hk; rw [putL, list_set_same l k hk]; exact h
  | cons v r ih =>
    intro l W cs o h hk
    have h1 := h.put k hk o v
    have h2 := ih (cs.setIfInBounds o v) (o + 1) h1 (by rw [List.getElem?_set]; simp [(List.getElem?_eq_some_iff.1 hk).1])
    rw [list_set_set] at h2
    exact h2
/-- A box that is written whole. -/
theorem Kb.fill (h : Kb w0 L l P W) (k : Nat) {b : Nat} {t : TypeId} {cs : Array Value} (hk : l[k]? = some (b, Ce t cs)) (cs' : Array Value) (hs : Nat.beq cs'.size cs.size = true) : Kb w0 L (l.set k (b, Ce t cs')) P (W.setCells b 0 cs'.toList) := by
  have hs' : cs'.size = cs.size := Nat.eq_of_beq_eq_true hs
  have h1 := Kb.puts k cs'.toList cs 0 h hk
  have e : ∀ (vs : List Value) (cs : Array Value) (o : Nat), o + vs.length = cs.size → ∀ j, (putL cs o vs)[j]? = if j < o then cs[j]? else vs[j - o]? := by
    intro vs
    induction vs with
    | nil => intro cs o ho j; rw [putL]; split <;> rename_i h1 <;> simp at ho ⊢; omega
    | cons v r ih =>
      intro cs o ho j
      rw [List.length_cons] at ho
      rw [putL, ih _ _ (by simp; omega)]
      by_cases h1 : j < o
      · rw [if_pos h1, if_pos (by omega), Array.getElem?_setIfInBounds_ne (by omega)]
      · rw [if_neg h1]
        by_cases h2 : j = o
        · subst h2
          rw [if_pos (by omega), Array.getElem?_setIfInBounds_self_of_lt (by omega), Nat.sub_self]
          rfl
        · rw [if_neg (by omega), show j - o = (j - (o + 1)) + 1 from by omega]
          rfl
  have e2 : putL cs 0 cs'.toList = cs' := by
    refine Array.ext_getElem? fun j => ?_
    rw [e _ _ _ (by simp [hs'])]
    simp
  rw [e2] at h1
  exact h1
theorem Kb.and (h : Kb w0 L l P W) (g : Kn Q (l.map Prod.fst) W) : Kb w0 L l (fun O W => Q O W ∧ P O W) W := ⟨h.bs, h.own, h.below, Kn.and g h.kn, h.cx0⟩
theorem Kb.rd (h : Kb w0 L l P W) (k : Nat) {b : Nat} {t : TypeId} {cs : Array Value} (hk : l[k]? = some (b, Ce t cs)) : ∀ i (h : i < cs.size), W.cell? ⟨b, i, none⟩ = some cs[i] := fun i hi => by
  rw [cell_of_row W b i cs t (0, 0) (h.bs.get k hk)]
  exact Array.getElem?_eq_getElem hi
theorem Kb.fz (h : Kb w0 L l P W) (k : Nat) {b : Nat} {t : TypeId} {cs : Array Value} (hk : l[k]? = some (b, Ce t cs)) : ∀ i, W.frozen? ⟨b, i, none⟩ = false := fun i => frozen_of_row W b i cs t (h.bs.get k hk)
end
end
section
/-- Where a slice begins, and its capacity. -/
structure Hd where
  A : Option Addr
  c : Nat
def hd0 : Hd := ⟨none, 0⟩
/-- A slice of n elements, of these cells together, that can be read, by no block of L. -/
structure RS (L : Nat → Prop) (h : Hd) (n : Nat) (cs : List Value) (w : World) : Prop where
  c : n ≤ h.c
  r : 0 < cs.length → ∃ b o, h.A = some ⟨b, o, none⟩ ∧ b < w.heap.size ∧ ¬ L b ∧ ∀ i v, cs[i]? = some v → w.cell? ⟨b, o + i, none⟩ = some v
theorem RS.nil (L : Nat → Prop) (w : World) : RS L hd0 0 [] w := ⟨Nat.le_refl _, fun h => by simp at h⟩
theorem RS.step {L L' : Nat → Prop} {h : Hd} {n : Nat} {cs : List Value} {W W' : World} (hr : RS L h n cs W) (hs : W.heap.size ≤ W'.heap.size) (hb : ∀ k, ¬ L k → k < W.heap.size → W'.heap[k]? = W.heap[k]?) (hL : ∀ k, k < W.heap.size → L' k → L k) : RS L' h n cs W' := by
  refine ⟨hr.c, fun h0 => ?_⟩
  obtain ⟨b, o, e, hlt, hn, hc⟩ := hr.r h0
  exact ⟨b, o, e, Nat.lt_of_lt_of_le hlt hs, fun h => hn (hL b hlt h), fun i v hi => (World.cell?_of_block (w := W) (a := ⟨b, o + i, none⟩) (hb b hn hlt)).trans (hc i v hi)⟩
theorem ext_av {L : Nat → Prop} {O O' : List Nat} {W W' : World} (g : Ext O W O' W') : (∀ k, ¬ Av L O k → k < W.heap.size → W'.heap[k]? = W.heap[k]?) ∧ ∀ k, k < W.heap.size → Av L O' k → Av L O k :=
  ⟨fun k hk hl => g.block k (fun h => hk (.inr h)) hl, fun k hl hk => hk.elim .inl fun h => (g.own k h).elim .inr fun h1 => absurd hl (Nat.not_lt.2 h1)⟩
theorem RS.kn {L : Nat → Prop} {O : List Nat} {h : Hd} {n : Nat} {cs : List Value} {W : World} (hr : RS (Av L O) h n cs W) : Kn (fun O W => RS (Av L O) h n cs W) O W :=
  fun O' W' g => hr.step g.size (ext_av g).1 (ext_av g).2
theorem RS.weak {L : Nat → Prop} {O : List Nat} {h : Hd} {n : Nat} {cs : List Value} {W : World} (hr : RS (Av L O) h n cs W) : RS L h n cs W :=
  hr.step (Nat.le_refl _) (fun _ _ _ => rfl) (fun _ _ h => .inl h)
theorem RS.av0 {L : Nat → Prop} {h : Hd} {n : Nat} {cs : List Value} {W : World} (hr : RS L h n cs W) : RS (Av L []) h n cs W :=
  hr.step (Nat.le_refl _) (fun _ _ _ => rfl) (fun _ _ h => h.elim id fun h => by cases h)
theorem RS.rl {L : Nat → Prop} {h : Hd} {n : Nat} {cs : List Value} {w : World} (hr : RS L h n cs w) : RL (fun k => k < w.heap.size ∧ ¬ L k) (.slice h.A n h.c) n cs w := by
  refine ⟨⟨h.A, h.c, rfl, hr.c, fun h0 => ?_⟩, fun k hk => hk.1⟩
  obtain ⟨b, o, e, hlt, hn, hc⟩ := hr.r h0
  exact ⟨b, o, e, ⟨hlt, hn⟩, hc⟩
theorem RS.rd {L : Nat → Prop} {h : Hd} {xs : List Int} {w : World} (hr : RS L h xs.length (xs.map I) w) : Rd (fun k => k < w.heap.size ∧ ¬ L k) (.slice h.A xs.length h.c) xs w := by
  refine ⟨⟨h.A, h.c, rfl, hr.c, fun h0 => ?_⟩, fun k hk => hk.1⟩
  obtain ⟨b, o, e, hlt, hn, hc⟩ := hr.r (by simpa using h0)
  refine ⟨b, o, e, ⟨hlt, hn⟩, hlt, fun i hi => hc i _ ?_⟩
  rw [List.getElem?_map, List.getElem?_eq_getElem hi, List.getD_eq_getElem?_getD, List.getElem?_eq_getElem hi]
  rfl
theorem owns_pos {ty sz base n : Nat} {v : Value} {cs : List Value} {w : World} (h : w.ownsRow base ty sz v n cs) (hn : 0 < n) : ∃ g c cur, v = .slice (some ⟨g, 0, none⟩) n c ∧ base ≤ g ∧ Bk (g, Ce ty cur) w ∧ n ≤ c ∧ c ≤ maxLen ∧ cur.size = c * sz ∧ cur.toList.take (n * sz) = cs := by
  rcases h.2 with ⟨_, h0⟩ | ⟨g, c, cur, h1, h2, h3, h4, h5, h6, h7⟩
  · omega
  · exact ⟨g, c, cur, h1, h2, h3, h4, h5, h6, h7⟩
/-- A block that can be read. -/
theorem RS.of_bk {L : Nat → Prop} {g ty n c : Nat} {cur : Array Value} {cs : List Value} {W : World} (h : Bk (g, Ce ty cur) W) (hg : ¬ L g) (hn : n ≤ c) (hp : ∀ (i : Nat) (v : Value), cs[i]? = some v → cur[i]? = some v) : RS L ⟨some ⟨g, 0, none⟩, c⟩ n cs W :=
  ⟨hn, fun _ => ⟨g, 0, rfl, h.lt, hg, fun i v hi => by rw [Nat.zero_add, cell_of_row W g i cur ty (0, 0) h]; exact hp i v hi⟩⟩
theorem take_pre {cur : Array Value} {m : Nat} {cs : List Value} (h : cur.toList.take m = cs) : ∀ (i : Nat) (v : Value), cs[i]? = some v → cur[i]? = some v := fun i v hi => by
  subst h
  rw [List.getElem?_take] at hi
  split at hi
  · simpa using hi
  · cases hi
theorem RS.of_owns {L : Nat → Prop} {ty sz n : Nat} {v : Value} {cs : List Value} {w w' : World} (h : w'.ownsRow w.heap.size ty sz v n cs) (cx : Cx L w) : ∃ hd : Hd, v = .slice hd.A n hd.c ∧ RS L hd n cs w' := by
  rcases h.2 with ⟨rfl, rfl⟩ | ⟨g, c, cur, rfl, h2, h3, h4, h5, h6, h7⟩
  · have h0 : cs = [] := List.eq_nil_of_length_eq_zero (by rw [h.1]; simp)
    subst h0
    exact ⟨hd0, rfl, RS.nil _ _⟩
  · exact ⟨⟨some ⟨g, 0, none⟩, c⟩, rfl, RS.of_bk h3 (fun h => absurd (cx g h) (Nat.not_lt.2 h2)) h4 (take_pre h7)⟩
def ecs (b : List En) : List Value := b.flatMap fun e => [I e.t, I e.tag, I e.v]
def kcs (b : List Ki) : List Value := b.flatMap fun e => [I e.t, I e.ah]
def mcs (b : List Mk) : List Value := b.flatMap fun e => [I e.t, I e.item, I e.tag, I e.v, I e.prior, I e.step]
def bcs : List Hd → List (List En) → List Value
  | h :: hs, b :: bs => .slice h.A b.length h.c :: bcs hs bs
  | _, _ => []
theorem flat_len {α : Type} (n : Nat) (f : α → List Value) (hf : ∀ a, (f a).length = n) (l : List α) : (l.flatMap f).length = l.length * n := by
  induction l with
  | nil => simp
  | cons a r ih => rw [List.flatMap_cons, List.length_append, hf, ih, List.length_cons, Nat.succ_mul, Nat.add_comm]
theorem flat_get {α : Type} (n : Nat) (f : α → List Value) (hf : ∀ a, (f a).length = n) : ∀ (l : List α) (i : Nat) (a : α) (j : Nat), l[i]? = some a → j < n → (l.flatMap f)[i * n + j]? = (f a)[j]?
  | [], i, a, j, h, _ => by simp at h
  | b :: r, 0, a, j, h, hj => by
    simp at h; subst h
    rw [List.flatMap_cons, Nat.zero_mul, Nat.zero_add, List.getElem?_append_left (by rw [hf]; exact hj)]
  | b :: r, i + 1, a, j, h, hj => by
    rw [List.flatMap_cons, List.getElem?_append_right (by rw [hf, Nat.succ_mul]; omega), hf, show (i + 1) * n + j - n = i * n + j from by rw [Nat.succ_mul]; omega]
    exact flat_get n f hf r i a j (by simpa using h) hj
theorem ecs_len (b : List En) : (ecs b).length = b.length * 3 := flat_len 3 _ (fun _ => rfl) b
theorem kcs_len (b : List Ki) : (kcs b).length = b.length * 2 := flat_len 2 _ (fun _ => rfl) b
theorem mcs_len (b : List Mk) : (mcs b).length = b.length * 6 := flat_len 6 _ (fun _ => rfl) b
theorem ecs_one (b : List En) : ∀ u, u ∈ ecs b → u.oneCell' = true := by
  intro u hu
  obtain ⟨e, _, h⟩ := List.mem_flatMap.1 hu
  simp at h
  rcases h with rfl | rfl | rfl <;> rfl
theorem kcs_one (b : List Ki) : ∀ u, u ∈ kcs b → u.oneCell' = true := by
  intro u hu
  obtain ⟨e, _, h⟩ := List.mem_flatMap.1 hu
  simp at h
  rcases h with rfl | rfl <;> rfl
theorem mcs_one (b : List Mk) : ∀ u, u ∈ mcs b → u.oneCell' = true := by
  intro u hu
  obtain ⟨e, _, h⟩ := List.mem_flatMap.1 hu
  simp at h
  rcases h with rfl | rfl | rfl | rfl | rfl | rfl <;> rfl
theorem ints_one (b : List Int) : ∀ u, u ∈ b.map I → u.oneCell' = true := by
  intro u hu
  obtain ⟨e, _, rfl⟩ := List.mem_map.1 hu
  rfl
theorem bcs_one : ∀ (hs : List Hd) (bs : List (List En)), ∀ u, u ∈ bcs hs bs → u.oneCell' = true
  | [], _, u, h => by simp [bcs] at h
  | _ :: _, [], u, h => by simp [bcs] at h
  | h :: hs, b :: bs, u, hu => by
    rcases List.mem_cons.1 hu with rfl | h1
    · rfl
    · exact bcs_one hs bs u h1
theorem bcs_len : ∀ (hs : List Hd) (bs : List (List En)), hs.length = bs.length → (bcs hs bs).length = bs.length
  | [], [], _ => rfl
  | [], _ :: _, h => by simp at h
  | _ :: _, [], h => by simp at h
  | h :: hs, b :: bs, e => by rw [bcs, List.length_cons, bcs_len hs bs (by simpa using e), List.length_cons]
theorem bcs_get : ∀ (hs : List Hd) (bs : List (List En)), hs.length = bs.length → ∀ i, i < bs.length → (bcs hs bs)[i]? = some (.slice (hs.getD i hd0).A (bs.getD i []).length (hs.getD i hd0).c)
  | [], [], _, i, h => by simp at h
  | [], _ :: _, h, _, _ => by simp at h
  | _ :: _, [], h, _, _ => by simp at h
  | h :: hs, b :: bs, e, 0, _ => rfl
  | h :: hs, b :: bs, e, i + 1, hi => by
    rw [bcs, List.getElem?_cons_succ, bcs_get hs bs (by simpa using e) i (by simpa using hi)]
    rfl
theorem bcs_set : ∀ (hs : List Hd) (bs : List (List En)), hs.length = bs.length → ∀ i h b, (bcs hs bs).set i (.slice h.A b.length h.c) = bcs (hs.set i h) (bs.set i b)
  | [], [], _, i, h, b => rfl
  | [], _ :: _, h, _, _, _ => by simp at h
  | _ :: _, [], h, _, _, _ => by simp at h
  | h :: hs, b :: bs, e, 0, _, _ => rfl
  | h :: hs, b :: bs, e, i + 1, h', b' => by
    rw [bcs, List.set_cons_succ, bcs_set hs bs (by simpa using e) i h' b']
    rfl
theorem flat_at {α : Type} (n : Nat) (f : α → List Value) (hf : ∀ a, (f a).length = n) (l : List α) (d : α) (i : Int) (h0 : 0 ≤ i) (h1 : i < l.length) : ∀ (j : Nat) (v : Value), (f (l.getD i.toNat d))[j]? = some v → (l.flatMap f)[i.toNat * n + j]? = some v := fun j v hj => by
  have hlt : i.toNat < l.length := by omega
  have hj' : j < n := by have := (List.getElem?_eq_some_iff.1 hj).1; rwa [hf] at this
  rw [flat_get n f hf l i.toNat (l.getD i.toNat d) j (by rw [List.getD_eq_getElem?_getD, List.getElem?_eq_getElem hlt]; rfl) hj']
  exact hj
theorem ecs_at (l : List En) (i : Int) (h0 : 0 ≤ i) (h1 : i < l.length) : ∀ (j : Nat) (v : Value), [I (l.getD i.toNat en0).t, I (l.getD i.toNat en0).tag, I (l.getD i.toNat en0).v][j]? = some v → (ecs l)[i.toNat * 3 + j]? = some v := flat_at 3 (fun e : En => [I e.t, I e.tag, I e.v]) (fun _ => rfl) l en0 i h0 h1
theorem kcs_at (l : List Ki) (i : Int) (h0 : 0 ≤ i) (h1 : i < l.length) : ∀ (j : Nat) (v : Value), [I (l.getD i.toNat ki0).t, I (l.getD i.toNat ki0).ah][j]? = some v → (kcs l)[i.toNat * 2 + j]? = some v := flat_at 2 (fun e : Ki => [I e.t, I e.ah]) (fun _ => rfl) l ki0 i h0 h1
theorem ints_at (l : List Int) (i : Int) (h0 : 0 ≤ i) (h1 : i < l.length) : (l.map I)[i.toNat * 1]? = some (I (l.getD i.toNat 0)) := by
  have hlt : i.toNat < l.length := by omega
  rw [Nat.mul_one, List.getElem?_map, List.getElem?_eq_getElem hlt, List.getD_eq_getElem?_getD, List.getElem?_eq_getElem hlt]
  rfl
theorem RS.addr {L : Nat → Prop} {h : Hd} {n : Nat} {cs : List Value} {w : World} (hr : RS L h n cs w) (h0 : 0 < cs.length) : ∃ b p, h.A = some ⟨b, p, none⟩ := by
  obtain ⟨b, o, e, _⟩ := hr.r h0
  exact ⟨b, o, e⟩
theorem RS.rng {L : Nat → Prop} {h : Hd} {n : Nat} {cs : List Value} {w : World} (hr : RS L h n cs w) {b p : Nat} (hA : h.A = some ⟨b, p, none⟩) (m : Nat) {vs : List Value} (h0 : 0 < cs.length) (hv : ∀ (j : Nat) (v : Value), vs[j]? = some v → cs[m + j]? = some v) : ∀ (j : Nat) (v : Value), vs[j]? = some v → w.cell? ⟨b, p + m + j, none⟩ = some v := fun j v hj => by
  obtain ⟨b', o, e, _, _, hc⟩ := hr.r h0
  rw [hA] at e
  cases e
  rw [Nat.add_assoc]
  exact hc _ v (hv j v hj)
theorem RS.one {L : Nat → Prop} {h : Hd} {n : Nat} {cs : List Value} {w : World} (hr : RS L h n cs w) {b p : Nat} (hA : h.A = some ⟨b, p, none⟩) (m : Nat) {v : Value} (hv : cs[m]? = some v) : w.cell? ⟨b, p + m, none⟩ = some v := by
  have h0 : 0 < cs.length := by have := (List.getElem?_eq_some_iff.1 hv).1; omega
  have := hr.rng hA m (vs := [v]) h0 (fun j u hj => by
    cases j with
    | zero => simpa using hj ▸ hv
    | succ j => simp at hj) 0 v rfl
  simpa using this
/-- Boxes that can be read. -/
def RB (L : Nat → Prop) (h : Hd) (bs : List (List En)) (w : World) : Prop :=
  ∃ hs : List Hd, hs.length = bs.length ∧ RS L h bs.length (bcs hs bs) w ∧ ∀ i, i < bs.length → RS L (hs.getD i hd0) (bs.getD i []).length (ecs (bs.getD i [])) w
theorem RB.step {L L' : Nat → Prop} {h : Hd} {bs : List (List En)} {W W' : World} (hr : RB L h bs W) (hs : W.heap.size ≤ W'.heap.size) (hb : ∀ k, ¬ L k → k < W.heap.size → W'.heap[k]? = W.heap[k]?) (hL : ∀ k, k < W.heap.size → L' k → L k) : RB L' h bs W' := by
  obtain ⟨hs', h1, h2, h3⟩ := hr
  exact ⟨hs', h1, h2.step hs hb hL, fun i hi => (h3 i hi).step hs hb hL⟩
theorem RB.kn {L : Nat → Prop} {O : List Nat} {h : Hd} {bs : List (List En)} {W : World} (hr : RB (Av L O) h bs W) : Kn (fun O W => RB (Av L O) h bs W) O W :=
  fun O' W' g => hr.step g.size (ext_av g).1 (ext_av g).2
theorem RB.weak {L : Nat → Prop} {O : List Nat} {h : Hd} {bs : List (List En)} {W : World} (hr : RB (Av L O) h bs W) : RB L h bs W :=
  hr.step (Nat.le_refl _) (fun _ _ _ => rfl) (fun _ _ h => .inl h)
theorem RB.av0 {L : Nat → Prop} {h : Hd} {bs : List (List En)} {W : World} (hr : RB L h bs W) : RB (Av L []) h bs W :=
  hr.step (Nat.le_refl _) (fun _ _ _ => rfl) (fun _ _ h => h.elim id fun h => by cases h)
theorem RS.kn0 {L : Nat → Prop} {h : Hd} {n : Nat} {cs : List Value} {W : World} (hr : RS L h n cs W) : Kn (fun O W => RS (Av L O) h n cs W) [] W := hr.av0.kn
theorem RB.kn0 {L : Nat → Prop} {h : Hd} {bs : List (List En)} {W : World} (hr : RB L h bs W) : Kn (fun O W => RB (Av L O) h bs W) [] W := hr.av0.kn
/-- What each box of hs holds. -/
def RI (L : Nat → Prop) (hs : List Hd) (bs : List (List En)) (w : World) : Prop := ∀ i, i < bs.length → RS L (hs.getD i hd0) (bs.getD i []).length (ecs (bs.getD i [])) w
theorem RI.kn {L : Nat → Prop} {O : List Nat} {hs : List Hd} {bs : List (List En)} {W : World} (hr : RI (Av L O) hs bs W) : Kn (fun O W => RI (Av L O) hs bs W) O W :=
  fun O' W' g i hi => (hr i hi).step g.size (ext_av g).1 (ext_av g).2
theorem RI.weak {L : Nat → Prop} {O : List Nat} {hs : List Hd} {bs : List (List En)} {W : World} (hr : RI (Av L O) hs bs W) : RI L hs bs W := fun i hi => (hr i hi).weak
theorem RI.kn0 {L : Nat → Prop} {hs : List Hd} {bs : List (List En)} {W : World} (hr : RI L hs bs W) : Kn (fun O W => RI (Av L O) hs bs W) [] W := RI.kn (O := []) fun i hi => (hr i hi).av0
theorem bcs_at (hs : List Hd) (bs : List (List En)) (hl : hs.length = bs.length) (i : Int) (h0 : 0 ≤ i) (h1 : i < bs.length) : (bcs hs bs)[i.toNat * 1]? = some (.slice (hs.getD i.toNat hd0).A (bs.getD i.toNat []).length (hs.getD i.toNat hd0).c) := by
  rw [Nat.mul_one]; exact bcs_get hs bs hl i.toNat (by omega)
theorem RB.put {L : Nat → Prop} {hd hx : Hd} {hs : List Hd} {bs : List (List En)} {x : List En} {w : World} (i n : Nat) (hn : n = (bs.set i x).length) (hl : hs.length = bs.length) (h1 : RS L hd n (bcs (hs.set i hx) (bs.set i x)) w) (hi : RI L hs bs w) (h2 : RS L hx x.length (ecs x) w) : RB L hd (bs.set i x) w := by
  subst hn
  refine ⟨hs.set i hx, by simp [hl], h1, fun j hj => ?_⟩
  rw [List.length_set] at hj
  simp only [List.getD_eq_getElem?_getD, List.getElem?_set]
  by_cases e : i = j
  · subst e
    rw [if_pos rfl, if_pos rfl, if_pos hj, if_pos (hl ▸ hj)]
    exact h2
  · rw [if_neg e, if_neg e]
    have := hi j hj
    simpa only [List.getD_eq_getElem?_getD] using this
/-- Where a turn's slices lie. -/
structure Sl where
  words : Hd
  boxes : Hd
  batch : Hd
  kids : Hd
  held : Hd
  tl : Hd
  log : Hd
structure RTL (L : Nat → Prop) (s : Sl) (words : List Int) (boxes : List (List En)) (batch : List En) (kids : List Ki) (held : List Int) (tl : List Int) (log : List Mk) (w : World) : Prop where
  words : RS L s.words words.length (words.map I) w
  boxes : RB L s.boxes boxes w
  batch : RS L s.batch batch.length (ecs batch) w
  kids : RS L s.kids kids.length (kcs kids) w
  held : RS L s.held held.length (held.map I) w
  tl : RS L s.tl tl.length (tl.map I) w
  log : RS L s.log log.length (mcs log) w
abbrev RT (L : Nat → Prop) (s : Sl) (T : Tn) (w : World) : Prop := RTL L s T.m.words T.m.boxes T.th.batch T.th.kids T.th.held T.tp.l T.log w
section
variable {L L' : Nat → Prop} {s : Sl} {words : List Int} {boxes : List (List En)} {batch : List En} {kids : List Ki} {held : List Int} {tl : List Int} {log : List Mk} {W W' : World}
theorem RTL.step (hr : RTL L s words boxes batch kids held tl log W) (hs : W.heap.size ≤ W'.heap.size) (hb : ∀ k, ¬ L k → k < W.heap.size → W'.heap[k]? = W.heap[k]?) (hL : ∀ k, k < W.heap.size → L' k → L k) : RTL L' s words boxes batch kids held tl log W' :=
  ⟨hr.words.step hs hb hL, hr.boxes.step hs hb hL, hr.batch.step hs hb hL, hr.kids.step hs hb hL, hr.held.step hs hb hL, hr.tl.step hs hb hL, hr.log.step hs hb hL⟩
theorem RTL.kn {O : List Nat} (hr : RTL (Av L O) s words boxes batch kids held tl log W) : Kn (fun O W => RTL (Av L O) s words boxes batch kids held tl log W) O W :=
  fun O' W' g => hr.step g.size (ext_av g).1 (ext_av g).2
theorem RTL.weak {O : List Nat} (hr : RTL (Av L O) s words boxes batch kids held tl log W) : RTL L s words boxes batch kids held tl log W :=
  hr.step (Nat.le_refl _) (fun _ _ _ => rfl) (fun _ _ h => .inl h)
theorem RTL.av0 (hr : RTL L s words boxes batch kids held tl log W) : RTL (Av L []) s words boxes batch kids held tl log W :=
  hr.step (Nat.le_refl _) (fun _ _ _ => rfl) (fun _ _ h => h.elim id fun h => by cases h)
theorem RTL.kn0 (hr : RTL L s words boxes batch kids held tl log W) : Kn (fun O W => RTL (Av L O) s words boxes batch kids held tl log W) [] W := hr.av0.kn
end
/-- A turn's cells. -/
def tc (T : Tn) (s : Sl) : Array Value := #[I T.c.th, I T.c.it, I T.c.be, I T.c.de, I T.c.la, I T.c.wi, I T.c.sp, I T.c.wa, .bool T.c.bo, I T.c.lo, I T.c.hi, I T.c.ini, I T.t, I T.now, .slice s.words.A T.m.words.length s.words.c, .slice s.boxes.A T.m.boxes.length s.boxes.c, I T.th.ph, I T.th.item, I T.th.tag, I T.th.v, .slice s.batch.A T.th.batch.length s.batch.c, .slice s.kids.A T.th.kids.length s.kids.c, .slice s.held.A T.th.held.length s.held.c, I T.th.stop, I T.th.node, I T.th.at_, I T.th.layer, I T.th.left, I T.th.width, I T.th.who, I T.th.x, I T.th.y, I T.th.until_, .slice s.tl.A T.tp.l.length s.tl.c, I T.tp.i, .slice s.log.A T.log.length s.log.c, .bool T.done]
/-- A memory's cells, a thread's. -/
def mc (m : Mem) (a b : Hd) : Array Value := #[.slice a.A m.words.length a.c, .slice b.A m.boxes.length b.c]
def thc (t : Th) (a b c : Hd) : Array Value := #[I t.ph, I t.item, I t.tag, I t.v, .slice a.A t.batch.length a.c, .slice b.A t.kids.length b.c, .slice c.A t.held.length c.c, I t.stop, I t.node, I t.at_, I t.layer, I t.left, I t.width, I t.who, I t.x, I t.y, I t.until_]
/-- What a call leaves that returns a turn. -/
def RetT (L : Nat → Prop) (w : World) (T : Tn) (e : Ending) (w' : World) : Prop := ∃ s T1, T1 = T ∧ e = .returned (.agg (tc T1 s)) ∧ RT L s T1 w' ∧ Below w.heap.size w w'
def RetB (L : Nat → Prop) (w : World) (T : Tn) (b : Bool) (e : Ending) (w' : World) : Prop := ∃ s T1, T1 = T ∧ e = .returned (.tuple [.agg (tc T1 s), .bool b].toArray) ∧ RT L s T1 w' ∧ Below w.heap.size w w'
def cf0 : Cf := ⟨0, 0, 0, 0, 0, 0, 0, 0, false, 0, 0, 0⟩
def tn0 : Tn := ⟨cf0, 0, 0, ⟨[], []⟩, th0, ⟨[], 0⟩, [], false⟩
def sl0 : Sl := ⟨hd0, hd0, hd0, hd0, hd0, hd0, hd0⟩
end
end Go.Proofs.YtgbkjnikcnjbkaaGreat.Top
